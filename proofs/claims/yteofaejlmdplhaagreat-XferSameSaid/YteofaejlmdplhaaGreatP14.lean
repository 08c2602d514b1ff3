/- Laws and walks that the proof of the statement is made of (part 14). -/
import Derived.Test.YteofaejlmdplhaaGreatP13
set_option linter.unusedSimpArgs false
set_option linter.unusedVariables false
namespace Go.Proofs.X
open Go.RowKit
set_option maxRecDepth 100000
def IL (v : Value) : Nat := match v with | .slice _ n _ => n | _ => 0
theorem Sl.slLen {k : Nat} {w : World} {v : Value} {es : List (List Value)} (h : Sl k w v es) : IL v = es.length := by
 obtain ⟨a, cap, rfl, _⟩ := h
 rfl
def ZEU (B : Nat) (q : ZE) (r : Value) (w' : World) : Prop := ∃ y, r = .tuple #[.agg #[aI q.o, y], .int .i64 q.e] ∧ SetsO B w' y q.l
theorem ZEU.bad {B : Nat} {e : Int} {w' : World} : ZEU B (ZE.bad e) (.tuple #[.agg aM.toArray, .int .i64 e]) w' := ⟨.slice none 0 0, rfl, SetsO.nil _ _⟩
theorem AX {l : List Rec} (h : l ≠ []) : (aD l)[0]? = some [aI (bD l).name, .int .i64 (bD l).kind, .int .i64 (bD l).ttl, aI (bD l).data] := by
 cases l with
 | nil => exact absurd rfl h
 | cons r t => rfl
theorem kH {l : List Rec} (h : l ≠ []) : bD l ∈ l := by
 cases l with
 | nil => exact absurd rfl h
 | cons r t => exact List.mem_cons_self
section
variable {P : Program} {a : Act} {w : World} {Q : Exit → Act → World → Prop}
theorem zB {c body : Code} (l : Nat) (J : Act → World → Prop) (μ : Act → World → Nat) (hf : findLabel c l = some (Code.skip.seq body))
 (pass : ∀ a w, J a w → body.wp P (Exit.jump l (fun a' w' => J a' w' ∧ μ a' w' < μ a w) Q) a w)
 (first : (∀ a w, J a w → body.wp P (Exit.jump l J Q) a w) → c.wp P (Exit.jump l J Q) a w) : (Code.scope c).wp P Q a w :=
 wp_scope_jumps l J μ hf (first fun a w h => wp_mono (pass a w h) (by intro e a' w' hq; cases e <;> first | exact hq | exact ⟨hq.1, hq.2.1⟩)) (fun a w h => by
  have h' := pass a w h
  apply wp_seq_k
  intro K hK
  apply wp_skip
  exact hK _ _ h')
end
set_option maxHeartbeats 8000000 in
theorem JX (o : List UInt8) (v : Value) (l : List RSet) (rv : Value) (rs : List Rec) (w : World) (hv : SetsAt w v l) (hr : Sl 4 w rv (aD rs)) (bl : ∀ s ∈ l, s.data.length ≤ 1000000) (dl : ∀ s ∈ l, ∀ d ∈ s.data, d.length ≤ 1000000) (h1 : (aF l).length ≤ 5000) (h2 : rs.length ≤ 5000) (dn : ∀ q ∈ rs, q.data.length ≤ 1000000) (hne : rs ≠ []) :
 Calls Tryz.prog 111 #[.agg #[aI o, v], rv] w (jE w (ZEU w.heap.size (kW o l rs))) := by
 go_enter Tryz.func111, Tryz.ntmps111
 refine_lift hY fun _ _ => ?_
 refine eD (vs := [aI o, v]) rfl rfl ?_
 intro w1 x1 s1 hb1
 refine aA ?_
 refine aG (z := aM) rfl (by decide +kernel) ?_
 intro w2 x2 s2 hb2
 refine aA ?_
 refine_lift aS ?_
 generalize hb1e : w.heap.size = b1 at *
 generalize hb2e : w1.heap.size = b2 at *
 refine zB 0 (fun a' wr => ∃ (rs' : List Rec) (l' : List RSet) (o' : List UInt8) (v' rv' u6 u7 u8 u9 u10 u11 u12 u13 u14 u15 u16 u17 u18 u19 u20 u21 u22 u23 u24 u25 u26 u27 u28 u29 u30 u31 u32 u33 u34 u35 u36 u37 u38 u39 u40 u41 u42 u43 u44 u45 u46 u47 u48 u49 u50 u51 : Value), a' = Act.mk [.agg #[aI o, v], rv', .pointer (some ⟨b1, 0, none⟩), undef, .pointer (some ⟨b2, 0, none⟩), .int .i64 0, u6, u7, u8, u9, u10, u11, u12, u13, u14, u15, u16, u17, u18, u19, u20, u21, u22, u23, u24, u25, u26, u27, u28, u29, u30, u31, u32, u33, u34, u35, u36, u37, u38, u39, u40, u41, u42, u43, u44, u45, u46, u47, u48, u49, u50, u51].toArray [] ∧
  Sl 4 w rv' (aD rs') ∧ wr.heap[b1]? = some (.cells [aI o', v'].toArray 25 (0, 0)) ∧ wr.heap[b2]? = some (.cells aM.toArray 25 (0, 0)) ∧ SetsAt wr v' l' ∧ (rs' ≠ [] ∨ SetsO w2.heap.size wr v' l') ∧ kW o l rs = kW o' l' rs' ∧ Ext w wr ∧ w2.heap.size ≤ wr.heap.size ∧ (∀ q ∈ rs', q ∈ rs) ∧ rs'.length ≤ 5000 ∧ (∀ s ∈ l', s.data.length ≤ 1000000) ∧ (∀ s ∈ l', ∀ d ∈ s.data, d.length ≤ 1000000) ∧ (aF l').length ≤ 5000)
  (fun a' _ => IL (a'.tmps.getD 1 undef)) rfl ?_ ?_
 ·rintro a' wr ⟨rs', l', o', v', rv', u6, u7, u8, u9, u10, u11, u12, u13, u14, u15, u16, u17, u18, u19, u20, u21, u22, u23, u24, u25, u26, u27, u28, u29, u30, u31, u32, u33, u34, u35, u36, u37, u38, u39, u40, u41, u42, u43, u44, u45, u46, u47, u48, u49, u50, u51, rfl, hs0, hz, hy, hv', hown, hch, hx, hsz, hmem, hlen, bl', dl', h1'⟩
  have hpz := aE (cs := [aI o', v']) hz
  have hrl := aL rs'
  have hs := hs0.ext hx
  by_cases he : rs' = []
  ·subst he
   have hO : SetsO w2.heap.size wr v' l' := by
    rcases hown with h | h
    ·exact absurd rfl h
    ·exact h
   have hv1' : v'.oneCell' = true := by obtain ⟨_, hq, _⟩ := hv'.sl; exact hq.one
   refine_lift oM ?_; intro _ _ _ _ _ _
   refine aC (v := .agg #[aI o', v']) rfl rfl rfl hy (show aO Tryz.prog 25 2 = true by decide +kernel) rfl (bE hv1') ?_
   intro w3 p3
   refine_lift aS ?_
   simp only [Exit.inBlock, Exit.then, Exit.jump]
   have hb2lt : b2 < w2.heap.size := by omega
   have x3 : Ext w w3 := hx.move p3.mv (by rintro k ⟨⟩; omega)
   have hO3 := hO.put p3 hb2lt
   refine bodyPost_ret (aH (cs := [aI o', v']) rfl rfl p3.this (show dY Tryz.prog 25 2 = true by decide +kernel)) rfl ⟨_, rfl, x3, ?_⟩
   rw [hch, xP]
   exact ⟨v', rfl, hO3.weaken (by omega)⟩
  ·have he0 : ¬ ((aD rs').length : Int) = 0 := by
    have := List.length_pos_iff.2 he
    omega
   refine_lift gV ?_; intro _ _ _ _
   all_goals first
    | (exact absurd ‹((aD rs').length : Int) = 0› he0)
    | skip
   have hpn := eN he
   obtain ⟨hg0, hsv0⟩ := parts hs0 hpn.2
   refine aB (enters_of Tryz.func167 rfl rfl) rfl rfl (MV rv' rs' _ hs he (by omega)) ?_; intro w3 x3; refine aA ?_
   generalize cK rv' 4 0 (partN rs') = gv at *
   generalize cK rv' 4 (partN rs') rs'.length = sv at *
   have hg := hg0.ext (hx.trans x3)
   have hsv := hsv0.ext (hx.trans x3)
   refine_lift rG (fun _ _ _ => ?_) (fun _ _ _ _ _ => ?_)
   ·have hre : rs'.drop (partN rs') = [] := by
     have h0 : ((aD (rs'.drop (partN rs'))).length : Int) = 0 := by assumption
     rw [aL] at h0
     exact List.eq_nil_of_length_eq_zero (by omega)
    refine aQ (v := .agg aM.toArray) rfl (Runs.build0 (by kernel_rfl)) ?_
    refine aA ?_
    refine aC (v := .agg aM.toArray) rfl rfl rfl (x3.at hy) (show aO Tryz.prog 25 2 = true by decide +kernel) rfl (by decide +kernel) ?_
    intro w4 p4
    refine_lift aS ?_
    simp only [Exit.inBlock, Exit.then, Exit.jump]
    have x4 : Ext w w4 := (hx.trans x3).move p4.mv (by rintro k ⟨⟩; omega)
    refine bodyPost_ret (aH (cs := aM) rfl rfl p4.this (by decide +kernel)) rfl ⟨_, rfl, x4, ?_⟩
    rw [hch, lP _ _ he, if_pos hre]
    exact ZEU.bad
   ·have hre : rs'.drop (partN rs') ≠ [] := by
     intro e
     have h0 : ¬ ((aD (rs'.drop (partN rs'))).length : Int) = 0 := by assumption
     rw [e] at h0
     exact h0 rfl
    obtain ⟨hc0, htv0⟩ := parts hsv0 (eN hre).2
    refine aB (enters_of Tryz.func167 rfl rfl) rfl rfl (MV sv _ _ hsv hre (by rw [List.length_drop]; omega)) ?_; intro w4 x4; refine aA ?_
    generalize cK sv 4 0 (partN (rs'.drop (partN rs'))) = cv at *
    generalize cK sv 4 (partN (rs'.drop (partN rs'))) (rs'.drop (partN rs')).length = tv at *
    have hc := hc0.ext (hx.trans (x3.trans x4))
    have htv := htv0
    refine_lift bY fun _ _ => ?_
    have hy4 := (x3.trans x4).at hy
    have hz4 := (x3.trans x4).at hz
    have hv4 := hv'.ext (x3.trans x4)
    have hg4 := hg.ext x4
    have hx4 := hx.trans (x3.trans x4)
    have hpz4 := aE (cs := [aI o', v']) hz4
    obtain ⟨gone, hgone⟩ : ∃ gone, gone = rs'.take (partN rs') := ⟨_, rfl⟩
    obtain ⟨rest, hrest⟩ : ∃ rest, rest = rs'.drop (partN rs') := ⟨_, rfl⟩
    obtain ⟨come, hcome⟩ : ∃ come, come = rest.take (partN rest) := ⟨_, rfl⟩
    obtain ⟨tail, htail⟩ : ∃ tail, tail = rest.drop (partN rest) := ⟨_, rfl⟩
    have hstep := lP o' l' he
    rw [← hgone, ← hrest] at hstep
    rw [← hcome, ← htail] at hstep
    rw [← hgone] at hg4
    rw [← hrest, ← hcome] at hc
    rw [← hrest, ← htail] at htv
    rw [← hrest] at hre
    have hgne : gone ≠ [] := by
     intro e
     have h0 := congrArg List.length e
     have := eN he
     rw [hgone, List.length_take, List.length_nil] at h0
     omega
    have hcne : come ≠ [] := by
     intro e
     have h0 := congrArg List.length e
     have := eN hre
     rw [hcome, List.length_take, List.length_nil] at h0
     omega
    have hmg : ∀ q ∈ gone, q ∈ rs := fun q hq => hmem q (List.mem_of_mem_take (hgone ▸ hq))
    have hmr : ∀ q ∈ rest, q ∈ rs := fun q hq => hmem q (List.mem_of_mem_drop (hrest ▸ hq))
    have hmc : ∀ q ∈ come, q ∈ rs := fun q hq => hmr q (List.mem_of_mem_take (hcome ▸ hq))
    have hmt : ∀ q ∈ tail, q ∈ rs := fun q hq => hmr q (List.mem_of_mem_drop (htail ▸ hq))
    have hln : rest.length ≤ rs'.length ∧ come.length ≤ rest.length ∧ tail.length < rest.length := by
     have h3 := eN hre
     rw [hcome, htail, List.length_take, List.length_drop]
     refine ⟨?_, by omega, by omega⟩
     rw [hrest, List.length_drop]; omega
    have hgd := dn _ (hmg _ (kH hgne))
    have hcd := dn _ (hmc _ (kH hcne))
    have pg : Pts w4 (bX gv (0 * 4)) _ := hg4.elem (AX hgne)
    have pc : Pts w4 (bX cv (0 * 4)) _ := hc.elem (AX hcne)
    have hgl : 0 < (aD gone).length := by rw [aL]; exact List.length_pos_iff.2 hgne
    have hcl : 0 < (aD come).length := by rw [aL]; exact List.length_pos_iff.2 hcne
    refine cG 16 (Ext w4) (by decide +kernel) ?_
    intro w5 x5 _
    refine ⟨x5, ?_⟩
    refine eL 0 ?_
    refine iN 1 ?_
    refine kK 2 rfl (fun _ => Runs.idxW (n := 0) rfl hg4 hgl (by decide +kernel)) ?_; refine aA ?_
    refine eL 3 ?_
    refine iN 5 ?_
    refine kK 6 rfl (fun _ => Runs.idxW (n := 0) rfl hc hcl (by decide +kernel)) ?_; refine aA ?_
    refine eL 7 ?_
    refine iN 9 ?_; refine iN 10 ?_
    refine bV (i := 4) (by decide +kernel) rfl rfl ?_
    refine aB (enters_of Tryz.func64 rfl rfl) rfl rfl (qV (bD gone) _ (by omega)) ?_; intro w6 x6; refine aA ?_
    have x56 := x5.trans x6
    refine aJ ⟨dF x56, ?_⟩
    refine bV (i := 8) (by decide +kernel) rfl rfl ?_
    refine aB (enters_of Tryz.func64 rfl rfl) rfl rfl (qV (bD come) _ (by omega)) ?_; intro w7 x7; refine aA ?_
    have x7 := x56.trans x7
    refine aJ ⟨dF x7, ?_⟩
    refine kK 11 (v := .agg #[.int .i64 (dW (bD gone)), .int .i64 (dW (bD come)), gv, cv]) rfl (fun _ => Runs.build rfl (by obtain ⟨_, _, _, rfl⟩ := hg4.slf; obtain ⟨_, _, _, rfl⟩ := hc.slf; kernel_rfl)) ?_; refine aA ?_
    refine bV (i := 12) (by decide +kernel) rfl rfl ?_
    have hD : DelA (dR gone come) (.agg #[.int .i64 (dW (bD gone)), .int .i64 (dW (bD come)), gv, cv]) w7 := ⟨gv, cv, rfl, hg4.ext x7, hc.ext x7⟩
    refine aK (enters_of Tryz.func168 rfl rfl) rfl rfl (OV o' v' l' w7 (hv4.ext x7) hD bl' dl' h1' (by show come.length ≤ 5000; omega) (fun q hq => dn q (hmc q hq))) ?_
    rintro _ w8 x8 ⟨y, rfl, hO⟩
    refine aA ?_
    refine aJ ⟨dF (x7.trans x8), ?_⟩
    refine iN 13 ?_; refine iN 14 ?_; refine iN 15 ?_
    refine bV (i := 16) (by decide +kernel) rfl rfl ?_
    have hy1 : y.oneCell' = true := by obtain ⟨_, hq, _⟩ := hO.sets.sl; exact hq.one
    have hx8 := hx4.trans (x7.trans x8)
    have hz8 := (x7.trans x8).at hz4
    have hy8 := (x7.trans x8).at hy4
    have hsz8 := hx8.size
    have hsz7 := (hx4.trans x7).size
    have hw7 : w2.heap.size ≤ w7.heap.size := Nat.le_trans hsz ((x3.trans x4).trans x7).size
    refine aC (v := .agg #[aI (lM o' l' (dR gone come)), y]) rfl rfl rfl hz8 (show aO Tryz.prog 25 2 = true by decide +kernel) rfl (bE hy1) ?_
    intro w9 p9
    refine aJ ⟨cJ rfl, ?_⟩
    refine iN 17 ?_
    refine cZ (by decide +kernel) ?_
    have x9 : Ext w w9 := hx8.move p9.mv (by rintro k ⟨⟩; omega)
    have hO9 := hO.put p9 (by omega)
    have hy9 := p9.mv.at hy8 (by rintro ⟨⟩; omega)
    by_cases e0 : gL o' l' (dR gone come) = 0
    ·rw [if_neg hre, if_pos e0] at hstep
     obtain ⟨z1, z2⟩ := xR e0
     obtain ⟨j1, j2, j3, j4⟩ := nX z1
     refine_lift kL fun _ _ _ => ?_
     go_step3
     simp only [Exit.inBlock, Exit.then, Exit.jump]
     refine ⟨rfl, ⟨tail, _, _, y, tv, _, _, _, _, _, _, _, _, _, _, _, _, _, _, _, _, _, _, _, _, _, _, _, _, _, _, _, _, _, _, _, _, _, _, _, _, _, _, _, _, _, _, _, _, _, _, rfl, htv, p9.this, hy9, hO9.sets, .inr (hO9.weaken hw7), hch.trans hstep, x9, by have := p9.size; have := x8.size; omega, hmt, by omega, fun s hs => by have := j2 s hs; omega, fun s hs d hd => by have := j3 s hs d hd; omega, by omega⟩, ?_⟩
     show IL tv < IL rv'
     rw [htv.slLen, hs0.slLen, aL, aL]
     omega
    ·rw [if_neg hre, if_neg e0] at hstep
     refine_lift QK (fun _ _ _ _ => ?_) (fun _ _ _ _ => ?_)
     all_goals
      refine aQ (v := .agg aM.toArray) rfl (Runs.build0 (by kernel_rfl)) ?_
      refine aA ?_
      refine_lift aS ?_
      refine aC (v := .agg aM.toArray) rfl rfl rfl hy9 (show aO Tryz.prog 25 2 = true by decide +kernel) rfl (by decide +kernel) ?_
      intro w10 p10
      refine_lift aS ?_
      simp only [Exit.inBlock, Exit.then, Exit.jump]
      have x10 : Ext w w10 := x9.move p10.mv (by rintro k ⟨⟩; omega)
      refine bodyPost_ret (aH (cs := aM) rfl rfl p10.this (by decide +kernel)) rfl ⟨_, rfl, x10, ?_⟩
      rw [hch, hstep]
     ·rw [if_pos (by assumption)]; exact ZEU.bad
     ·rw [if_neg (by assumption)]; exact ZEU.bad
 ·intro hp
  refine_lift kL ?_; intro _ _ _
  go_step3
  (first | ((with_reducible refine cY ?_); go_step) | fail)
  (first | ((with_reducible refine cY ?_); go_step) | fail)
  refine hp _ _ ?_
  exact ⟨rs, l, o, v, rv, _, _, _, _, _, _, _, _, _, _, _, _, _, _, _, _, _, _, _, _, _, _, _, _, _, _, _, _, _, _, _, _, _, _, _, _, _, _, _, _, _, _, _, _, _, _, rfl, hr, x2.at hb1, hb2, hv.ext (x1.trans x2), .inl hne, rfl, x1.trans x2, Nat.le_refl _, fun q hq => hq, h2, bl, dl, h1⟩
section
variable {P : Program} {w w' : World} {d : Option Nat} {ty : TypeId} {ps : String} {af : Array Edge} {g : Option (Nat × Bool)} {a : Act}
theorem Runs.toU {s t : TypeId} {x : Operand} {n : Nat} (hx : a.eval x = .int .i64 (n : Nat)) (hu : lD P s .i64 = true) (ht : lD P t .u64 = true) (h : n < 4611686018427387904) :
 Runs P (Oper.mk d (.convert s t x) ty ps af g) a w (.int .u64 (n : Nat)) := Runs.convI hx hu ht (IntWalk.u64_in _ (by omega))
theorem Runs.ofU {s t : TypeId} {x : Operand} {n : Nat} (hx : a.eval x = .int .u64 (n : Nat)) (hu : lD P s .u64 = true) (ht : lD P t .i64 = true) (h : n < 4611686018427387904) :
 Runs P (Oper.mk d (.convert s t x) ty ps af g) a w (.int .i64 (n : Nat)) := Runs.convI hx hu ht (IntWalk.i64_in _ (by omega))
theorem Runs.shrU {t u : TypeId} {x y : Operand} {m : Nat} (hx : a.eval x = .int .u64 (m : Nat)) (hy : a.eval y = .int .u64 1) :
 Runs P (Oper.mk d (.binOp .shr t x y u) ty ps af g) a w (.int .u64 ((m / 2 : Nat) : Int)) := by
 have e : min (1 : Int).toNat IntKind.u64.bits = 1 := by decide
 constructor; simp only [execOp, hx, hy, eqGuard, binOp, shift_shr_any _ _ _ _ (by decide : (0 : Int) ≤ 1), e, Int.pow_one]; simp
theorem Runs.subE {t u : TypeId} {x y : Operand} {m n : Nat} (k : Nat) (hx : a.eval x = .int .i64 (m : Nat)) (hy : a.eval y = .int .i64 (n : Nat)) (h : m = n + k) (hm : m < 4611686018427387904) :
 Runs P (Oper.mk d (.binOp .sub t x y u) ty ps af g) a w (.int .i64 (k : Nat)) := by
 have h1 := Runs.sub (P := P) (w := w) (d := d) (ty := ty) (ps := ps) (af := af) (g := g) (t := t) (u := u) hx hy (by omega)
 rwa [show (m : Int) - (n : Int) = (k : Int) by omega] at h1
end
set_option maxHeartbeats 4000000 in
theorem MW {B : Nat} (v : Value) (x : Option Rec) (os : List Rec) (s m : Nat) (f : Value) (w : World) (h : Sx x os m) (ho : Own B 4 47 w v (aD (iW x os m))) (hs : s < m) (hm : m < pN x os) (hl : pN x os ≤ 1000000) :
 Calls Tryz.prog 224 #[v, .int .i64 s, .int .i64 m, .int .i64 (m + 1 : Nat), f] w fun e w' => e = .returned (.tuple #[]) ∧ Own B 4 47 w' v (aD (iW x os s)) ∧ Mv v.ownBlock w w' := by
 have hD := oU h
 have hrot := MU h hm hs
 generalize hDe : iW x os m = D at *
 go_enter Tryz.func224, Tryz.ntmps224
 refine_lift uL ?_; intro _ _ _
 ((with_reducible refine bR ?_); (first | (refine gW ?_; refine jA ?_) | (refine jG ?_; refine kJ ?_; (with_reducible refine bR ?_); refine gW ?_; refine jA ?_)))
 ((with_reducible refine bR ?_); (first | (refine gW ?_; refine jA ?_) | (refine jG ?_; refine kJ ?_; (with_reducible refine bR ?_); refine gW ?_; refine jA ?_)))
 refine bM (Runs.subE (m - s) rfl rfl (by omega) (by omega)) ?_
 refine aA ?_
 ((with_reducible refine bR ?_); (first | (refine gW ?_; refine jA ?_) | (refine jG ?_; refine kJ ?_; (with_reducible refine bR ?_); refine gW ?_; refine jA ?_)))
 refine_lift hY fun _ _ => ?_
 ((with_reducible refine bR ?_); (first | (refine gW ?_; refine jA ?_) | (refine jG ?_; refine kJ ?_; (with_reducible refine bR ?_); refine gW ?_; refine jA ?_)))
 ((with_reducible refine bR ?_); (first | (refine gW ?_; refine jA ?_) | (refine jG ?_; refine kJ ?_; (with_reducible refine bR ?_); refine gW ?_; refine jA ?_)))
 refine bM (Runs.subE 1 rfl rfl (by omega) (by omega)) ?_
 refine aA ?_
 refine_lift SE fun _ _ => ?_
 go_loopw [10, 11] (fun i j wr => ∃ t : Nat, t < m - s ∧ i = .int .i64 ((m - s - t : Nat) : Int) ∧ j = .int .i64 ((1 : Nat) : Int) ∧ Own B 4 47 wr v (aD (pO D s m t)) ∧ Mv v.ownBlock w wr) (fun i _ _ => (intOf i).toNat)
 case atStart => exact ⟨0, by omega, rfl, rfl, ho, Mv.refl _ _⟩
 case round =>
  obtain ⟨t, ht, rfl, rfl, ho1, m1⟩ := hrel
  have hrl := xZ D s m t
  obtain ⟨i, hi⟩ : ∃ i, i = m - s - t := ⟨_, rfl⟩
  rw [← hi]
  by_cases h1 : i = 1
  ·subst h1
   refine_lift aS ?_
   rw [show (m : Int) - ((1 : Nat) : Int) = ((s + t : Nat) : Int) by omega]
   refine bH (enters_of Tryz.func239 rfl rfl) rfl rfl (IK v _ (s + t) m f wr ho1 (by omega) (by omega) (by omega)) ?_
   rintro e w4 ⟨rfl, o4, m4⟩
   refine ⟨_, rfl, ?_⟩
   refine aA ?_
   refine_lift aS ?_
   go_end0
   have e : OX (pO D s m t) (s + t) m = pO D s m (m - s) := by
    rw [show m - s = t + 1 by omega]; rfl
   rw [e, hrot] at o4
   exact ⟨rfl, o4, m1.trans m4⟩
  ·have e1 : (!decide ((i : Int) = ((1 : Nat) : Int))) = true := by simp; omega
   (repeat' first | ((with_reducible refine cY ?_); go_step) | ((with_reducible refine bR ?_); first | refine fM ?_ | (refine dN ?_ ?_ <;> intro hc)) | fail)
   all_goals first
    | (exfalso
       have hh := ‹(!decide ((i : Int) = ((1 : Nat) : Int))) = false›
       rw [e1] at hh
       cases hh
       done)
    | skip
   rw [show (m : Int) - (i : Int) = ((s + t : Nat) : Int) by omega]
   refine bH (enters_of Tryz.func239 rfl rfl) rfl rfl (IK v _ (s + t) m f wr ho1 (by omega) (by omega) (by omega)) ?_
   rintro e w4 ⟨rfl, o4, m4⟩
   refine ⟨_, rfl, ?_⟩
   refine aA ?_
   refine_lift aS ?_
   refine ⟨⟨t + 1, by omega, by rw [show ((m - s - (t + 1) : Nat) : Int) = (i : Int) - 1 by omega]; rfl, rfl, o4, m1.trans m4⟩, by simp [intOf]; omega⟩
theorem pW {α : Type} {l : List α} {x : α} (h : x ∈ l.dropLast) : x ∈ l := by rw [List.dropLast_eq_take] at h; exact List.mem_of_mem_take h
theorem ZEU.cell {B : Nat} {q : ZE} {r : Value} {w : World} (h : ZEU B q r w) : ∃ y, r = .tuple #[.agg #[aI q.o, y], .int .i64 q.e] ∧ SetsO B w y q.l ∧ y.oneCell' = true := by
 obtain ⟨y, rfl, hy⟩ := h
 obtain ⟨_, hq, _⟩ := hy.sets.sl
 exact ⟨y, rfl, hy, hq.one⟩
theorem oA {l : List Rec} {i : Nat} (h : i < l.length) : (aD l)[i]? = some [aI (l.getD i bA).name, .int .i64 (l.getD i bA).kind, .int .i64 (l.getD i bA).ttl, aI (l.getD i bA).data] := oW h
set_option maxHeartbeats 8000000 in
theorem RC (oo : List UInt8) (v : Value) (lo : List RSet) (og : List UInt8) (lv : Value) (l : List Rec) (w : World) (hv : SetsAt w v lo) (hl : Sl 4 w lv (aD l)) (bl : ∀ s ∈ lo, s.data.length ≤ 1000000) (dl : ∀ s ∈ lo, ∀ d ∈ s.data, d.length ≤ 1000000) (h1 : (aF lo).length ≤ 5000) (h2 : l.length ≤ 5000) (h3 : 3 ≤ l.length) (dn : ∀ q ∈ l, q.data.length ≤ 1000000) :
 Calls Tryz.prog 63 #[.agg #[aI oo, v], aI og, lv] w (jE w (ZEU w.heap.size (eF oo lo og l))) := by
 have hrl := aL l
 have hpe : Pts w (bX lv (1 * 4)) _ := hl.elem (oA (i := 1) (by omega))
 go_enter Tryz.func63, Tryz.ntmps63
 refine_lift hY fun _ _ => ?_
 refine aZ (vs := [aI oo, v]) rfl rfl ?_
 intro p w1 x1 hp
 refine aA ?_
 refine aG (z := aM) rfl (by decide +kernel) ?_
 intro w2 x2 s2 hb2
 have hx2 := x1.trans x2
 have hsz2 := x1.size
 generalize hbe : w1.heap.size = b at *
 refine aA ?_
 ((with_reducible refine bR ?_); (first | (refine gW ?_; refine jA ?_) | (refine jG ?_; refine kJ ?_; (with_reducible refine bR ?_); refine gW ?_; refine jA ?_)))
 refine_lift hY fun _ _ => ?_
 ((with_reducible refine bR ?_); (first | (refine gW ?_; refine jA ?_) | (refine jG ?_; refine kJ ?_; (with_reducible refine bR ?_); refine gW ?_; refine jA ?_)))
 ((with_reducible refine bR ?_); (first | (refine gW ?_; refine jA ?_) | (refine jG ?_; refine kJ ?_; (with_reducible refine bR ?_); refine gW ?_; refine jA ?_)))
 rw [hrl]
 refine bM (Runs.subE (m := l.length) (n := 1) (l.length - 1) rfl rfl (by omega) (by omega)) ?_
 refine aA ?_
 refine_lift gV fun _ _ _ _ => ?_
 refine aB (enters_of Tryz.func61 rfl rfl) rfl rfl (mO (l.getD 1 bA) _) ?_; intro w3 x3; refine aA ?_
 have hx3 := hx2.trans x3
 have hp3 := hp.ext (x2.trans x3)
 obtain ⟨hq1, hq2⟩ := parts hl (n := l.length - 1) (by omega)
 have hdl : l.take (l.length - 1) = l.dropLast := (List.dropLast_eq_take ..).symm
 cases hs : aU (l.getD 1 bA) with
 | false =>
  have ht : eF oo lo og l = ⟨dE og l.dropLast, cH og l.dropLast, bT og l.dropLast⟩ := by rw [eF, if_pos hs]
  have hl3 := hl.ext hx3
  refine_lift bY fun _ _ => ?_
  rw [hdl] at hq1
  refine aK (enters_of Tryz.func36 rfl rfl) rfl rfl (GM og _ l.dropLast _ (hq1.ext hx3) (by rw [List.length_dropLast]; omega) (fun r hr => by have := dn r (pW hr); omega)) ?_
  rintro _ w4 x4 hU
  obtain ⟨y, rfl, hO, hy1⟩ := ZEU.cell (q := ⟨dE og l.dropLast, cH og l.dropLast, bT og l.dropLast⟩) hU
  refine aA ?_
  refine_lift aS ?_
  refine aC (v := .agg #[aI (cH og l.dropLast), y]) rfl rfl rfl ((x3.trans x4).at hb2) (show aO Tryz.prog 25 2 = true by decide +kernel) rfl (bE hy1) ?_
  intro w5 p5
  have hx4 := hx3.trans x4
  have x5 : Ext w w5 := hx4.move p5.mv (by rintro k ⟨⟩; omega)
  have hs3 := x3.size
  have hO5 := hO.put p5 (by omega)
  refine_lift aS ?_
  refine bodyPost_ret (aH (cs := [aI (cH og l.dropLast), y]) rfl rfl p5.this (show dY Tryz.prog 25 2 = true by decide +kernel)) rfl ⟨_, rfl, x5, ?_⟩
  rw [ht]
  exact ⟨y, rfl, hO5.weaken (by have := hx3.size; omega)⟩
 | true =>
  have ht : eF oo lo og l = if lo = [] then ZE.bad 5 else kW oo lo (l.dropLast.drop 1) := by rw [eF, if_neg (by rw [hs]; exact fun e => Bool.noConfusion e)]
  obtain ⟨cv, hcv, hcl⟩ := (hv.ext hx3).sl
  have hb3 := x3.at hb2
  have hs3 := x3.size
  refine_lift yS (fun _ _ _ => ?_) (fun _ _ _ => ?_)
  ·have hlo : lo = [] := by
    have h0 : (cv.length : Int) = 0 := by assumption
    exact List.eq_nil_of_length_eq_zero (by omega)
   refine aQ (v := .agg aM.toArray) rfl (Runs.build0 (by kernel_rfl)) ?_
   refine aA ?_
   refine aC (v := .agg aM.toArray) rfl rfl rfl hb3 (show aO Tryz.prog 25 2 = true by decide +kernel) rfl (by decide +kernel) ?_
   intro w4 p4
   refine_lift aS ?_
   have x4 : Ext w w4 := hx3.move p4.mv (by rintro k ⟨⟩; omega)
   refine bodyPost_ret (aH (cs := aM) rfl rfl p4.this (by decide +kernel)) rfl ⟨_, rfl, x4, ?_⟩
   rw [ht, if_pos hlo]
   exact ZEU.bad
  ·have hlo : lo ≠ [] := by
    rintro rfl
    have h0 : ¬ (cv.length : Int) = 0 := by assumption
    exact h0 (by rw [hcl]; rfl)
   have hcut := hl.cut (m := 1) (n := l.length - 1) (by omega) (by omega)
   have e1 : ((aD l).take (l.length - 1)).drop 1 = aD (l.dropLast.drop 1) := by rw [← hdl]; simp [aD, List.map_take, List.map_drop]
   rw [e1] at hcut
   refine cG 7 (Ext w3) (by decide +kernel) ?_
   intro w4 x4 _
   refine ⟨x4, ?_⟩
   have hl3 := hl.ext hx3
   refine eL 0 ?_
   refine iN 1 ?_; refine iN 2 ?_
   refine eL 3 ?_
   refine bV (i := 4) (by decide +kernel) rfl rfl ?_
   refine aK (enters_of Tryz.func111 rfl rfl) rfl rfl (JX oo v lo _ (l.dropLast.drop 1) w4 (hv.ext (hx3.trans x4)) (hcut.ext (hx3.trans x4)) bl dl h1 (by rw [List.length_drop, List.length_dropLast]; omega) (fun q hq => dn q (pW (List.mem_of_mem_drop hq))) (by
    intro e
    have := congrArg List.length e
    rw [List.length_drop, List.length_dropLast, List.length_nil] at this
    omega)) ?_
   rintro _ w5 x5 hU
   obtain ⟨y, rfl, hO, hy1⟩ := hU.cell
   refine aA ?_
   refine aJ ⟨dF (x4.trans x5), ?_⟩
   refine iN 5 ?_; refine iN 6 ?_
   refine bV (i := 7) (by decide +kernel) rfl rfl ?_
   have hx5 := hx3.trans (x4.trans x5)
   have hs5 := hx3.size
   have hs6 := x4.size
   refine aC (v := .agg #[aI (kW oo lo (l.dropLast.drop 1)).o, y]) rfl rfl rfl ((x4.trans x5).at hb3) (show aO Tryz.prog 25 2 = true by decide +kernel) rfl (bE hy1) ?_
   intro w6 p6
   refine aJ ⟨cJ rfl, ?_⟩
   refine iN 8 ?_
   refine cZ (by decide +kernel) ?_
   have x6 : Ext w w6 := hx5.move p6.mv (by rintro k ⟨⟩; omega)
   have hO6 := hO.put p6 (by omega)
   refine_lift aS ?_
   refine bodyPost_ret (aH (cs := [aI (kW oo lo (l.dropLast.drop 1)).o, y]) rfl rfl p6.this (show dY Tryz.prog 25 2 = true by decide +kernel)) rfl ⟨_, rfl, x6, ?_⟩
   rw [ht, if_neg hlo]
   exact ⟨y, rfl, hO6.weaken (by omega)⟩
end Go.Proofs.X
set_option linter.unusedSimpArgs false
set_option linter.unusedVariables false
namespace Go.Proofs.X
open Go.RowKit
end Go.Proofs.X
set_option linter.unusedSimpArgs false
set_option linter.unusedVariables false
namespace Go.Proofs.X
open Go.RowKit
end Go.Proofs.X
set_option linter.unusedSimpArgs false
set_option linter.unusedVariables false
namespace Go.Proofs.X
open Go.RowKit
set_option maxRecDepth 100000
theorem IM {oo : List UInt8} {lo : List RSet} {og : List UInt8} {l : List Rec} (h : (eF oo lo og l).e = 0) (hl : 2 < l.length) : ZoneOk (eF oo lo og l).o (eF oo lo og l).l := by
 unfold eF at h ⊢
 split at h
 ·rename_i d1
  rw [if_pos d1]
  exact tC h
 ·rename_i d1
  rw [if_neg d1]
  split at h
  ·cases h
  ·rename_i d2
   rw [if_neg d2]
   exact (xS _ _ (Nat.le_refl _) oo lo h (by
    intro e
    have := congrArg List.length e
    simp at this
    omega)).1
set_option maxHeartbeats 16000000 in
theorem fB (oo : List UInt8) (v : Value) (lo : List RSet) (og : List UInt8) (lv : Value) (l : List Rec) (w : World) (hv : SetsAt w v lo) (hl : Sl 4 w lv (aD l)) (bl : ∀ s ∈ lo, s.data.length ≤ 1000000) (dl : ∀ s ∈ lo, ∀ d ∈ s.data, d.length ≤ 1000000) (h1 : (aF lo).length ≤ 5000) (h2 : l.length ≤ 5000) (dn : ∀ q ∈ l, q.data.length ≤ 1000000) :
 Calls Tryz.prog 21 #[.agg #[aI oo, v], aI og, lv] w (jE w (ZEU w.heap.size (bW oo lo og l))) := by
 have hrl := aL l
 go_enter Tryz.func21, Tryz.ntmps21
 refine_lift hY fun _ _ => ?_
 refine aZ (vs := [aI oo, v]) rfl rfl ?_
 intro p w1 x1 hp
 refine aA ?_
 refine aG (z := aM) rfl (by decide +kernel) ?_
 intro w2 x2 s2 hb2
 have hx2 := x1.trans x2
 have hsz2 := x1.size
 generalize hbe : w1.heap.size = b at *
 refine aA ?_
 refine_lift gV fun _ _ _ _ => ?_
 rw [hrl]
 refine aB (enters_of Tryz.func57 rfl rfl) rfl rfl ((show Calls Tryz.prog 57 #[aI og] w2 (bG w2 (.int .i64 (dT og))) from RX og w2)) ?_; intro w3 x3; refine aA ?_
 have hx3 := hx2.trans x3
 have hb3 := x3.at hb2
 have hs3 := x3.size
 have hl3 := hl.ext hx3
 have hp3 := hp.ext (x2.trans x3)
 by_cases c1 : dT og = 0
 ·rw [c1]
  refine_lift aS ?_
  refine aB (enters_of Tryz.func58 rfl rfl) rfl rfl (jM lv l _ (fun r => !decide (aW r = 0)) _ hl3 (enters_of Tryz.func59 rfl rfl) (fun r _ w' => GZ r w')) ?_; intro w4 x4; refine aA ?_
  have hx4 := hx3.trans x4
  have hb4 := x4.at hb3
  have hs4 := x4.size
  have hp4 := hp3.ext x4
  cases hany : l.any (fun r => !decide (aW r = 0)) with
  | true =>
   have hE : bW oo lo og l = ZE.bad 1 := by rw [bW, if_pos (.inr hany)]
   refine_lift bY fun _ _ => ?_
   refine aQ (v := .agg aM.toArray) rfl (Runs.build0 (by kernel_rfl)) ?_; refine aA ?_; refine_lift aS ?_; refine aC (v := .agg aM.toArray) rfl rfl rfl (hb4) (show aO Tryz.prog 25 2 = true by decide +kernel) rfl (by decide +kernel) ?_; intro wz pz; refine_lift aS ?_; refine bodyPost_ret (aH (cs := aM) rfl rfl pz.this (by decide +kernel)) rfl ⟨_, rfl, Ext.move (hx4) pz.mv (by rintro k ⟨⟩; omega), ?_⟩; rw [hE]
   exact ZEU.bad
  | false =>
   have q1 : ¬ (dT og ≠ 0 ∨ l.any (fun r => !decide (aW r = 0)) = true) := by
    rintro (e | e)
    ·exact e c1
    ·rw [hany] at e; cases e
   by_cases hl0 : l = []
   ·have hE : bW oo lo og l = ZE.bad 2 := by rw [bW, if_neg q1, if_pos hl0]
    have hn0 : l.length = 0 := by rw [hl0]; rfl
    rw [hn0]
    refine_lift bY fun _ _ => ?_
    all_goals first
     | (exfalso; omega)
     | skip
    refine aQ (v := .agg aM.toArray) rfl (Runs.build0 (by kernel_rfl)) ?_; refine aA ?_; refine_lift aS ?_; refine aC (v := .agg aM.toArray) rfl rfl rfl (hb4) (show aO Tryz.prog 25 2 = true by decide +kernel) rfl (by decide +kernel) ?_; intro wz pz; refine_lift aS ?_; refine bodyPost_ret (aH (cs := aM) rfl rfl pz.this (by decide +kernel)) rfl ⟨_, rfl, Ext.move (hx4) pz.mv (by rintro k ⟨⟩; omega), ?_⟩; rw [hE]
    exact ZEU.bad
   ·have hln : 1 ≤ l.length := List.length_pos_iff.2 hl0
    have hh0 : l.getD 0 bA = bD l := by
     cases l with
     | nil => exact absurd rfl hl0
     | cons r t => rfl
    have hl4 := hl3.ext x4
    have hpt : Pts w (bX lv (0 * 4)) _ := hl.elem (oA (i := 0) (by omega))
    rw [hh0, Nat.zero_mul] at hpt
    have hpt4 := hpt.ext hx4
    rw [show (l.length : Int) - 1 = ((l.length - 1 : Nat) : Int) by omega]
    obtain ⟨last, hlast⟩ : ∃ n, n = l.length - 1 := ⟨_, rfl⟩
    rw [← hlast]
    refine_lift yS (fun hc _ _ => ?_) (fun _ _ hc => ?_)
    all_goals first
     | (exfalso; omega)
     | skip
    refine aB (enters_of Tryz.func61 rfl rfl) rfl rfl (mO (bD l) _) ?_; intro w5 x5; refine aA ?_
    have hx5 := hx4.trans x5
    have hb5 := x5.at hb4
    have hs5 := x5.size
    have hp5 := hp4.ext x5
    have hpt5 := hpt4.ext x5
    cases hsoa : aU (bD l) with
    | false =>
     have hE : bW oo lo og l = ZE.bad 2 := by rw [bW, if_neg q1, if_neg hl0, if_pos (.inl hsoa)]
     refine_lift bY fun _ _ => ?_
     refine aQ (v := .agg aM.toArray) rfl (Runs.build0 (by kernel_rfl)) ?_; refine aA ?_; refine_lift aS ?_; refine aC (v := .agg aM.toArray) rfl rfl rfl (hb5) (show aO Tryz.prog 25 2 = true by decide +kernel) rfl (by decide +kernel) ?_; intro wz pz; refine_lift aS ?_; refine bodyPost_ret (aH (cs := aM) rfl rfl pz.this (by decide +kernel)) rfl ⟨_, rfl, Ext.move (hx5) pz.mv (by rintro k ⟨⟩; omega), ?_⟩; rw [hE]
     exact ZEU.bad
    | true =>
     have hl5 := hl4.ext x5
     refine_lift aS ?_
     refine aB (enters_of Tryz.func62 rfl rfl) rfl rfl (NV (bD l).name _) ?_; intro w6 x6; refine aA ?_
     refine_lift aS ?_
     refine aB (enters_of Tryz.func62 rfl rfl) rfl rfl (NV og _) ?_; intro w7 x7; refine aA ?_
     have x57 := x6.trans x7
     have hx7 := hx5.trans x57
     have hb7 := x57.at hb5
     have hs7 := x57.size
     have hp7 := hp5.ext x57
     have hpt7 := hpt5.ext x57
     have hl7 := hl5.ext x57
     clear hpt hpt4 hpt5 hl3 hl4 hl5 hp3 hp4 hp5 hp
     by_cases hfo : fold (bD l).name = fold og
     ·have q2 : ¬ (aU (bD l) = false ∨ fold (bD l).name ≠ fold og) := by
       rintro (e | e)
       ·rw [hsoa] at e; cases e
       ·exact e hfo
      have hfo' : (!decide (fold (bD l).name = fold og)) = false := by simp [hfo]
      refine_lift PN (fun _ _ _ _ => ?_) (fun _ _ _ _ => ?_) (fun _ _ _ => ?_)
      ·exfalso
       have hh := ‹(!decide (fold (bD l).name = fold og)) = true›
       rw [hfo'] at hh
       cases hh
      ·have hl1 : l.length = 1 := by
        have : (last : Int) = 0 := by assumption
        omega
       have hE : bW oo lo og l = ZE.bad 5 := by rw [bW, if_neg q1, if_neg hl0, if_neg q2, if_pos hl1]
       refine aQ (v := .agg aM.toArray) rfl (Runs.build0 (by kernel_rfl)) ?_; refine aA ?_; refine_lift aS ?_; refine aC (v := .agg aM.toArray) rfl rfl rfl (hb7) (show aO Tryz.prog 25 2 = true by decide +kernel) rfl (by decide +kernel) ?_; intro wz pz; refine_lift aS ?_; refine bodyPost_ret (aH (cs := aM) rfl rfl pz.this (by decide +kernel)) rfl ⟨_, rfl, Ext.move (hx7) pz.mv (by rintro k ⟨⟩; omega), ?_⟩; rw [hE]
       exact ZEU.bad
      ·have hl1 : ¬ l.length = 1 := by
        have : ¬ (last : Int) = 0 := by assumption
        omega
       have hpl : Pts w (bX lv (last * 4)) _ := hl.elem (oA (i := last) (by omega))
       have hpl7 := hpl.ext hx7
       refine bB (by decide +kernel) (by decide +kernel) ?_
       by_cases hl2 : last = 1
       ·have hE : bW oo lo og l = ZE.bad 3 := by rw [bW, if_neg q1, if_neg hl0, if_neg q2, if_neg hl1, if_pos (.inl (by omega))]
        refine_lift dX ?_
        rw [decide_eq_true (by omega : (last : Int) = 1)]
        refine_lift dX ?_
        intro w8 x8
        have hb8 := x8.at hb7
        have hs8 := x8.size
        refine_lift bY fun _ _ => ?_
        refine aQ (v := .agg aM.toArray) rfl (Runs.build0 (by kernel_rfl)) ?_; refine aA ?_; refine_lift aS ?_; refine aC (v := .agg aM.toArray) rfl rfl rfl (hb8) (show aO Tryz.prog 25 2 = true by decide +kernel) rfl (by decide +kernel) ?_; intro wz pz; refine_lift aS ?_; refine bodyPost_ret (aH (cs := aM) rfl rfl pz.this (by decide +kernel)) rfl ⟨_, rfl, Ext.move (hx7.trans x8) pz.mv (by rintro k ⟨⟩; omega), ?_⟩; rw [hE]
        exact ZEU.bad
       ·refine_lift dX ?_
        rw [decide_eq_false (by omega : ¬ (last : Int) = 1)]
        refine_lift dX ?_
        refine fU (fun w' _ => by exact Runs.neqRec (r := l.getD last bA) (q := bD l) rfl rfl) ?_
        refine aA ?_
        refine_lift dX ?_
        intro w8 x8
        have hx8 := hx7.trans x8
        have hb8 := x8.at hb7
        have hs8 := x8.size
        have hp8 := hp7.ext x8
        have hpt8 := hpt7.ext x8
        clear hpl hpl7 hpt7 hp7
        by_cases heq : l.getD last bA = bD l
        ·have q3 : ¬ (l.length = 2 ∨ l.getD (l.length - 1) bA ≠ bD l) := by
          rw [← hlast]
          rintro (e | e)
          ·omega
          ·exact e heq
         have heq' : (!decide (l.getD last bA = bD l)) = false := by rw [decide_eq_true heq]; rfl
         rw [heq']
         refine_lift bY fun _ _ => ?_
         refine aK (enters_of Tryz.func63 rfl rfl) rfl rfl (RC oo v lo og lv l w8 (hv.ext hx8) (hl.ext hx8) bl dl h1 h2 (by omega) dn) ?_
         rintro _ w9 x9 hU
         obtain ⟨y, rfl, hO, hy1⟩ := hU.cell
         have hok := IM (oo := oo) (lo := lo) (og := og) (l := l)
         have hI : bW oo lo og l = (let q := eF oo lo og l
          if q.e ≠ 0 then ZE.bad q.e else if (aP q.o q.l).serial ≠ dW (bD l) then ZE.bad 2 else if lo ≠ [] ∧ dB (aP q.o q.l).serial (aP oo lo).serial = false then ZE.bad 7 else q) := by
          rw [bW, if_neg q1, if_neg hl0, if_neg q2, if_neg hl1, if_neg q3]
         generalize eF oo lo og l = q at *
         simp only at hI
         refine aA ?_
         refine_lift aS ?_
         refine aG (z := aM) rfl (by decide +kernel) ?_
         intro w10 x10 s10 hb10
         refine aA ?_
         refine aC (v := .agg #[aI q.o, y]) rfl rfl rfl hb10 (show aO Tryz.prog 25 2 = true by decide +kernel) rfl (bE hy1) ?_
         intro w11 p11
         have x11 : Ext w9 w11 := x10.move p11.mv (by rintro k ⟨⟩; omega)
         have hpz := aE (cs := [aI q.o, y]) p11.this
         have x8b := x9.trans x11
         have hx11 := hx8.trans x8b
         have hb11 := x8b.at hb8
         have hs11 := x8b.size
         have hp11 := hp8.ext x8b
         have hpt11 := hpt8.ext x8b
         clear hb10 x10 hp8 hpt8
         by_cases he : q.e = 0
         ·have he' : (!decide (q.e = 0)) = false := by simp [he]
          have hz := hok he (by omega)
          obtain ⟨zl, zb, zd, zr⟩ := nX hz
          rw [if_neg (by simp [he])] at hI
          refine_lift rG (fun _ _ _ => ?_) (fun _ _ _ _ _ => ?_)
          ·exfalso
           have hh := ‹(!decide (q.e = 0)) = true›
           rw [he'] at hh
           cases hh
          have hO11 := hO.ext x11
          refine aB (enters_of Tryz.func31 rfl rfl) rfl rfl (pU q.o y q.l _ hO11.sets (fun s hs => by have := zb s hs; omega) (fun s hs d hd => by have := zd s hs d hd; omega)) ?_; intro w12 x12; refine aA ?_
          refine_lift aS ?_
          refine aG (z := aV) rfl (by decide +kernel) ?_
          intro w13 x13 s13 h13
          refine aA ?_
          refine aC (v := .agg (aP q.o q.l).cells.toArray) rfl rfl rfl h13 (show aO Tryz.prog 67 7 = true by decide +kernel) rfl (dI _) ?_
          intro w14 p14
          have x14 : Ext w12 w14 := x13.move p14.mv (by rintro k ⟨⟩; exact Nat.le_refl _)
          have ha14 := aE (cs := (aP q.o q.l).cells) p14.this
          have x1114 := x12.trans x14
          have hp14 := hp11.ext x1114
          clear h13 x13
          refine_lift bY fun _ _ => ?_
          refine aB (enters_of Tryz.func31 rfl rfl) rfl rfl (pU oo v lo _ (hv.ext (hx11.trans x1114)) bl (fun s hs d hd => by have := dl s hs d hd; omega)) ?_; intro w15 x15; refine aA ?_
          refine_lift aS ?_
          refine aG (z := aV) rfl (by decide +kernel) ?_
          intro w16 x16 s16 h16
          refine aA ?_
          refine aC (v := .agg (aP oo lo).cells.toArray) rfl rfl rfl h16 (show aO Tryz.prog 67 7 = true by decide +kernel) rfl (dI _) ?_
          intro w17 p17
          have x17 : Ext w15 w17 := x16.move p17.mv (by rintro k ⟨⟩; exact Nat.le_refl _)
          have hb17 := aE (cs := (aP oo lo).cells) p17.this
          have x1417 := x15.trans x17
          have x1117 := x1114.trans x1417
          have ha17 := ha14.ext x1417
          have hx17 := hx11.trans x1117
          have hb17' := x1117.at hb11
          have hs17 := x1117.size
          have hp17 := hp14.ext x1417
          have hpz17 := hpz.ext x1117
          have hpt17 := hpt11.ext x1117
          have hO17 := hO11.ext x1117
          have hl17 := hl.ext hx17
          clear h16 x16 hp11 hp14 hpz hpt11 ha14
          have qa : Pts w17 (bL (.pointer (some ⟨w12.heap.size, 0, none⟩)) 2) [.int .i64 (aP q.o q.l).serial, .int .i64 (aP q.o q.l).refresh, .int .i64 (aP q.o q.l).retry, .int .i64 (aP q.o q.l).expire, .int .i64 (aP q.o q.l).minimum] := ha17.part 2
          have qb : Pts w17 (bL (.pointer (some ⟨w15.heap.size, 0, none⟩)) 2) [.int .i64 (aP oo lo).serial, .int .i64 (aP oo lo).refresh, .int .i64 (aP oo lo).retry, .int .i64 (aP oo lo).expire, .int .i64 (aP oo lo).minimum] := hb17.part 2
          have hgd := dn _ (kH hl0)
          refine_lift gV fun _ _ _ _ => ?_
          refine bB (by decide +kernel) (by decide +kernel) ?_
          refine_lift dX ?_
          refine cA (enters_of Tryz.func64 rfl rfl) rfl rfl (fun w' _ => qV (bD l) w' (by omega)) ?_
          refine aA ?_
          refine_lift dX ?_
          intro w18 x18
          have hx18 := hx17.trans x18
          have hb18 := x18.at hb17'
          have hs18 := x18.size
          by_cases hser : (aP q.o q.l).serial = dW (bD l)
          ·have hser' : (!decide ((aP q.o q.l).serial = dW (bD l))) = false := by simp [hser]
           rw [if_neg (by simp [hser])] at hI
           rw [hser']
           have qa18 := qa.ext x18
           have qb18 := qb.ext x18
           have hp18 := hp17.ext x18
           have hpz18 := hpz17.ext x18
           obtain ⟨cv, hcv, hcl⟩ := (hv.ext hx18).sl
           clear qa qb hp17 hpz17 hpt17 ha17 hb17
           refine_lift yS (fun hc _ _ => ?_) (fun _ _ hc => ?_)
           ·have hlo : lo ≠ [] := by
             rintro rfl
             have h0 : 0 < (cv.length : Int) := by assumption
             rw [hcl] at h0
             simp at h0
            refine aB (enters_of Tryz.func45 rfl rfl) rfl rfl (IC _ _ _) ?_; intro w19 x19; refine aA ?_
            have hb19 := x19.at hb18
            have hs19 := x19.size
            have hpz19 := hpz18.ext x19
            cases hlt : dB (aP q.o q.l).serial (aP oo lo).serial with
            | false =>
             rw [if_pos ⟨hlo, hlt⟩] at hI
             refine_lift bY fun _ _ => ?_
             refine aQ (v := .agg aM.toArray) rfl (Runs.build0 (by kernel_rfl)) ?_; refine aA ?_; refine_lift aS ?_; refine aC (v := .agg aM.toArray) rfl rfl rfl (hb19) (show aO Tryz.prog 25 2 = true by decide +kernel) rfl (by decide +kernel) ?_; intro wz pz; refine_lift aS ?_; refine bodyPost_ret (aH (cs := aM) rfl rfl pz.this (by decide +kernel)) rfl ⟨_, rfl, Ext.move (hx18.trans x19) pz.mv (by rintro k ⟨⟩; omega), ?_⟩; rw [hI]
             exact ZEU.bad
            | true =>
             rw [if_neg (by rintro ⟨_, e⟩; rw [hlt] at e; cases e)] at hI
             refine_lift bY fun _ _ => ?_
             refine aC (v := .agg #[aI q.o, y]) rfl rfl rfl (hb19) (show aO Tryz.prog 25 2 = true by decide +kernel) rfl (bE hy1) ?_
             intro wz pz
             refine_lift aS ?_
             have xz : Ext w wz := Ext.move (hx18.trans x19) pz.mv (by rintro k ⟨⟩; omega)
             have hOz := (hO17.ext (x18.trans x19)).put pz (by omega)
             refine bodyPost_ret (aH (cs := [aI q.o, y]) rfl rfl pz.this (show dY Tryz.prog 25 2 = true by decide +kernel)) rfl ⟨_, rfl, xz, ?_⟩
             rw [hI]
             exact ⟨y, by rw [he]; rfl, hOz.weaken (by have := hx8.size; omega)⟩
           ·have hlo : lo = [] := by
             have h0 : ¬ 0 < (cv.length : Int) := by assumption
             exact List.eq_nil_of_length_eq_zero (by omega)
            rw [if_neg (by rintro ⟨e, _⟩; exact e hlo)] at hI
            refine aC (v := .agg #[aI q.o, y]) rfl rfl rfl (hb18) (show aO Tryz.prog 25 2 = true by decide +kernel) rfl (bE hy1) ?_
            intro wz pz
            refine_lift aS ?_
            have xz : Ext w wz := Ext.move (hx18) pz.mv (by rintro k ⟨⟩; omega)
            have hOz := (hO17.ext x18).put pz (by omega)
            refine bodyPost_ret (aH (cs := [aI q.o, y]) rfl rfl pz.this (show dY Tryz.prog 25 2 = true by decide +kernel)) rfl ⟨_, rfl, xz, ?_⟩
            rw [hI]
            exact ⟨y, by rw [he]; rfl, hOz.weaken (by have := hx8.size; omega)⟩
          ·have hser' : (!decide ((aP q.o q.l).serial = dW (bD l))) = true := by simp [hser]
           rw [if_pos hser] at hI
           rw [hser']
           refine_lift bY fun _ _ => ?_
           refine aQ (v := .agg aM.toArray) rfl (Runs.build0 (by kernel_rfl)) ?_; refine aA ?_; refine_lift aS ?_; refine aC (v := .agg aM.toArray) rfl rfl rfl (hb18) (show aO Tryz.prog 25 2 = true by decide +kernel) rfl (by decide +kernel) ?_; intro wz pz; refine_lift aS ?_; refine bodyPost_ret (aH (cs := aM) rfl rfl pz.this (by decide +kernel)) rfl ⟨_, rfl, Ext.move (hx18) pz.mv (by rintro k ⟨⟩; omega), ?_⟩; rw [hI]
           exact ZEU.bad
         ·have he' : (!decide (q.e = 0)) = true := by simp [he]
          rw [if_pos he] at hI
          refine_lift rG (fun _ _ _ => ?_) (fun _ _ _ _ _ => ?_)
          all_goals first
           | (exfalso
              have hh := ‹(!decide (q.e = 0)) = false›
              rw [he'] at hh
              cases hh
              done)
           | skip
          refine aQ (v := .agg aM.toArray) rfl (Runs.build0 (by kernel_rfl)) ?_; refine aA ?_; refine_lift aS ?_; refine aC (v := .agg aM.toArray) rfl rfl rfl (hb11) (show aO Tryz.prog 25 2 = true by decide +kernel) rfl (by decide +kernel) ?_; intro wz pz; refine_lift aS ?_; refine bodyPost_ret (aH (cs := aM) rfl rfl pz.this (by decide +kernel)) rfl ⟨_, rfl, Ext.move (hx11) pz.mv (by rintro k ⟨⟩; omega), ?_⟩; rw [hI]
          exact ZEU.bad
        ·have hE : bW oo lo og l = ZE.bad 3 := by rw [bW, if_neg q1, if_neg hl0, if_neg q2, if_neg hl1, if_pos (.inr (by rw [← hlast]; exact heq))]
         have heq' : (!decide (l.getD last bA = bD l)) = true := by rw [decide_eq_false heq]; rfl
         rw [heq']
         refine_lift bY fun _ _ => ?_
         refine aQ (v := .agg aM.toArray) rfl (Runs.build0 (by kernel_rfl)) ?_; refine aA ?_; refine_lift aS ?_; refine aC (v := .agg aM.toArray) rfl rfl rfl (hb8) (show aO Tryz.prog 25 2 = true by decide +kernel) rfl (by decide +kernel) ?_; intro wz pz; refine_lift aS ?_; refine bodyPost_ret (aH (cs := aM) rfl rfl pz.this (by decide +kernel)) rfl ⟨_, rfl, Ext.move (hx8) pz.mv (by rintro k ⟨⟩; omega), ?_⟩; rw [hE]
         exact ZEU.bad
     ·have hE : bW oo lo og l = ZE.bad 2 := by rw [bW, if_neg q1, if_neg hl0, if_pos (.inr hfo)]
      have hfo' : (!decide (fold (bD l).name = fold og)) = true := by simp [hfo]
      refine_lift PN (fun _ _ _ _ => ?_) (fun _ _ _ _ => ?_) (fun _ _ _ => ?_)
      all_goals first
       | (exfalso
          have hh := ‹(!decide (fold (bD l).name = fold og)) = false›
          rw [hfo'] at hh
          cases hh
          done)
       | skip
      refine aQ (v := .agg aM.toArray) rfl (Runs.build0 (by kernel_rfl)) ?_; refine aA ?_; refine_lift aS ?_; refine aC (v := .agg aM.toArray) rfl rfl rfl (hb7) (show aO Tryz.prog 25 2 = true by decide +kernel) rfl (by decide +kernel) ?_; intro wz pz; refine_lift aS ?_; refine bodyPost_ret (aH (cs := aM) rfl rfl pz.this (by decide +kernel)) rfl ⟨_, rfl, Ext.move (hx7) pz.mv (by rintro k ⟨⟩; omega), ?_⟩; rw [hE]
      exact ZEU.bad
 ·have hE : bW oo lo og l = ZE.bad 1 := by rw [bW, if_pos (.inl c1)]
  have c1' : (!decide (dT og = 0)) = true := by simp [c1]
  refine_lift vF (fun hc _ _ => ?_) (fun hc => ?_)
  all_goals first
   | (exfalso
      have hh := ‹(!decide (dT og = 0)) = false›
      rw [c1'] at hh
      cases hh
      done)
   | skip
  refine aQ (v := .agg aM.toArray) rfl (Runs.build0 (by kernel_rfl)) ?_; refine aA ?_; refine_lift aS ?_; refine aC (v := .agg aM.toArray) rfl rfl rfl (hb3) (show aO Tryz.prog 25 2 = true by decide +kernel) rfl (by decide +kernel) ?_; intro wz pz; refine_lift aS ?_; refine bodyPost_ret (aH (cs := aM) rfl rfl pz.this (by decide +kernel)) rfl ⟨_, rfl, Ext.move (hx3) pz.mv (by rintro k ⟨⟩; omega), ?_⟩; rw [hE]
  exact ZEU.bad
theorem SecOk.withZ {s : SecR} (h : SecOk s) {l : List Rec} (he : (s.inst l).e = 0) : SecOk (s.withZ (s.inst l)) := by
 obtain ⟨a, b, _⟩ := h.inst (l := l) he
 refine ⟨h.og, h.retry, ?_⟩
 intro o l' e
 simp only [SecR.withZ, Option.some.injEq, Prod.mk.injEq] at e
 obtain ⟨rfl, rfl⟩ := e
 exact ⟨a, b⟩
structure OpR where
 op : Int
 n : Int
 now : Int
 l : List Rec
theorem JY {l : List RSet} (h : dC l = 0) {s : RSet} (hs : s ∈ l) : fK l s.name s.kind = some s := by
 obtain ⟨i, hi, rfl⟩ := List.mem_iff_getElem.1 hs
 exact AG h hi
theorem MX {s : RSet} (h : fC s = true) : 1 ≤ s.data.length ∧ s.data.length ≤ 20 := by
 simp only [fC, Bool.and_eq_true, decide_eq_true_eq] at h
 exact ⟨h.1.1.2, h.1.2⟩
def soaRec (o : List UInt8) (l : List RSet) : Rec := eM ((fK l o 6).getD AK) (iH o l)
structure Recs (o : List UInt8) (l : List RSet) (os : List Rec) (q : Nat) : Prop where
 le : q ≤ os.length
 eq : aF l = fH os q (soaRec o l)
 non : ∀ r ∈ os, aU r = false
 two : 1 ≤ os.length
theorem cN {o : List UInt8} {l : List RSet} (h : ZoneOk o l) : soaRec o l ∈ aF l ∧ aU (soaRec o l) = true ∧ (soaRec o l).name = o ∧ dW (soaRec o l) = (aP o l).serial := by
 obtain ⟨s, hf, hs, hn, hk, hd, hp, hl⟩ := h.soaSet
 have e : soaRec o l = eM s (iH o l) := by rw [soaRec, hf]; rfl
 rw [e]
 refine ⟨?_, by simp [aU, eM, hk], hn, ?_⟩
 ·unfold aF
  refine List.mem_flatten.2 ⟨dZ s, List.mem_map_of_mem hs, ?_⟩
  unfold dZ
  exact List.mem_map.2 ⟨iH o l, by rw [hd]; simp, rfl⟩
 ·unfold dW lO eM
  rw [hp, aP, if_pos (fW h)]
theorem rZ {o : List UInt8} {l : List RSet} (h : ZoneOk o l) {r : Rec} (hr : r ∈ aF l) (hk : aU r = true) : r = soaRec o l := by
 obtain ⟨s, hs, d, hd, rfl⟩ := nS hr
 have h6 : s.kind = 6 := by
  unfold aU at hk
  exact of_decide_eq_true hk
 have hn := (h.one6 hs h6).1
 have hf : fK l o 6 = some s := by rw [← hn, ← h6]; exact JY h.chk hs
 rw [h.only hs h6] at hd
 rw [soaRec, hf, List.mem_singleton.1 hd]
 rfl
theorem oX {α : Type} {os : List α} {q : Nat} {x y : α} (h : q ≤ os.length) : y ∈ fH os q x ↔ y = x ∨ y ∈ os := by
 unfold fH
 rw [List.mem_append, List.mem_cons]
 constructor
 ·rintro (h1 | h1 | h1)
  ·exact .inr (List.mem_of_mem_take h1)
  ·exact .inl h1
  ·exact .inr (List.mem_of_mem_drop h1)
 ·rintro (h1 | h1)
  ·exact .inr (.inl h1)
  ·rw [← List.take_append_drop q os] at h1
   rcases List.mem_append.1 h1 with h1 | h1
   ·exact .inl h1
   ·exact .inr (.inr h1)
theorem ZoneOk.recs {o : List UInt8} {l : List RSet} (h : ZoneOk o l) : ∃ os q, Recs o l os q := by
 obtain ⟨h1, h2, h3, _⟩ := cN h
 have hnd := h.nodup
 have hle : ((aF l).filter aU).length ≤ 1 := by
  have hall : ∀ x ∈ (aF l).filter aU, x = soaRec o l := fun x hx => by
   obtain ⟨a, b⟩ := List.mem_filter.1 hx
   exact rZ h a b
  have hn2 := hnd.filter (p := aU)
  match hm : (aF l).filter aU with
  | [] => simp
  | [a] => simp
  | a :: b :: t =>
   exfalso
   rw [hm] at hall hn2
   have e1 := hall a (by simp)
   have e2 := hall b (by simp)
   rw [e1, e2] at hn2
   simp at hn2
 rcases rX (aF l) hle with h4 | ⟨os, q, x, k1, k2, k3, k4⟩
 ·exact absurd (h4 _ h1) (by simp [h2])
 ·have hx : x = soaRec o l := rZ h (by rw [k2]; exact (oX k1).2 (.inl rfl)) k3
  subst hx
  refine ⟨os, q, k1, k2, k4, ?_⟩
  obtain ⟨s, hs⟩ := Option.isSome_iff_exists.1 h.ns
  have hsf : s ∈ l ∧ s.kind = 2 := by
   unfold fK at hs
   have a := List.mem_of_find?_eq_some hs
   have b := List.find?_some hs
   refine ⟨a, ?_⟩
   simp only [FX, Bool.and_eq_true, decide_eq_true_eq] at b
   exact b.2
  obtain ⟨d1, d2⟩ := MX (h.may hsf.1)
  have hr : eM s (s.data[0]) ∈ aF l := by
   unfold aF
   refine List.mem_flatten.2 ⟨dZ s, List.mem_map_of_mem hsf.1, ?_⟩
   unfold dZ
   exact List.mem_map.2 ⟨s.data[0], List.getElem_mem _, rfl⟩
  rw [k2] at hr
  rcases (oX k1).1 hr with hr | hr
  ·exfalso
   have : aU (eM s s.data[0]) = true := by rw [hr]; exact h2
   simp [aU, eM, hsf.2] at this
  ·exact List.length_pos_of_mem hr
theorem Recs.head {o : List UInt8} {l : List RSet} {os : List Rec} {q : Nat} (h : Recs o l os q) (hz : ZoneOk o l) : eJ (aF l) = soaRec o l :: os := by
 rw [h.eq, oT h.non (cN hz).2.1]
 rfl
theorem Recs.whole {o : List UInt8} {l : List RSet} {os : List Rec} {q : Nat} (h : Recs o l os q) (hz : ZoneOk o l) : bO o l = soaRec o l :: os ++ [soaRec o l] := by
 rw [bO, if_pos (fW hz), h.head hz]
 rfl
theorem ZoneOk.recOk {o : List UInt8} {l : List RSet} (h : ZoneOk o l) {r : Rec} (hr : r ∈ aF l) : aW r = 0 := by
 obtain ⟨s, hs, d, hd, rfl⟩ := nS hr
 obtain ⟨i, hi, rfl⟩ := List.mem_iff_getElem.1 hd
 exact BY (h.may hs) hi
theorem Recs.mem {o : List UInt8} {l : List RSet} {os : List Rec} {q : Nat} (h : Recs o l os q) {r : Rec} : r ∈ aF l ↔ r = soaRec o l ∨ r ∈ os := by
 rw [h.eq]; exact oX h.le
theorem mP {o oo : List UInt8} {l lo : List RSet} (h : ZoneOk o l) : bW oo lo o (bO o l) = if lo ≠ [] ∧ dB (aP o l).serial (aP oo lo).serial = false then ZE.bad 7 else ⟨0, o, l⟩ := by
 obtain ⟨os, q, hr⟩ := h.recs
 obtain ⟨h1, h2, h3, h4⟩ := cN h
 rw [hr.whole h]
 have hall : ∀ r ∈ soaRec o l :: os ++ [soaRec o l], aW r = 0 := by
  intro r hm
  refine h.recOk (hr.mem.2 ?_)
  simp only [List.cons_append, List.mem_cons, List.mem_append, List.not_mem_nil, or_false] at hm
  rcases hm with hm | hm | hm
  ·exact .inl hm
  ·exact .inr hm
  ·exact .inl hm
 have c1 : ¬ (dT o ≠ 0 ∨ (soaRec o l :: os ++ [soaRec o l]).any (fun r => !decide (aW r = 0)) = true) := by
  rintro (hc | hc)
  ·exact hc (by rw [dT, if_pos h.lab])
  ·obtain ⟨r, hm, hc⟩ := List.any_eq_true.1 hc
   simp [hall r hm] at hc
 have hl2 := hr.two
 have hdl : (soaRec o l :: os ++ [soaRec o l]).dropLast = soaRec o l :: os := List.dropLast_concat ..
 obtain ⟨b1, b2, b3⟩ := h.again
 have hm : ∀ r, r ∈ soaRec o l :: os ↔ r ∈ aF l := fun r => by rw [hr.mem, List.mem_cons]
 obtain ⟨d1, d2, d3⟩ := wV (o := o) hm
 have htold : eF oo lo o (soaRec o l :: os ++ [soaRec o l]) = ⟨0, o, l⟩ := by
  unfold eF
  have e : (soaRec o l :: os ++ [soaRec o l]).getD 1 bA = os[0] := by
   rw [List.getD_eq_getElem?_getD, List.cons_append, List.getElem?_cons_succ, List.getElem?_append_left (by omega), List.getElem?_eq_getElem]
   rfl
  rw [e, if_pos (hr.non _ (List.getElem_mem _)), hdl, d1, d2, d3, b1, b2, b3]
 unfold bW
 rw [if_neg c1, if_neg (by simp), if_neg (by
  rintro (hc | hc)
  ·exact absurd hc (by show ¬ aU (soaRec o l) = false; simp [h2])
  ·exact hc (by show fold (soaRec o l).name = fold o; rw [h3])), if_neg (by simp), if_neg (by
  rintro (hc | hc)
  ·simp only [List.length_append, List.length_cons, List.length_nil] at hc; omega
  ·refine hc ?_
   have e : (soaRec o l :: os ++ [soaRec o l]).length - 1 = (soaRec o l :: os).length := by simp
   rw [List.getD_eq_getElem?_getD, e, List.getElem?_append_right (Nat.le_refl _)]
   simp [bD])]
 simp only [htold]
 rw [if_neg (by simp), if_neg (by
  intro hc
  exact hc h4.symm)]
def bS (o : List UInt8) : List (List RSet) → List DeltaR
 | a :: b :: t => uG o a o b :: bS o (b :: t)
 | _ => []
theorem oY (o : List UInt8) : ∀ zs : List (List RSet), (bS o zs).length = zs.length - 1
 | [] => rfl
 | [a] => rfl
 | a :: b :: t => by
   rw [bS, List.length_cons, oY o (b :: t)]
   simp
theorem sF (o : List UInt8) : ∀ (zs : List (List RSet)) (i : Nat) (a b : List RSet), zs[i]? = some a → zs[i + 1]? = some b → (bS o zs)[i]? = some (uG o a o b)
 | [], i, a, b, h, _ => by simp at h
 | [x], i, a, b, h, k => by simp at k
 | x :: y :: t, 0, a, b, h, k => by
   simp at h k
   subst h; subst k
   rfl
 | x :: y :: t, i + 1, a, b, h, k => by
   rw [bS, List.getElem?_cons_succ]
   exact sF o (y :: t) i a b (by simpa using h) (by simpa using k)
theorem yA (o : List UInt8) : ∀ (zs : List (List RSet)) (l l' : List RSet), zs.getLast? = some l → bS o (zs ++ [l']) = bS o zs ++ [uG o l o l']
 | [], l, l', h => by simp at h
 | [a], l, l', h => by
   simp at h
   subst h
   rfl
 | a :: b :: t, l, l', h => by
   have ih := yA o (b :: t) l l' (by simpa using h)
   rw [List.cons_append] at ih
   rw [List.cons_append, List.cons_append, bS, ih, bS, List.cons_append]
theorem yB (room : Int) (ds : List DeltaR) (h : 0 ≤ room) : ((dD room ds).length : Int) = min (ds.length : Int) room := by
 rw [dD, List.length_drop]
 omega
theorem OY {room : Int} {ds : List DeltaR} (h : (ds.length : Int) ≤ room) : dD room ds = ds := by
 rw [dD, show ds.length - room.toNat = 0 by omega, List.drop_zero]
theorem JZ (room : Int) (H : List DeltaR) (D : DeltaR) (h : 0 ≤ room) : dD room (dD room H ++ [D]) = dD room (H ++ [D]) := by
 have hl := yB room H h
 by_cases hc : (H.length : Int) ≤ room
 ·rw [OY hc]
 ·have e1 : dD room H ++ [D] = (H ++ [D]).drop (H.length - room.toNat) := by
   rw [dD, List.drop_append_of_le_length (by omega)]
  rw [e1]
  unfold dD
  rw [List.drop_drop, List.length_drop]
  congr 1
  simp only [List.length_append, List.length_cons, List.length_nil]
  omega
theorem uB (ds : List DeltaR) (s : Int) : ∀ n, (match jK ds s n with
 | some j => j < n ∧ ds[j]?.map DeltaR.fr = some s ∧ ∀ j', j < j' → j' < n → ds[j']?.map DeltaR.fr ≠ some s
 | none => ∀ j', j' < n → ds[j']?.map DeltaR.fr ≠ some s)
 | 0 => by simp [jK]
 | n + 1 => by
   have ih := uB ds s n
   rw [jK]
   split
   ·rename_i h
    split at h
    ·rename_i hc
     cases h
     exact ⟨by omega, hc, fun j' h1 h2 => by omega⟩
    ·rename_i hc
     rw [h] at ih
     obtain ⟨h1, h2, h3⟩ := ih
     refine ⟨by omega, h2, fun j' h4 h5 => ?_⟩
     by_cases e : j' = n
     ·subst e; exact hc
     ·exact h3 j' h4 (by omega)
   ·rename_i h
    split at h
    ·cases h
    ·rename_i hc
     rw [h] at ih
     intro j' h5
     by_cases e : j' = n
     ·subst e; exact hc
     ·exact ih j' (by omega)
theorem oB {o : List UInt8} {a b : List RSet} (ha : ZoneOk o a) (hb : ZoneOk o b) : EO o a o b = 0 := by
 rw [EO, if_pos (fW ha), if_pos (fW hb), if_pos rfl]
theorem RD {o : List UInt8} {a b : List RSet} (ha : ZoneOk o a) (hb : ZoneOk o b) : (uG o a o b).fr = (aP o a).serial := by
 rw [(tX (oB ha hb)).2.2.2]
theorem HA {o : List UInt8} {zs : List (List RSet)} {l a : List RSet} {room s : Int} {i : Nat} (hr : 0 ≤ room) (hz : ∀ z ∈ zs, ZoneOk o z) (hlast : zs.getLast? = some l) (hi : zs[i]? = some a) (hs : (aP o a).serial = s)
 (hna : ∀ k b, i < k → zs[k]? = some b → (aP o b).serial ≠ s) (hsr : (cU o l (dD room (bS o zs)) s).2 = true) :
 (cU o l (dD room (bS o zs)) s).1.length + i + 1 = zs.length ∧ ∀ k a b, zs[i + k]? = some a → zs[i + k + 1]? = some b → (cU o l (dD room (bS o zs)) s).1[k]? = some (uG o a o b) := by
 have hil := (List.getElem?_eq_some_iff.1 hi).1
 have hlast' : zs[zs.length - 1]? = some l := by rw [← List.getLast?_eq_getElem?]; exact hlast
 by_cases q : s = (aP o l).serial
 ·have e : cU o l (dD room (bS o zs)) s = ([], true) := by rw [cU, if_pos q]
  rw [e]
  have : ¬ i < zs.length - 1 := fun hlt => hna _ _ hlt hlast' q.symm
  have hi2 : i + 1 = zs.length := by omega
  refine ⟨by simpa using hi2, fun k a b h1 h2 => ?_⟩
  have := (List.getElem?_eq_some_iff.1 h2).1
  omega
 ·have hH := oY o zs
  have hT := yB room (bS o zs) hr
  have hti : ∀ k, (dD room (bS o zs))[k]? = (bS o zs)[(bS o zs).length - room.toNat + k]? := fun k => by rw [dD, List.getElem?_drop]
  have hsp := uB (dD room (bS o zs)) s (dD room (bS o zs)).length
  have hfr : ∀ k (h : k + 1 < zs.length), (bS o zs)[k]?.map DeltaR.fr = some (aP o zs[k]).serial := fun k h => by
   rw [sF o zs k zs[k] zs[k + 1] (List.getElem?_eq_getElem _) (List.getElem?_eq_getElem _), Option.map_some, RD (hz _ (List.getElem_mem _)) (hz _ (List.getElem_mem _))]
  cases hsi : jK (dD room (bS o zs)) s (dD room (bS o zs)).length with
  | none =>
   rw [cU, if_neg q, hsi] at hsr
   cases hsr
  | some j =>
   have e : cU o l (dD room (bS o zs)) s = ((dD room (bS o zs)).drop j, true) := by rw [cU, if_neg q, hsi]
   rw [e]
   rw [hsi] at hsp
   obtain ⟨h1, h2, h3⟩ := hsp
   rw [hti, hfr _ (by omega)] at h2
   have h2 := Option.some.inj h2
   have hle : ¬ i < (bS o zs).length - room.toNat + j := fun hlt => hna _ _ hlt (List.getElem?_eq_getElem (by omega)) h2
   have hlt : i + 1 < zs.length := by
    have : i ≠ zs.length - 1 := by
     rintro rfl
     rw [hlast'] at hi
     cases hi
     exact q hs.symm
    omega
   have hge : ¬ (bS o zs).length - room.toNat + j < i := fun hgt => by
    refine h3 (i - ((bS o zs).length - room.toNat)) (by omega) (by omega) ?_
    rw [hti, show (bS o zs).length - room.toNat + (i - ((bS o zs).length - room.toNat)) = i by omega, hfr i hlt]
    rw [List.getElem?_eq_getElem hil] at hi
    rw [Option.some.inj hi, hs]
   have hij : i = (bS o zs).length - room.toNat + j := by omega
   refine ⟨by simp only [List.length_drop]; omega, fun k a b k1 k2 => ?_⟩
   rw [List.getElem?_drop, hti, show (bS o zs).length - room.toNat + (j + k) = i + k by omega]
   exact sF o zs _ a b k1 k2
theorem oC : ∀ (gs t : List Rec), (∀ r ∈ gs, aU r = false) → (t = [] ∨ aU (bD t) = true) → nextSoa (gs ++ t) = gs.length
 | [], [], _, _ => rfl
 | [], r :: t, _, h => by
   have : aU r = true := by rcases h with h | h; cases h; exact h
   rw [List.nil_append, nextSoa, if_pos this]
   rfl
 | g :: gs, t, h, ht => by
   have h1 := h g (by simp)
   rw [List.cons_append, nextSoa, if_neg (by simp [h1]), oC gs t (fun r hr => h r (by simp [hr])) ht, List.length_cons]
theorem yC {l : List Rec} (h : (l.filter aU).length ≤ 1) : (eJ l).Perm l := by
 rcases rX l h with h1 | ⟨os, q, x, h1, h2, h3, h4⟩
 ·rw [xY h1]
 ·rw [h2, oT h4 h3]
  unfold fH
  simp only [List.take_zero, List.nil_append, List.drop_zero]
  exact (List.perm_middle.trans (by rw [List.take_append_drop])).symm
theorem oZ {o : List UInt8} {l : List RSet} (h : ZoneOk o l) (p : Rec → Bool) : (((aF l).filter p).filter aU).length ≤ 1 := by
 obtain ⟨os, q, hr⟩ := h.recs
 have h1 : ((aF l).filter aU).length ≤ 1 := by
  have := hr.head h
  unfold eJ at this
  rw [hr.eq]
  have e : (fH os q (soaRec o l)).filter aU = [soaRec o l] := by
   unfold fH
   have a1 : (os.take q).filter aU = [] := List.filter_eq_nil_iff.2 fun r hm => by simp [hr.non r (List.mem_of_mem_take hm)]
   have a2 : (os.drop q).filter aU = [] := List.filter_eq_nil_iff.2 fun r hm => by simp [hr.non r (List.mem_of_mem_drop hm)]
   rw [List.filter_append, List.filter_cons, if_pos (cN h).2.1, a1, a2]
   rfl
  rw [e]
  simp
 refine Nat.le_trans ?_ h1
 rw [List.filter_filter, ← List.countP_eq_length_filter, ← List.countP_eq_length_filter]
 exact List.countP_mono_left fun r _ hr => by simp at hr; exact hr.1
theorem iS {o : List UInt8} {a b : List RSet} (ha : ZoneOk o a) (hb : ZoneOk o b) (hs : (aP o a).serial ≠ (aP o b).serial) :
 ∃ gs, eJ (cW (aF a) (aF b)) = soaRec o a :: gs ∧ (∀ r ∈ gs, aU r = false) ∧ (eJ (cW (aF a) (aF b))).Perm (cW (aF a) (aF b)) := by
 obtain ⟨h1, h2, h3, h4⟩ := cN ha
 have hne : soaRec o a ∉ aF b := fun hm => by
  have := rZ hb hm h2
  rw [this] at h4
  rw [(cN hb).2.2.2] at h4
  exact hs h4.symm
 have hin : soaRec o a ∈ cW (aF a) (aF b) := lL.2 ⟨h1, hne⟩
 have hle := oZ ha (fun r => !decide (r ∈ aF b))
 have hp : (eJ (cW (aF a) (aF b))).Perm (cW (aF a) (aF b)) := yC hle
 rcases rX _ hle with k | ⟨os, q, x, k1, k2, k3, k4⟩
 ·have := k _ hin
  rw [h2] at this; cases this
 ·have hx : x = soaRec o a := by
   have hm : x ∈ cW (aF a) (aF b) := by
    unfold cW
    rw [k2]
    exact (oX k1).2 (.inl rfl)
   exact rZ ha (lL.1 hm).1 k3
  subst hx
  refine ⟨os, ?_, k4, hp⟩
  unfold cW
  rw [k2, oT k4 k3]
  rfl
def dM (ds : List DeltaR) : List Rec := (ds.map fun d => eJ d.gone ++ eJ d.new).flatten
def Chain (o : List UInt8) : List (List RSet) → Prop
 | a :: b :: t => (aP o a).serial ≠ (aP o b).serial ∧ Chain o (b :: t)
 | _ => True
theorem AY {o : List UInt8} : ∀ (zs : List (List RSet)), (∀ z ∈ zs, ZoneOk o z) → Chain o zs → dM (bS o zs) = [] ∨ aU (bD (dM (bS o zs))) = true
 | [], _, _ => .inl rfl
 | [a], _, _ => .inl rfl
 | a :: b :: t, hz, hc => by
   have ha := hz a (by simp)
   have hb := hz b (by simp)
   obtain ⟨gs, e, _⟩ := iS ha hb hc.1
   refine .inr ?_
   have hD : (uG o a o b).gone = cW (aF a) (aF b) := by rw [(tX (oB ha hb)).2.2.2]
   unfold dM
   rw [bS, List.map_cons, List.flatten_cons, hD, e]
   exact (cN ha).2.1
theorem AZ {o : List UInt8} : ∀ (zs : List (List RSet)) (a : List RSet), (∀ z ∈ a :: zs, ZoneOk o z) → Chain o (a :: zs) → kW o a (dM (bS o (a :: zs))) = ⟨0, o, (a :: zs).getLast (by simp)⟩
 | [], a, _, _ => rfl
 | b :: t, a, hz, hc => by
   have ha := hz a (by simp)
   have hb := hz b (by simp)
   obtain ⟨gs, e1, n1, p1⟩ := iS ha hb hc.1
   obtain ⟨ns, e2, n2, p2⟩ := iS hb ha (fun e => hc.1 e.symm)
   have hD := (tX (oB ha hb)).2.2.2
   have ih := AZ t b (fun z hz' => hz z (by simp [hz'])) hc.2
   have hth := AY (o := o) (b :: t) (fun z hz' => hz z (by simp [hz'])) hc.2
   have eT : dM (bS o (a :: b :: t)) = (soaRec o a :: gs) ++ ((soaRec o b :: ns) ++ dM (bS o (b :: t))) := by
    unfold dM
    rw [bS, List.map_cons, List.flatten_cons, hD]
    simp only
    rw [e1, e2, List.append_assoc]
   rw [eT]
   generalize dM (bS o (b :: t)) = T at *
   have hP1 : partN ((soaRec o a :: gs) ++ ((soaRec o b :: ns) ++ T)) = (soaRec o a :: gs).length := by
    unfold partN
    rw [List.cons_append, List.drop_succ_cons, List.drop_zero, oC gs _ n1 (.inr (by exact (cN hb).2.1)), List.length_cons]
    omega
   have hP2 : partN ((soaRec o b :: ns) ++ T) = (soaRec o b :: ns).length := by
    unfold partN
    rw [List.cons_append, List.drop_succ_cons, List.drop_zero, oC ns _ n2 hth, List.length_cons]
    omega
   have ht1 : ((soaRec o a :: gs) ++ ((soaRec o b :: ns) ++ T)).take (soaRec o a :: gs).length = soaRec o a :: gs := List.take_left
   have hd1 : ((soaRec o a :: gs) ++ ((soaRec o b :: ns) ++ T)).drop (soaRec o a :: gs).length = (soaRec o b :: ns) ++ T := List.drop_left
   have ht2 : ((soaRec o b :: ns) ++ T).take (soaRec o b :: ns).length = soaRec o b :: ns := List.take_left
   have hd2 : ((soaRec o b :: ns) ++ T).drop (soaRec o b :: ns).length = T := List.drop_left
   rw [lP _ _ (by simp), hP1, hd1, ht1, hP2, ht2, hd2, if_neg (by simp)]
   have hdl : dR (soaRec o a :: gs) (soaRec o b :: ns) = ⟨(aP o a).serial, (aP o b).serial, soaRec o a :: gs, soaRec o b :: ns⟩ := by
    unfold dR bD
    simp only [List.headD_cons]
    rw [(cN ha).2.2.2, (cN hb).2.2.2]
   rw [e1] at p1
   rw [e2] at p2
   obtain ⟨k1, k2, k3⟩ := ME (d := ⟨(aP o a).serial, (aP o b).serial, soaRec o a :: gs, soaRec o b :: ns⟩) ha hb rfl rfl (p1.symm.nodup (wW ha.nodup)) (p2.symm.nodup (wW hb.nodup))
    (fun r => by rw [p1.mem_iff]; exact lL) (fun r => by rw [p2.mem_iff]; exact lL)
   rw [hdl, k1, k2, k3, if_pos rfl, ih]
   rfl
def gT (o : List UInt8) (l : List RSet) (ds : List DeltaR) (s : Int) : List Rec :=
 if (cU o l ds s).2 = false then bO o l else if (cU o l ds s).1 = [] then [soaRec o l] else soaRec o l :: (dM (cU o l ds s).1 ++ [soaRec o l])
theorem FA {o : List UInt8} {l : List RSet} (h : ZoneOk o l) {cut : Nat} (hc : cut < (bO o l).length) : (bW [] [] o ((bO o l).take cut)).e ≠ 0 := by
 obtain ⟨os, q, hr⟩ := h.recs
 obtain ⟨h1, h2, h3, h4⟩ := cN h
 rw [hr.whole h] at hc ⊢
 have hle : cut ≤ (soaRec o l :: os).length := by simp only [List.length_append, List.length_cons, List.length_nil] at hc ⊢; omega
 rw [List.take_append_of_le_length hle]
 unfold bW
 split
 ·exact fun e => by cases e
 ·split
  ·exact fun e => by cases e
  ·rename_i c2
   split
   ·exact fun e => by cases e
   ·split
    ·exact fun e => by cases e
    ·rename_i c4
     split
     ·exact fun e => by cases e
     ·rename_i c5
      exfalso
      refine c5 (.inr ?_)
      have hl : ((soaRec o l :: os).take cut).length = cut := by rw [List.length_take]; exact Nat.min_eq_left hle
      have hn2 : cut ≠ 2 := fun e => c5 (.inl (by rw [hl, e]))
      rw [hl] at c4 ⊢
      have hn0 : cut ≠ 0 := fun e => c2 (by rw [e]; rfl)
      intro e
      have hcl : cut - 2 < os.length := by simp only [List.length_cons] at hle; omega
      rw [List.getD_eq_getElem?_getD, List.getElem?_take, if_pos (by omega), show cut - 1 = (cut - 2) + 1 by omega, List.getElem?_cons_succ, List.getElem?_eq_getElem hcl] at e
      have hh : bD ((soaRec o l :: os).take cut) = soaRec o l := by
       obtain ⟨m, rfl⟩ : ∃ m, cut = m + 1 := ⟨cut - 1, by omega⟩
       rfl
      rw [hh] at e
      have := hr.non _ (List.getElem_mem hcl)
      simp only [Option.getD_some] at e
      rw [e, h2] at this
      cases this
end Go.Proofs.X
