/- Laws and walks that the proof of the statement is made of (part 13). -/
import Derived.Test.YteofaejlmdplhaaGreatP12
set_option linter.unusedSimpArgs false
set_option linter.unusedVariables false
namespace Go.Proofs.X
open Go.RowKit
set_option maxRecDepth 100000
theorem xL {α : Type} (l : List α) (i : Nat) (x : α) (h : i < l.length) : l.take i ++ [x] ++ l.drop (i + 1) = l.set i x := by
 rw [List.set_eq_take_append_cons_drop, if_pos h, List.append_assoc]
 rfl
section
variable {P : Program} {ops : Array Oper} {Q : Exit → Act → World → Prop} {w : World} {rest : List Oper} {ts : List Value} {df : List Deferred} {ty : TypeId} {ps : String} {af : Array Edge} {g : Option (Nat × Bool)}
theorem Own.slf {B k e : Nat} {w : World} {v : Value} {es : List (List Value)} (h : Own B k e w v es) : v = .slice none 0 0 ∧ es = [] ∨ ∃ g cap, v = .slice (some ⟨g, 0, none⟩) es.length cap := by
 rcases h.row.2 with ⟨h0, h1⟩ | ⟨g', cap', cur, fz, hv, _⟩
 ·exact .inl ⟨h0, List.eq_nil_of_length_eq_zero h1⟩
 ·exact .inr ⟨g', cap', hv⟩
theorem DF {B k e : Nat} {v : Value} {es : List (List Value)} {i : Nat} {c : Value} {f : List Value} {t : TypeId} (ho : Own B k e w v es) (hi : i < es.length) (hc : c.cells = f.toArray) (hf : f.length = k) (h1 : ∀ u ∈ f, u.oneCell' = true) (ht : aO P t k = true) :
 ∃ w' b, bW v (i * k) = .pointer (some ⟨b, i * k, none⟩) ∧ (storeVar t ⟨b, i * k, none⟩ c).run P w = .ok () w' ∧ Own B k e w' v (es.set i f) ∧ Mv v.ownBlock w w' := by
 rcases ho.slf with ⟨_, rfl⟩ | ⟨gb, cap, rfl⟩
 ·simp at hi
 ·obtain ⟨inf, hq, hsz⟩ := lD (fI ht)
  obtain ⟨cur, fz, hg, hfz, hnc, h3, h4, how, hmv⟩ := ho.over (i := i) (fs := [f]) (by simp; omega) (by intro x hx; rw [List.mem_singleton.1 hx]; exact hf)
  simp only [List.flatten_cons, List.flatten_nil, List.append_nil, List.length_cons, List.length_nil, Nat.zero_add] at h3 how hmv
  rw [xL _ _ _ hi] at how
  have hr := cU P gb (i * k) e fz f 0 cur w hg (by omega) (by omega) h1
  simp only [Nat.add_zero] at hr
  refine ⟨_, gb, by simp [bW, cO], ?_, by simpa using how, hmv⟩
  simp [storeVar, sizeOf, typeInfo, hq, hsz, hc, hr, hf]
theorem eY {B k e : Nat} {v c : Value} {es : List (List Value)} {f : List Value} {t ty2 : TypeId} {x y : Operand} {i : Nat} (hw : Region.wanted (Oper.mk none (.store t x y) ty2 ps af g) (yielded ops ts.toArray) = true)
 (hx : (Act.mk ts.toArray df).eval x = bW v (i * k)) (hy : (Act.mk ts.toArray df).eval y = c) (ho : Own B k e w v es) (hi : i < es.length) (hc : c.cells = f.toArray) (hf : f.length = k) (h1 : ∀ u ∈ f, u.oneCell' = true) (ht : aO P t k = true)
 (h : ∀ w', Own B k e w' v (es.set i f) → Mv v.ownBlock w w' → wpList P ops Q rest (Act.mk ts.toArray df) w') : wpList P ops Q (Oper.mk none (.store t x y) ty2 ps af g :: rest) (Act.mk ts.toArray df) w := by
 obtain ⟨w', b, e1, hr, ho', hm⟩ := DF (P := P) ho hi hc hf h1 ht
 refine fJ hw (w' := w') ?_ (h w' ho' hm)
 simp [execOp, hx, hy, e1, Instr.storeAt, Instr.sureAddr, hr]
end
theorem SetsO.mvb {B b : Nat} {w w' : World} {v : Value} {l : List RSet} (h : SetsO B w v l) (hm : Mv (some b) w w') (hb : b < B) : SetsO B w' v l := by
 obtain ⟨css, h1, h2, h3, h4⟩ := h
 have hs : ∀ (k : Nat) (u : Value) (es : List (List Value)), Sl k w u es → From B u → Sl k w' u es := by
  intro k u es hsl hf
  obtain ⟨a, cap, k1, k2, k3, k4, k5, k6⟩ := hsl
  refine ⟨a, cap, k1, k2, k3, k4, k5, fun hn => ?_⟩
  obtain ⟨g, o, e, hc⟩ := k6 hn
  have hg : B ≤ g := hf g o none _ _ (by rw [k1, e])
  refine ⟨g, o, e, fun i e j x i1 i2 => ?_⟩
  have hcell := hc i e j x i1 i2
  have hlt := World.block_lt_of_cell? w _ hcell
  exact (World.cell?_of_block (hm.block g hlt (fun e => by have := Option.some.inj e; omega))).trans hcell
 refine ⟨css, hs _ _ _ h1 h2, h2, ⟨h3.len, fun i s hi => ?_⟩, h4⟩
 obtain ⟨x, e, hx⟩ := h3.at' i s hi
 exact ⟨x, e, hs _ _ _ hx (h4 _ (List.mem_of_getElem? e) x (by simp))⟩
def EV : List UInt8 := [2, 110, 115, 1, 97, 0, 1, 109, 0, 0, 0, 0, 5, 0, 0, 0, 10, 0, 0, 0, 3, 0, 0, 0, 100, 0, 0, 0, 4]
def KI : List UInt8 := [2, 110, 115, 1, 97, 0, 1, 109, 0, 0, 0, 0, 6, 0, 0, 0, 10, 0, 0, 0, 3, 0, 0, 0, 100, 0, 0, 0, 4]
def DG : List Rec := [⟨[1, 97], 6, 9, EV⟩, ⟨[1, 97], 2, 9, [2, 110, 115, 1, 97, 0]⟩, ⟨[2, 110, 115, 1, 97], 1, 9, [49, 49, 49, 49]⟩]
def lW : List RSet := [⟨[1, 97], 2, 9, [[2, 110, 115, 1, 97, 0]]⟩, ⟨[1, 97], 6, 9, [EV]⟩, ⟨[2, 110, 115, 1, 97], 1, 9, [[49, 49, 49, 49]]⟩]
def xN : List RSet := [⟨[1, 97], 2, 9, [[2, 110, 115, 1, 97, 0]]⟩, ⟨[1, 97], 6, 9, [KI]⟩, ⟨[2, 110, 115, 1, 97], 1, 9, [[49, 49, 49, 49]]⟩]
theorem QW : aW [1, 97] lW = 0 := by decide +kernel
theorem KJ : wW [1, 97] lW 6 = 0 := by decide +kernel
theorem KK : MG [1, 97] lW 6 = xN := by decide +kernel
theorem KL : MH [1, 97] lW 6 = [1, 97] := by decide +kernel
theorem GA : ∀ s ∈ lW, s.data.length ≤ 1000000 := by decide +kernel
theorem QX : ∀ s ∈ lW, ∀ d ∈ s.data, d.length ≤ 4611686018427387904 := by decide +kernel
theorem OX : ∀ s ∈ xN, s.data.length ≤ 1000000 := by decide +kernel
theorem OY : ∀ s ∈ xN, ∀ d ∈ s.data, d.length ≤ 4611686018427387904 := by decide +kernel
theorem QY : ∀ r ∈ DG, r.data.length ≤ 4611686018427387904 := by decide +kernel
theorem KM (w : World) : Calls Tryz.prog 37 #[] w (jI w fun r w' => Sl 4 w' r (aD DG)) := by
 go_enter Tryz.func37, Tryz.ntmps37
 refine_lift tC ?_; intro _ _ _
 refine_lift bX fun _ _ => ?_
 refine aQ (v := .agg #[aH [1, 97], .int .i64 6, .int .i64 9, aH EV]) rfl (Runs.build rfl (by kernel_rfl)) ?_
 refine aA ?_
 refine aQ (v := .agg #[aH [1, 97], .int .i64 2, .int .i64 9, aH [2, 110, 115, 1, 97, 0]]) rfl (Runs.build rfl (by kernel_rfl)) ?_
 refine aA ?_
 refine aQ (v := .agg #[aH [2, 110, 115, 1, 97], .int .i64 1, .int .i64 9, aH [49, 49, 49, 49]]) rfl (Runs.build rfl (by kernel_rfl)) ?_
 refine aA ?_
 refine bY (e := 47) (k := 4) (bytes := 48) (xs := DG.map fun r => .agg r.cells.toArray) rfl rfl rfl (by intro x hx; obtain ⟨r, _, rfl⟩ := List.mem_map.1 hx; rfl) (by decide +kernel) (by decide +kernel) ?_
 intro v1 w1 x1 s1 sl1 _
 have sl1' : Sl 4 w1 v1 (aD DG) := by simpa [aD, Value.cells, List.map_map, Function.comp_def] using sl1
 refine aA ?_
 refine_lift aR ?_
 go_ret
 exact ⟨_, rfl, x1, sl1'⟩
theorem nS {o o' : List UInt8} {u v : Value} {a b : List RSet} {w : World} (hu : SetsAt w u a) (hv : SetsAt w v b) (ho : o = o') (hab : a = b) : Calls Tryz.prog 23 #[.agg #[aH o, u], .agg #[aH o', v]] w (bE w (.bool true)) := by
 have := MO o o' u v a b w hu hv
 rw [decide_eq_true ho, decide_eq_true hab] at this
 exact this
def TO (w : World) (e : Ending) (w' : World) : Prop := e = .returned (.bool true) ∧ Ext w w'
def SG : DeltaR := ⟨5, 6, [⟨[1, 97], 6, 9, EV⟩], [⟨[1, 97], 6, 9, KI⟩]⟩
section
variable {P : Program} {w : World} {ts : List Value} {df : List Deferred} {d : Option Nat} {ty : TypeId} {ps : String} {af : Array Edge} {g : Option (Nat × Bool)}
def KN (P : Program) (t : TypeId) : Bool := match P.underlying t with | some .bool => true | _ => false
theorem Runs.eqlB {t u : TypeId} {x y : Operand} {a b : Bool} (hx : (Act.mk ts.toArray df).eval x = .bool a) (hy : (Act.mk ts.toArray df).eval y = .bool b) (ht : KN P t = true) :
 Runs P (Oper.mk d (.binOp .eql t x y u) ty ps af g) (Act.mk ts.toArray df) w (.bool (a == b)) := by
 have hu : P.underlying t = some .bool := by
  unfold KN at ht; split at ht
  ·assumption
  ·cases ht
 constructor
 simp [execOp, hx, hy, eqGuard, binOp, run_equal_bool w t a b hu]
end
theorem EW {l : List RSet} (h : sU l = true) : l.length ≤ 25 ∧ (∀ s ∈ l, s.data.length ≤ 12) ∧ (∀ s ∈ l, s.name.length ≤ 300) ∧ ∀ s ∈ l, ∀ d ∈ s.data, d.length ≤ 300 := by
 simp only [sU, Bool.and_eq_true, decide_eq_true_eq, List.all_eq_true, oP] at h
 exact ⟨h.1, fun s hs => (h.2 s hs).1.1, fun s hs => (h.2 s hs).1.2, fun s hs d hd => (h.2 s hs).2 d hd⟩
theorem vT : ∀ {l : List RSet}, (∀ s ∈ l, s.data.length ≤ 12) → (aK l).length ≤ 12 * l.length
 | [], _ => by simp [aK]
 | s :: l, h => by
   have ih := vT (l := l) fun t ht => h t (List.mem_cons_of_mem _ ht)
   have h1 := h s (by simp)
   have e : aK (s :: l) = dU s ++ aK l := by simp [aK]
   rw [e, List.length_append, List.length_cons]
   simp only [dU, List.length_map]
   omega
set_option maxHeartbeats 8000000 in
theorem MP (o : List UInt8) (v : Value) (l : List RSet) {d : DeltaR} {r : Value} (w : World) (hv : SetsAt w v l) (hd : DelA d r w)
 (bl : ∀ s ∈ l, s.data.length ≤ 1000000) (dl : ∀ s ∈ l, ∀ d ∈ s.data, d.length ≤ 1000000) (h1 : (aK l).length ≤ 5000) (h2 : d.new.length ≤ 5000) (dn : ∀ q ∈ d.new, q.data.length ≤ 1000000) :
 Calls Tryz.prog 168 #[.agg #[aH o, v], r] w (jI w (AppU w.heap.size o l d)) := by
 obtain ⟨g, n, rfl, sg, sn⟩ := hd
 have lg := aJ d.gone
 have ln := aJ d.new
 have lgl := sg.le
 have lnl := sn.le
 go_enter Tryz.func168, Tryz.ntmps168
 refine_lift hY fun _ _ => ?_
 refine aZ (vs := [aH o, v]) rfl rfl ?_
 intro p w1 x1 hp
 refine aA ?_
 refine aZ (vs := [.int .i64 d.fr, .int .i64 d.to, g, n]) rfl rfl ?_
 intro q w2 x2 hq
 refine aA ?_
 refine aG (z := aN) rfl (by decide +kernel) ?_
 intro w3 x3 s3 h3
 refine aA ?_
 have hx3 := (x1.trans x2).trans x3
 have zz := (x1.trans x2).size
 have hp3 := (hp.ext x2).ext x3
 have hq3 := hq.ext x3
 refine_lift bX fun _ _ => ?_
 refine aB (enters_of Tryz.func31 rfl rfl) rfl rfl (qO o v l _ (hv.ext hx3) bl (fun s hs d hd => by have := dl s hs d hd; omega)) ?_; intro w4 x4; refine aA ?_
 have hx4 := hx3.trans x4
 refine_lift aR ?_
 refine aG (z := aU) rfl (by decide +kernel) ?_
 intro w5 x5 s5 h5
 refine aA ?_
 refine aC (v := .agg (aS o l).cells.toArray) rfl rfl rfl h5 (show aO Tryz.prog 67 7 = true by decide +kernel) rfl (dG _) ?_
 intro w6 p6
 have x46 : Ext w4 w6 := x5.move p6.mv (by rintro k ⟨⟩; exact Nat.le_refl _)
 have b6 : w6.heap[w4.heap.size]? = some (.cells (aS o l).cells.toArray 67 (0, 0)) := p6.this
 have x36 := x4.trans x46
 have hx6 := hx3.trans x36
 clear p6 h5 x5
 have h6 := x36.at h3
 have hp6 := hp3.ext x36
 have hq6 := hq3.ext x36
 refine_lift PX (fun _ _ _ _ _ => ?_) (fun _ _ _ _ _ => ?_)
 ·have q0 : ¬ aW o l = 0 := by simpa using (by assumption : (!decide (aW o l = 0)) = true)
  refine aQ (v := .agg aN.toArray) rfl (Runs.build0 (by kernel_rfl)) ?_
  refine aA ?_
  refine_lift aR ?_
  refine aC (v := .agg aN.toArray) rfl rfl rfl h6 (by decide +kernel) rfl (by decide +kernel) ?_
  intro wz pz
  have xz : Ext w wz := hx6.move pz.mv (by rintro k ⟨⟩; exact zz)
  refine_lift aR ?_
  refine bodyPost_ret (aF (cs := aN) rfl rfl pz.this (by decide +kernel)) rfl ⟨_, rfl, xz, ?_⟩
  exact AppU.bad (by rw [gX, if_neg q0]) q0
 ·have q0 : aW o l = 0 := by simpa using (by assumption : (!decide (aW o l = 0)) = false)
  have pb6 := aE b6
  have pb6' : Pts w6 (.pointer (some ⟨w4.heap.size, 0, none⟩)) [aH (aS o l).main, aH (aS o l).mail, .int .i64 (aS o l).serial, .int .i64 (aS o l).refresh, .int .i64 (aS o l).retry, .int .i64 (aS o l).expire, .int .i64 (aS o l).minimum] := pb6
  refine_lift wT (fun _ _ _ => ?_) (fun _ _ _ => ?_)
  ·have q1 : ¬ (aS o l).serial = d.fr := by simpa using (by assumption : (!decide ((aS o l).serial = d.fr)) = true)
   refine aQ (v := .agg aN.toArray) rfl (Runs.build0 (by kernel_rfl)) ?_
   refine aA ?_
   refine aC (v := .agg aN.toArray) rfl rfl rfl h6 (by decide +kernel) rfl (by decide +kernel) ?_
   intro wz pz
   have xz : Ext w wz := hx6.move pz.mv (by rintro k ⟨⟩; exact zz)
   refine_lift aR ?_
   refine bodyPost_ret (aF (cs := aN) rfl rfl pz.this (by decide +kernel)) rfl ⟨_, rfl, xz, ?_⟩
   exact AppU.bad (by rw [gX, if_pos q0, if_neg q1]) (by decide)
  ·have q1 : (aS o l).serial = d.fr := by simpa using (by assumption : (!decide ((aS o l).serial = d.fr)) = false)
   refine aL (enters_of Tryz.func40 rfl rfl) rfl rfl (QJ v l _ (hv.ext hx6) (by omega)) ?_
   intro r0 w7 x7 o7
   refine aA ?_
   have hq7 := hq6.ext x7
   have sg6 := sg.ext hx6
   have sn6 := sn.ext hx6
   have hrd := rO dl
   refine_lift bX fun _ _ => ?_
   go_loopw [8, 10, 11, 39] (fun o _ _ i wr => ∃ (k : Nat) (m : List Rec), k ≤ d.gone.length ∧ i = .int .i64 k ∧ Ext w6 wr ∧ Own w6.heap.size 4 47 wr o (aD m) ∧ gD (aK l) (d.gone.take k) = some m) (fun _ _ _ i _ => d.gone.length - (intOf i).toNat)
   case atStart => exact ⟨0, aK l, Nat.zero_le _, rfl, x7, o7, rfl⟩
   case round =>
    obtain ⟨k, m, hk, rfl, hx, ho, hg⟩ := hrel
    obtain ⟨gl, gm⟩ := vI hg
    have hml := aJ m
    have hsg := sg6.ext hx
    have hqr := hq6.ext hx
    have hpr := hp6.ext hx
    by_cases hlt : k < d.gone.length
    ·have hpe := hsg.elem (cR hlt)
     refine_lift nK ?_; intro _ _ _ _ _ _
     refine aG (z := HQ) rfl (by decide +kernel) ?_
     intro w8 x8 s8 h8
     refine aA ?_
     refine aC (v := .agg #[aH d.gone[k].name, .int .i64 d.gone[k].kind, .int .i64 d.gone[k].ttl, aH d.gone[k].data]) rfl rfl rfl h8 (show aO Tryz.prog 47 4 = true by decide +kernel) rfl (iE rfl rfl rfl rfl) ?_
     intro w9 p9
     have x9 : Ext wr w9 := x8.move p9.mv (by rintro k ⟨⟩; exact Nat.le_refl _)
     have hp9 := aE (cs := [aH d.gone[k].name, .int .i64 d.gone[k].kind, .int .i64 d.gone[k].ttl, aH d.gone[k].data]) p9.this
     have hx9 := hx.trans x9
     have ho9 := ho.ext x9
     clear p9 h8 x8
     refine_lift bX fun _ _ => ?_
     refine aB (enters_of Tryz.func192 rfl rfl) rfl rfl (FV _ m d.gone[k] _ ho9.sl) ?_; intro w10 x10; refine aA ?_
     have hx10 := hx9.trans x10
     have ho10 := ho9.ext x10
     by_cases hm : d.gone[k] ∈ m
     ·obtain ⟨i, hi, ei, ee⟩ := MK hm
      rw [ei]
      have hst := zG hlt hg
      rw [if_pos hm] at hst
      refine_lift fH fun _ => ?_
      refine bI (enters_of Tryz.func198 rfl rfl) rfl rfl (KH ho10 hi (by omega)) ?_
      rintro _ w11 ⟨v11, rfl, o11, m11, k11⟩
      refine ⟨_, rfl, ?_⟩
      refine aA ?_
      rw [ee] at o11
      have hx11 : Ext w6 w11 := ho10.mvx m11 hx10 (Nat.le_refl _)
      refine_lift aR ?_
      exact ⟨⟨k + 1, _, by omega, by go_num, hx11, o11, hst⟩, by simp [intOf]; omega⟩
     ·rw [KG hm]
      have hb := vJ (DC hlt hg hm)
      refine_lift OE fun _ _ _ _ _ => ?_
      refine aQ (v := .agg aN.toArray) rfl (Runs.build0 (by kernel_rfl)) ?_
      refine aA ?_
      refine aC (v := .agg aN.toArray) rfl rfl rfl (hx10.at h6) (by decide +kernel) rfl (by decide +kernel) ?_
      intro wz pz
      have xz : Ext w wz := (hx6.trans hx10).move pz.mv (by rintro k ⟨⟩; exact zz)
      refine_lift aR ?_
      refine bodyPost_ret (aF (cs := aN) rfl rfl pz.this (by decide +kernel)) rfl ⟨_, rfl, xz, ?_⟩
      exact AppU.bad (nQ q0 q1 hb) (by decide)
    ·have : k = d.gone.length := by omega
     subst this
     rw [List.take_length] at hg
     have hed := FY hg
     refine_lift jY fun _ _ _ => ?_
     go_loopw [8, 13, 58] (fun o _ i wr => ∃ (k : Nat) (m' : List Rec), k ≤ d.new.length ∧ i = .int .i64 k ∧ Ext w6 wr ∧ Own w6.heap.size 4 47 wr o (aD m') ∧ kV m (d.new.take k) = some m') (fun _ _ i _ => d.new.length - (intOf i).toNat)
     case atStart => exact ⟨0, m, Nat.zero_le _, rfl, hx, ho, rfl⟩
     case round =>
      obtain ⟨k, m', hk, rfl, hx, ho, hn⟩ := hrel
      obtain ⟨nl, nm⟩ := AM hn
      have hml := aJ m'
      have hsn := sn6.ext hx
      have hqr := hq6.ext hx
      have hpr := hp6.ext hx
      rw [List.length_take] at nl
      by_cases hlt : k < d.new.length
      ·have hpe := hsn.elem (cR hlt)
       have hst := DB hlt hn
       refine_lift nK ?_; intro _ _ _ _ _ _
       refine aG (z := HQ) rfl (by decide +kernel) ?_
       intro w8 x8 s8 h8
       refine aA ?_
       refine aC (v := .agg #[aH d.new[k].name, .int .i64 d.new[k].kind, .int .i64 d.new[k].ttl, aH d.new[k].data]) rfl rfl rfl h8 (show aO Tryz.prog 47 4 = true by decide +kernel) rfl (iE rfl rfl rfl rfl) ?_
       intro w9 p9
       have x9 : Ext wr w9 := x8.move p9.mv (by rintro k ⟨⟩; exact Nat.le_refl _)
       have hp9 := aE (cs := [aH d.new[k].name, .int .i64 d.new[k].kind, .int .i64 d.new[k].ttl, aH d.new[k].data]) p9.this
       have hx9 := hx.trans x9
       have ho9 := ho.ext x9
       clear p9 h8 x8
       refine_lift gO fun _ _ _ _ => ?_
       refine aB (enters_of Tryz.func153 rfl rfl) rfl rfl (vG _ m' d.new[k] _ ho9.sl) ?_; intro w10 x10; refine aA ?_
       have hx10 := hx9.trans x10
       have ho10 := ho9.ext x10
       have hp10 := hp9.ext x10
       by_cases hm : d.new[k] ∈ m'
       ·rw [decide_eq_true hm]
        have hb := FX hlt hn hm
        refine_lift bX fun _ _ => ?_
        refine aQ (v := .agg aN.toArray) rfl (Runs.build0 (by kernel_rfl)) ?_
        refine aA ?_
        refine aC (v := .agg aN.toArray) rfl rfl rfl (hx10.at h6) (by decide +kernel) rfl (by decide +kernel) ?_
        intro wz pz
        have xz : Ext w wz := (hx6.trans hx10).move pz.mv (by rintro k ⟨⟩; exact zz)
        refine_lift aR ?_
        refine bodyPost_ret (aF (cs := aN) rfl rfl pz.this (by decide +kernel)) rfl ⟨_, rfl, xz, ?_⟩
        exact AppU.bad (nQ q0 q1 (hed.trans hb)) (by decide)
       ·rw [decide_eq_false hm]
        rw [if_neg hm] at hst
        refine_lift aR ?_
        refine DY [aH d.new[k].name, .int .i64 d.new[k].kind, .int .i64 d.new[k].ttl, aH d.new[k].data] hx10 ho10 (by omega) ?_ (kW rfl)
        intro s5 v5 w11 w12 x11 m12 x12 o12
        refine aA ?_
        refine_lift aR ?_
        refine ⟨⟨k + 1, _, by omega, by go_num, x12, ?_, hst⟩, by simp [intOf]; omega⟩
        simpa [aD, Rec.cells] using o12
      ·have : k = d.new.length := by omega
       subst this
       rw [List.take_length] at hn
       rw [hn] at hed
       have hmd : ∀ q ∈ m', q.data.length ≤ 1000000 := by
        intro q hq
        rcases nm q hq with h | h
        ·exact hrd q (gm q h)
        ·exact dn q (List.mem_of_mem_take h)
       have hm5 : m'.length ≤ 10000 := by omega
       obtain ⟨lb1, lb2, lb3⟩ := qV (o := o) hmd
       have hend := zI q0 q1 hed
       refine_lift jY fun _ _ _ => ?_
       refine aL (enters_of Tryz.func36 rfl rfl) rfl rfl (EQ o _ m' _ ho.sl hm5 (fun q hq => by have := hmd q hq; omega)) ?_
       rintro _ w20 x20 ⟨y, rfl, sy⟩
       refine aA ?_
       have hx20 := hx.trans x20
       obtain ⟨ya, yn, yc, hys⟩ : ∃ a n c, y = .slice a n c := by obtain ⟨css, h, _⟩ := sy.out; exact h.slf
       have hy1 : y.oneCell' = true := by rw [hys]; rfl
       refine_lift aR ?_
       refine aG (z := aN) rfl (by decide +kernel) ?_
       intro w21 x21 s21 h21
       refine aA ?_
       refine aC (v := .agg #[aH (cQ o m'), y]) rfl rfl rfl h21 (show aO Tryz.prog 25 2 = true by decide +kernel) rfl (bM hy1) ?_
       intro w22 p22
       have x2022 : Ext w20 w22 := x21.move p22.mv (by rintro k ⟨⟩; exact Nat.le_refl _)
       have z22 : w22.heap[w20.heap.size]? = some (.cells [aH (cQ o m'), y].toArray 25 (0, 0)) := p22.this
       have hx22 := hx20.trans x2022
       have sy22 := sy.ext x2022
       have ho22 := ho.ext (x20.trans x2022)
       clear p22 h21 x21
       refine_lift qE (fun _ _ _ => ?_) (fun _ _ _ _ _ => ?_)
       ·have q2 : ¬ dZ o m' = 0 := by simpa using (by assumption : (!decide (dZ o m' = 0)) = true)
        refine aQ (v := .agg aN.toArray) rfl (Runs.build0 (by kernel_rfl)) ?_
        refine aA ?_
        refine_lift aR ?_
        refine aC (v := .agg aN.toArray) rfl rfl rfl (hx22.at h6) (by decide +kernel) rfl (by decide +kernel) ?_
        intro wz pz
        have xz : Ext w wz := (hx6.trans hx22).move pz.mv (by rintro k ⟨⟩; exact zz)
        refine_lift aR ?_
        refine bodyPost_ret (aF (cs := aN) rfl rfl pz.this (by decide +kernel)) rfl ⟨_, rfl, xz, ?_⟩
        exact AppU.bad (by rw [hend, rN, if_neg q2]) q2
       ·have q2 : dZ o m' = 0 := by simpa using (by assumption : (!decide (dZ o m' = 0)) = false)
        have pz22 := aE z22
        refine_lift aR ?_
        refine aB (enters_of Tryz.func31 rfl rfl) rfl rfl (qO (cQ o m') y (bV o m') _ sy22.sets (fun s hs => by have := lb1 s hs; omega) (fun s hs d hd => by have := lb2 s hs d hd; omega)) ?_; intro w23 x23; refine aA ?_
        have hx23 := hx22.trans x23
        have b23 := hx23.at b6
        refine_lift aR ?_
        refine aC (v := .agg (aS (cQ o m') (bV o m')).cells.toArray) rfl rfl rfl b23 (show aO Tryz.prog 67 7 = true by decide +kernel) rfl (dG _) ?_
        intro w24 p24
        have e1 := x4.size
        have e2 := x46.size
        have e3 := hx.size
        have e4 := x20.size
        have e5 : w4.heap.size < w6.heap.size := (Array.getElem?_eq_some_iff.1 b6).1
        have x24 : Ext w3 w24 := (x36.trans hx23).move p24.mv (by rintro k ⟨⟩; exact e1)
        have hxw24 := hx3.trans x24
        have hq24 := hq3.ext x24
        have b24 : w24.heap[w4.heap.size]? = some (.cells [aH (aS (cQ o m') (bV o m')).main, aH (aS (cQ o m') (bV o m')).mail, .int .i64 (aS (cQ o m') (bV o m')).serial, .int .i64 (aS (cQ o m') (bV o m')).refresh, .int .i64 (aS (cQ o m') (bV o m')).retry, .int .i64 (aS (cQ o m') (bV o m')).expire, .int .i64 (aS (cQ o m') (bV o m')).minimum].toArray 67 (0, 0)) := p24.this
        have h24 := p24.at (hx23.at h6) (by omega)
        have z24 := p24.at (x23.at z22) (by omega)
        have sy24 := (sy22.ext x23).put p24 (by omega)
        have ho24 := (ho22.ext x23).mv p24.mv (.inr ((ho22.ext x23).neBlock b23 (by decide)))
        have pz24 := aE z24
        clear p24 b23
        refine_lift bX fun _ _ => ?_
        refine aL (enters_of Tryz.func40 rfl rfl) rfl rfl (QJ y (bV o m') _ sy24.sets (by omega)) ?_
        intro r5 w25 x25 o25
        refine aA ?_
        have hxw25 := hxw24.trans x25
        have h25 := x25.at h24
        have z25 := x25.at z24
        have pz25 := pz24.ext x25
        have pb25 := aE (x25.at b24)
        have hq25 := hq24.ext x25
        have sl25 := (ho24.ext x25).sl
        have sr25 := o25.sl
        have lr := aJ (aK (bV o m'))
        refine_lift NI (fun _ _ hc hc _ _ => ?_) (fun _ _ hc _ _ => ?_) (fun _ _ _ _ hc hc => ?_)
        ·have q3 : (aS (cQ o m') (bV o m')).serial = d.to := by simpa using (by assumption : (!decide ((aS (cQ o m') (bV o m')).serial = d.to)) = false)
         have q4 : (aK (bV o m')).length = m'.length := by
          have : (↑(aD (aK (bV o m'))).length : Int) = ↑(aD m').length := by simpa using hc
          omega
         refine aL (enters_of Tryz.func97 rfl rfl) rfl rfl (ER _ r5 m' (aK (bV o m')) _ sl25 sr25 (by omega)) ?_
         intro r6 w26 x26 o26
         have sr26 := o26.sl
         have hxw26 := hxw25.trans x26
         have h26 := x26.at h25
         have z26 := x26.at z25
         have pz26 := pz25.ext x26
         have l6 := aJ (eH m' (aK (bV o m')))
         have sy26 := (sy24.ext x25).ext x26
         refine aA ?_
         refine_lift wT (fun _ _ _ => ?_) (fun _ _ _ => ?_)
         ·have q5 : ¬ eH m' (aK (bV o m')) = [] := by
           intro e
           rw [e] at l6
           simp at l6
           have := (by assumption : (0 : Int) < ↑(aD (eH m' (aK (bV o m')))).length)
           rw [e] at this
           simp [aD] at this
          refine aQ (v := .agg aN.toArray) rfl (Runs.build0 (by kernel_rfl)) ?_
          refine aA ?_
          refine aC (v := .agg aN.toArray) rfl rfl rfl h26 (by decide +kernel) rfl (by decide +kernel) ?_
          intro wz pz
          have xz : Ext w wz := hxw26.move pz.mv (by rintro k ⟨⟩; exact zz)
          refine_lift aR ?_
          refine bodyPost_ret (aF (cs := aN) rfl rfl pz.this (by decide +kernel)) rfl ⟨_, rfl, xz, ?_⟩
          exact AppU.bad (by rw [hend, rN, if_pos q2, if_neg (fun h => q5 h.2.2)]) (by decide)
         ·have q5 : eH m' (aK (bV o m')) = [] := List.eq_nil_of_length_eq_zero (by omega)
          have hE : gX o l d = 0 := by rw [hend, rN, if_pos q2, if_pos ⟨q3, q4, q5⟩]
          refine_lift aR ?_
          refine aC (v := .agg #[aH (cQ o m'), y]) rfl rfl rfl h26 (show aO Tryz.prog 25 2 = true by decide +kernel) rfl (bM hy1) ?_
          intro wz pz
          have xz : Ext w wz := hxw26.move pz.mv (by rintro k ⟨⟩; exact zz)
          refine_lift aR ?_
          refine bodyPost_ret (aF (cs := [aH (cQ o m'), y]) rfl rfl pz.this (show dQ Tryz.prog 25 2 = true by decide +kernel)) rfl ⟨_, rfl, xz, ?_⟩
          refine ⟨y, ?_, ?_⟩
          ·rw [mG, if_pos hE, hE, hed]; rfl
          ·rw [qS, if_pos hE, hed]
           exact (sy26.put pz (by omega)).weaken (hx6.trans hx).size
        ·have q4 : ¬ (aK (bV o m')).length = m'.length := by
          have : ¬ (↑(aD (aK (bV o m'))).length : Int) = ↑(aD m').length := by simpa using hc
          omega
         refine aQ (v := .agg aN.toArray) rfl (Runs.build0 (by kernel_rfl)) ?_
         refine aA ?_
         refine aC (v := .agg aN.toArray) rfl rfl rfl h25 (by decide +kernel) rfl (by decide +kernel) ?_
         intro wz pz
         have xz : Ext w wz := hxw25.move pz.mv (by rintro k ⟨⟩; exact zz)
         refine_lift aR ?_
         refine bodyPost_ret (aF (cs := aN) rfl rfl pz.this (by decide +kernel)) rfl ⟨_, rfl, xz, ?_⟩
         exact AppU.bad (by rw [hend, rN, if_pos q2, if_neg (fun h => q4 h.2.1)]) (by decide)
        ·have q3 : ¬ (aS (cQ o m') (bV o m')).serial = d.to := by simpa using hc
         refine aQ (v := .agg aN.toArray) rfl (Runs.build0 (by kernel_rfl)) ?_
         refine aA ?_
         refine aC (v := .agg aN.toArray) rfl rfl rfl h25 (by decide +kernel) rfl (by decide +kernel) ?_
         intro wz pz
         have xz : Ext w wz := hxw25.move pz.mv (by rintro k ⟨⟩; exact zz)
         refine_lift aR ?_
         refine bodyPost_ret (aF (cs := aN) rfl rfl pz.this (by decide +kernel)) rfl ⟨_, rfl, xz, ?_⟩
         exact AppU.bad (by rw [hend, rN, if_pos q2, if_neg (fun h => q3 h.1)]) (by decide)
def GB (d : List UInt8) : Int := if (cB d).isSome then 0 else 2
theorem DH (d : List UInt8) (w : World) (hl : d.length ≤ 4611686018427387904) : Calls Tryz.prog 80 #[aH d] w (bE w (.tuple #[.agg (kX d).cells.toArray, .int .i64 (GB d)])) := by
 have h := SC d w hl
 unfold kX GB
 cases hp : cB d <;> (rw [hp] at h; exact h)
theorem AP (d : List UInt8) (w : World) (hl : d.length ≤ 4611686018427387904) : Calls Tryz.prog 98 #[aH d] w (bE w (.tuple #[.agg (kX d).cells.toArray, .int .i64 (GB d)])) := by
 have h := mV d w hl
 unfold kX GB
 cases hp : cB d <;> (rw [hp] at h; exact h)
set_option maxHeartbeats 2000000 in
theorem pT (r : Rec) (w : World) (hl : r.data.length ≤ 4611686018427387904) : Calls Tryz.prog 64 #[.agg #[aH r.name, .int .i64 r.kind, .int .i64 r.ttl, aH r.data]] w (bE w (.int .i64 (dL r))) := by
 go_enter Tryz.func64, Tryz.ntmps64
 refine_lift hY fun _ _ => ?_
 refine aZ (vs := [aH r.name, .int .i64 r.kind, .int .i64 r.ttl, aH r.data]) rfl rfl ?_
 intro p w1 x1 hp
 refine aA ?_
 refine_lift bX fun _ _ => ?_
 refine aB (enters_of Tryz.func80 rfl rfl) rfl rfl (DH r.data w1 hl) ?_; intro w2 x2; refine aA ?_
 refine_lift aR ?_
 refine aG (z := aU) rfl (by decide +kernel) ?_
 intro w3 x3 s3 h3
 refine aA ?_
 refine aC (v := .agg (kX r.data).cells.toArray) rfl rfl rfl h3 (show aO Tryz.prog 67 7 = true by decide +kernel) rfl (dG _) ?_
 intro w4 p4
 have x4 : Ext w2 w4 := x3.move p4.mv (by rintro k ⟨⟩; exact Nat.le_refl _)
 have hs4 := aE (cs := (kX r.data).cells) p4.this
 have hs42 : Pts w4 (bR (.pointer (some ⟨w2.heap.size, 0, none⟩)) 2) [.int .i64 (kX r.data).serial, .int .i64 (kX r.data).refresh, .int .i64 (kX r.data).retry, .int .i64 (kX r.data).expire, .int .i64 (kX r.data).minimum] := hs4.part 2
 refine_lift aR ?_
 go_ret
 exact ⟨rfl, (x1.trans x2).trans x4⟩
set_option maxHeartbeats 2000000 in
theorem gL (r : Rec) (w : World) (hl : r.data.length ≤ 4611686018427387904) : Calls Tryz.prog 70 #[.agg #[aH r.name, .int .i64 r.kind, .int .i64 r.ttl, aH r.data]] w (bE w (.int .i64 (dL r))) := by
 go_enter Tryz.func70, Tryz.ntmps70
 refine_lift hY fun _ _ => ?_
 refine aZ (vs := [aH r.name, .int .i64 r.kind, .int .i64 r.ttl, aH r.data]) rfl rfl ?_
 intro p w1 x1 hp
 refine aA ?_
 refine_lift bX fun _ _ => ?_
 refine aB (enters_of Tryz.func98 rfl rfl) rfl rfl (AP r.data w1 hl) ?_; intro w2 x2; refine aA ?_
 refine_lift aR ?_
 refine aG (z := aU) rfl (by decide +kernel) ?_
 intro w3 x3 s3 h3
 refine aA ?_
 refine aC (v := .agg (kX r.data).cells.toArray) rfl rfl rfl h3 (show aO Tryz.prog 67 7 = true by decide +kernel) rfl (dG _) ?_
 intro w4 p4
 have x4 : Ext w2 w4 := x3.move p4.mv (by rintro k ⟨⟩; exact Nat.le_refl _)
 have hs4 := aE (cs := (kX r.data).cells) p4.this
 have hs42 : Pts w4 (bR (.pointer (some ⟨w2.heap.size, 0, none⟩)) 2) [.int .i64 (kX r.data).serial, .int .i64 (kX r.data).refresh, .int .i64 (kX r.data).retry, .int .i64 (kX r.data).expire, .int .i64 (kX r.data).minimum] := hs4.part 2
 refine_lift aR ?_
 go_ret
 exact ⟨rfl, (x1.trans x2).trans x4⟩
def eZ {α : Type} (os : List α) (q : Nat) (x : α) : List α := os.take q ++ x :: os.drop q
section
variable {α : Type} {os : List α} {q : Nat} {x : α}
theorem jM (h : q ≤ os.length) : (eZ os q x).length = os.length + 1 := by
 simp [eZ]; omega
theorem nF (h : q ≤ os.length) : (eZ os q x)[q]? = some x := by
 unfold eZ
 rw [List.getElem?_append_right (by simp; omega)]
 simp [Nat.min_eq_left h]
theorem eJ {i : Nat} (hi : i < q) (h : q ≤ os.length) : (eZ os q x)[i]? = os[i]? := by
 unfold eZ
 rw [List.getElem?_append_left (by simp; omega), List.getElem?_take, if_pos hi]
theorem eK {i : Nat} (hi : q < i) (h : q ≤ os.length) : (eZ os q x)[i]? = os[i - 1]? := by
 unfold eZ
 rw [List.getElem?_append_right (by simp; omega)]
 have e : i - (os.take q).length = (i - 1 - q) + 1 := by simp; omega
 rw [e, List.getElem?_cons_succ, List.getElem?_drop]
 congr 1; omega
theorem vU (h : q < os.length) : ((eZ os (q + 1) x).set (q + 1) os[q]).set q x = eZ os q x := by
 apply List.ext_getElem?
 intro i
 by_cases h1 : i = q
 ·subst h1
  rw [List.getElem?_set_self (by rw [List.length_set, jM (by omega)]; omega), nF (by omega)]
 ·rw [List.getElem?_set_ne (fun e => h1 e.symm)]
  by_cases h2 : i = q + 1
  ·subst h2
   rw [List.getElem?_set_self (by rw [jM (by omega)]; omega), eK (by omega) (by omega)]
   simp [List.getElem?_eq_getElem h]
  ·rw [List.getElem?_set_ne (fun e => h2 e.symm)]
   by_cases h3 : i < q
   ·rw [eJ (by omega) (by omega), eJ h3 (by omega)]
   ·rw [eK (by omega) (by omega), eK (by omega) (by omega)]
theorem DI (h : q < os.length) : ((eZ os (q + 1) x).set q x).set (q + 1) os[q] = eZ os q x := by
 rw [List.set_comm _ _ (by omega)]
 exact vU h
end
def fP (l : List Rec) : List Rec := l.filter bA ++ l.filter fun r => !bA r
theorem vV {l : List Rec} (h : ∀ r ∈ l, bA r = false) : fP l = l := by
 unfold fP
 rw [List.filter_eq_nil_iff.2 (by simpa using h), List.nil_append, List.filter_eq_self]
 simpa using h
theorem rQ {os : List Rec} {q : Nat} {x : Rec} (h : ∀ r ∈ os, bA r = false) (hx : bA x = true) : fP (eZ os q x) = eZ os 0 x := by
 have h1 : ∀ r ∈ os.take q, bA r = false := fun r hr => h r (List.mem_of_mem_take hr)
 have h2 : ∀ r ∈ os.drop q, bA r = false := fun r hr => h r (List.mem_of_mem_drop hr)
 have e1 : (os.take q).filter bA = [] := List.filter_eq_nil_iff.2 (by simpa using h1)
 have e2 : (os.drop q).filter bA = [] := List.filter_eq_nil_iff.2 (by simpa using h2)
 have e3 : (os.take q).filter (fun r => !bA r) = os.take q := List.filter_eq_self.2 (by simpa using h1)
 have e4 : (os.drop q).filter (fun r => !bA r) = os.drop q := List.filter_eq_self.2 (by simpa using h2)
 unfold fP eZ
 simp only [List.filter_append, List.filter_cons, hx, e1, e2, e3, e4, if_true, Bool.not_true, Bool.false_eq_true, if_false]
 simp
theorem tI : ∀ (l : List Rec), (l.filter bA).length ≤ 1 → (∀ r ∈ l, bA r = false) ∨ ∃ os q x, q ≤ os.length ∧ l = eZ os q x ∧ bA x = true ∧ ∀ r ∈ os, bA r = false
 | [], _ => .inl (by simp)
 | r :: t, h => by
   by_cases hr : bA r = true
   ·refine .inr ⟨t, 0, r, Nat.zero_le _, by simp [eZ], hr, fun s hs => ?_⟩
    rw [List.filter_cons, if_pos hr, List.length_cons] at h
    have h0 : t.filter bA = [] := List.eq_nil_of_length_eq_zero (by omega)
    have := List.filter_eq_nil_iff.1 h0 s hs
    simpa using this
   ·rw [List.filter_cons, if_neg hr] at h
    have hrf : bA r = false := by simpa using hr
    rcases tI t h with h1 | ⟨os, q, x, h1, h2, h3, h4⟩
    ·exact .inl (by simpa [hrf] using h1)
    ·refine .inr ⟨r :: os, q + 1, x, by simp; omega, by rw [h2]; simp [eZ], h3, ?_⟩
     intro s hs
     rcases List.mem_cons.1 hs with rfl | hs
     ·exact hrf
     ·exact h4 s hs
def jB (o : List UInt8) (l : List RSet) : List Rec := if aW o l = 0 then fP (aK l) ++ [bG (fP (aK l))] else []
def iL (x : Option Rec) (os : List Rec) (q : Nat) : List Rec := match x with | some r => eZ os q r | none => os
def oF (x : Option Rec) (os : List Rec) : Nat := os.length + (match x with | some _ => 1 | none => 0)
structure Sx (x : Option Rec) (os : List Rec) (q : Nat) : Prop where
 non : ∀ r ∈ os, bA r = false
 is : ∀ r, x = some r → bA r = true ∧ q ≤ os.length
 no : x = none → os.length ≤ q
theorem nT {x : Option Rec} {os : List Rec} {q : Nat} (h : Sx x os q) : (iL x os q).length = oF x os := by
 unfold iL oF
 split
 ·rename_i r; exact jM (h.is r rfl).2
 ·rfl
theorem GD {x : Option Rec} {os : List Rec} {q i : Nat} (h : Sx x os q) (hi : i < oF x os) : ∃ r, (iL x os q)[i]? = some r ∧ bA r = decide (i = q) := by
 cases x with
 | none =>
  have h1 : i < os.length := by simpa [oF] using hi
  have := h.no rfl
  refine ⟨os[i], by simp [iL, h1], ?_⟩
  rw [h.non _ (List.getElem_mem h1), decide_eq_false (by omega)]
 | some r =>
  obtain ⟨h1, h2⟩ := h.is r rfl
  have h3 : i < os.length + 1 := by simpa [oF] using hi
  by_cases e : i = q
  ·subst e
   exact ⟨r, nF h2, by rw [h1, decide_eq_true rfl]⟩
  ·rw [decide_eq_false e]
   by_cases e2 : i < q
   ·refine ⟨os[i], ?_, h.non _ (List.getElem_mem (by omega))⟩
    rw [iL, eJ e2 h2, List.getElem?_eq_getElem (by omega)]
   ·refine ⟨os[i - 1], ?_, h.non _ (List.getElem_mem (by omega))⟩
    rw [iL, eK (by omega) h2, List.getElem?_eq_getElem (by omega)]
theorem Sx.to {x : Option Rec} {os : List Rec} {q q' : Nat} (h : Sx x os q) (hq : q < oF x os) (hq' : q' < oF x os) : Sx x os q' := by
 cases x with
 | none => have := h.no rfl; simp [oF] at hq; omega
 | some r => exact ⟨h.non, fun r' e => ⟨(h.is r' e).1, by simp [oF] at hq'; omega⟩, fun e => by cases e⟩
theorem KO {x : Option Rec} {os : List Rec} {q : Nat} (h : Sx x os (q + 1)) (hq : q + 1 < oF x os) : ∃ a b, (iL x os (q + 1))[q]? = some a ∧ (iL x os (q + 1))[q + 1]? = some b ∧ ((iL x os (q + 1)).set (q + 1) a).set q b = iL x os q ∧ ((iL x os (q + 1)).set q b).set (q + 1) a = iL x os q := by
 cases x with
 | none => have := h.no rfl; simp [oF] at hq; omega
 | some r =>
  have h2 := (h.is r rfl).2
  refine ⟨os[q], r, ?_, nF h2, vU (by omega), DI (by omega)⟩
  rw [iL, eJ (by omega) h2, List.getElem?_eq_getElem (by omega)]
def sX (a b : Rec) : Int := if bA a = bA b then 0 else if bA a = true then -1 else 1
theorem MQ (a b : Rec) : decide (sX a b < 0) = (bA a && !bA b) := by
 unfold sX
 cases bA a <;> cases bA b <;> rfl
def oG (D : List Rec) (a m : Nat) : Nat → List Rec
 | 0 => D
 | k + 1 => ((oG D a m k).set (a + k) ((oG D a m k).getD m bF)).set m ((oG D a m k).getD (a + k) bF)
theorem vW (D : List Rec) (a m : Nat) : ∀ k, (oG D a m k).length = D.length
 | 0 => rfl
 | k + 1 => by rw [oG, List.length_set, List.length_set, vW D a m k]
theorem GE {D : List Rec} {a m : Nat} (hm : m < D.length) : ∀ k, a + k ≤ m → ∀ i, (oG D a m k)[i]? = if k = 0 then D[i]? else if i < a ∨ m < i then D[i]? else if i = a then D[m]? else if i < a + k then D[i - 1]? else if i = m then D[a + k - 1]? else D[i]?
 | 0, _, i => by simp [oG]
 | k + 1, h, i => by
   have ih := GE (D := D) (a := a) hm k (by omega)
   have hl := vW D a m k
   have e1 : (oG D a m k)[m]? = if k = 0 then D[m]? else D[a + k - 1]? := by
    rw [ih m]
    by_cases hk : k = 0
    ·rw [if_pos hk, if_pos hk]
    ·rw [if_neg hk, if_neg hk, if_neg (by omega), if_neg (by omega), if_neg (by omega), if_pos rfl]
   have e2 : (oG D a m k)[a + k]? = D[a + k]? := by
    rw [ih (a + k)]
    by_cases hk : k = 0
    ·rw [if_pos hk]
    ·rw [if_neg hk, if_neg (by omega), if_neg (by omega), if_neg (by omega), if_neg (by omega)]
   rw [if_neg (by omega), oG]
   have g1 : (oG D a m k).getD m bF = (if k = 0 then D[m] else D[a + k - 1]) := by
    rw [List.getD_eq_getElem?_getD, e1]
    split <;> rw [List.getElem?_eq_getElem (by omega)] <;> rfl
   have g2 : (oG D a m k).getD (a + k) bF = D[a + k] := by
    rw [List.getD_eq_getElem?_getD, e2, List.getElem?_eq_getElem (by omega)]; rfl
   rw [g1, g2]
   by_cases im : i = m
   ·subst im
    rw [List.getElem?_set_self (by rw [List.length_set, hl]; exact hm), if_neg (by omega), if_neg (by omega), if_neg (by omega), if_pos rfl, show a + (k + 1) - 1 = a + k by omega, List.getElem?_eq_getElem (by omega)]
   ·rw [List.getElem?_set_ne (fun e => im e.symm)]
    by_cases ik : i = a + k
    ·subst ik
     rw [List.getElem?_set_self (by rw [hl]; omega)]
     by_cases hk : k = 0
     ·subst hk
      rw [if_pos rfl, if_neg (by omega), if_pos (by omega), List.getElem?_eq_getElem hm]
     ·rw [if_neg hk, if_neg (by omega), if_neg (by omega), if_pos (by omega), List.getElem?_eq_getElem (by omega)]
    ·rw [List.getElem?_set_ne (fun e => ik e.symm), ih i]
     by_cases hk : k = 0
     ·subst hk
      rw [if_pos rfl]
      by_cases c : i < a ∨ m < i
      ·rw [if_pos c]
      ·rw [if_neg c, if_neg (by omega), if_neg (by omega), if_neg im]
     ·rw [if_neg hk]
      by_cases c : i < a ∨ m < i
      ·rw [if_pos c, if_pos c]
      ·rw [if_neg c, if_neg c]
       by_cases c2 : i = a
       ·rw [if_pos c2, if_pos c2]
       ·rw [if_neg c2, if_neg c2]
        by_cases c3 : i < a + k
        ·rw [if_pos c3, if_pos (by omega)]
        ·rw [if_neg c3, if_neg im, if_neg (by omega), if_neg im]
theorem KP {x : Option Rec} {os : List Rec} {a m : Nat} (h : Sx x os m) (hm : m < oF x os) (ha : a < m) : oG (iL x os m) a m (m - a) = iL x os a := by
 cases x with
 | none => have := h.no rfl; simp [oF] at hm; omega
 | some r =>
  have h2 := (h.is r rfl).2
  have hl := nT h
  apply List.ext_getElem?
  intro i
  rw [GE (by omega) _ (by omega), if_neg (by omega)]
  simp only [iL]
  by_cases c : i < a ∨ m < i
  ·rw [if_pos c]
   rcases c with c | c
   ·rw [eJ (by omega) h2, eJ c (by omega)]
   ·rw [eK c h2, eK (by omega) (by omega)]
  ·rw [if_neg c]
   by_cases c2 : i = a
   ·subst c2
    rw [if_pos rfl, nF h2, nF (by omega)]
   ·rw [if_neg c2]
    by_cases c3 : i < a + (m - a)
    ·rw [if_pos c3, eJ (by omega) h2, eK (by omega) (by omega)]
    ·rw [if_neg c3, if_pos (by omega), eJ (by omega) h2, eK (by omega) (by omega)]
     congr 1; omega
theorem lX (r : Rec) (w : World) : Calls Tryz.prog 61 #[.agg #[aH r.name, .int .i64 r.kind, .int .i64 r.ttl, aH r.data]] w (bE w (.bool (bA r))) := by
 go_enter Tryz.func61, Tryz.ntmps61
 refine_lift hY fun _ _ => ?_
 refine aZ (vs := [aH r.name, .int .i64 r.kind, .int .i64 r.ttl, aH r.data]) rfl rfl ?_
 intro p w1 x1 hp
 refine aA ?_
 refine_lift aR ?_
 go_ret
 exact ⟨rfl, x1⟩
theorem AQ (a b : Rec) (w : World) : Calls Tryz.prog 90 #[.agg #[aH a.name, .int .i64 a.kind, .int .i64 a.ttl, aH a.data], .agg #[aH b.name, .int .i64 b.kind, .int .i64 b.ttl, aH b.data]] w (bE w (.int .i64 (sX a b))) := by
 go_enter Tryz.func90, Tryz.ntmps90
 refine_lift hY fun _ _ => ?_
 refine aZ (vs := [aH a.name, .int .i64 a.kind, .int .i64 a.ttl, aH a.data]) rfl rfl ?_
 intro p w1 x1 hp
 refine aA ?_
 refine aZ (vs := [aH b.name, .int .i64 b.kind, .int .i64 b.ttl, aH b.data]) rfl rfl ?_
 intro q w2 x2 hq
 refine aA ?_
 refine_lift gO fun _ _ _ _ => ?_
 have hp2 := hp.ext x2
 refine bD (by decide +kernel) (by decide +kernel) ?_
 refine_lift dP ?_
 refine cA (enters_of Tryz.func61 rfl rfl) rfl rfl (fun w' _ => lX a w') ?_
 refine aA ?_
 refine_lift dP ?_
 refine cA (enters_of Tryz.func61 rfl rfl) rfl rfl (fun w' _ => lX b w') ?_
 refine aA ?_
 refine_lift dP ?_
 refine gS (fun w' _ => Runs.eqlB (a := bA a) (b := bA b) rfl rfl (by decide +kernel)) ?_
 refine aA ?_
 refine_lift dP ?_
 intro w3 x3
 have hp3 := hp2.ext x3
 cases ha : bA a <;> cases hb : bA b
 ·have e : sX a b = 0 := by simp [sX, ha, hb]
  refine_lift fH fun _ => ?_
  go_ret
  exact ⟨by rw [e]; rfl, (x1.trans x2).trans x3⟩
 ·have e : sX a b = 1 := by simp [sX, ha, hb]
  refine_lift jY fun _ _ _ => ?_
  refine aB (enters_of Tryz.func61 rfl rfl) rfl rfl (lX a _) ?_; intro w4 x4; refine aA ?_
  rw [ha]
  refine_lift aR ?_
  go_ret
  exact ⟨by rw [e]; rfl, ((x1.trans x2).trans x3).trans x4⟩
 ·have e : sX a b = -1 := by simp [sX, ha, hb]
  refine_lift jY fun _ _ _ => ?_
  refine aB (enters_of Tryz.func61 rfl rfl) rfl rfl (lX a _) ?_; intro w4 x4; refine aA ?_
  rw [ha]
  refine_lift aR ?_
  go_ret
  exact ⟨by rw [e]; rfl, ((x1.trans x2).trans x3).trans x4⟩
 ·have e : sX a b = 0 := by simp [sX, ha, hb]
  refine_lift fH fun _ => ?_
  go_ret
  exact ⟨by rw [e]; rfl, (x1.trans x2).trans x3⟩
section
variable {P : Program} {w w' : World} {d : Option Nat} {ty : TypeId} {ps : String} {af : Array Edge} {g : Option (Nat × Bool)}
theorem Runs.pred {t u : TypeId} {x y : Operand} {a : Act} {m : Nat} (hx : a.eval x = .int .i64 ((m + 1 : Nat) : Int)) (hy : a.eval y = .int .i64 1) (h : m < 4611686018427387904) :
 Runs P (Oper.mk d (.binOp .sub t x y u) ty ps af g) a w (.int .i64 (m : Nat)) := by
 have h1 := Runs.sub (P := P) (w := w) (d := d) (ty := ty) (ps := ps) (af := af) (g := g) (t := t) (u := u) hx hy (by omega)
 rwa [show ((m + 1 : Nat) : Int) - 1 = (m : Nat) by omega] at h1
end
section
variable {P : Program} {w w' : World} {d : Option Nat} {ty : TypeId} {ps : String} {af : Array Edge} {g : Option (Nat × Bool)}
theorem Runs.addN {t u : TypeId} {x y : Operand} {a : Act} {m n : Nat} (hx : a.eval x = .int .i64 (m : Nat)) (hy : a.eval y = .int .i64 (n : Nat)) (h : m + n < 4611686018427387904) :
 Runs P (Oper.mk d (.binOp .add t x y u) ty ps af g) a w (.int .i64 ((m + n : Nat) : Int)) := by
 have h1 := Runs.add (P := P) (w := w) (d := d) (ty := ty) (ps := ps) (af := af) (g := g) (t := t) (u := u) hx hy (by omega)
 rwa [show (m : Int) + (n : Int) = ((m + n : Nat) : Int) by omega] at h1
theorem Runs.add0 {t u : TypeId} {x y : Operand} {a : Act} {m : Nat} (hx : a.eval x = .int .i64 (m : Nat)) (hy : a.eval y = .int .i64 ((0 : Nat) : Int)) (h : m < 4611686018427387904) :
 Runs P (Oper.mk d (.binOp .add t x y u) ty ps af g) a w (.int .i64 (m : Nat)) := Runs.addN (n := 0) hx hy h
end
section
variable {P : Program} {ops : Array Oper} {rest : List Oper} {ts : List Value} {df : List Deferred} {ty : TypeId} {ps : String} {af : Array Edge} {g : Option (Nat × Bool)} {tys : Array TypeId}
theorem nU {w0 : World} {QQ : Act → Prop} {f : FuncId} {m d : Nat} {caps : Array Value} {xs : List Operand} {vs : List Value} {v : Value} (he : Enters P f) (hw : Region.wanted (Oper.mk (some d) (.call ⟨.value (.tmp m), xs.toArray, tys⟩) ty ps af g) (yielded ops ts.toArray) = true)
 (hm : ts.getD m undef = .func (.func f) #[] caps) (hxs : xs.map (Act.mk ts.toArray df).eval = vs) (hc : ∀ w, Ext w0 w → Calls P f (vs.toArray ++ caps) w (bE w v)) (h : wpQuiet P ops (Ext w0) QQ rest (Act.mk (ts.set d v).toArray df)) :
 wpQuiet P ops (Ext w0) QQ (Oper.mk (some d) (.call ⟨.value (.tmp m), xs.toArray, tys⟩) ty ps af g :: rest) (Act.mk ts.toArray df) := by
 subst hxs
 unfold wpQuiet
 rw [if_pos hw]
 refine ⟨v, fun w hx => ?_, by simpa [Act.put] using h⟩
 have e1 : (Act.mk ts.toArray df).eval (.tmp m) = .func (.func f) #[] caps := by rw [eP]; exact hm
 have hr : (execOp (Act.mk ts.toArray df).eval (Oper.mk (some d) (.call ⟨.value (.tmp m), xs.toArray, tys⟩) ty ps af g)).run P w = .ok (.enter f ((xs.map (Act.mk ts.toArray df).eval).toArray ++ caps)) w := by
  have h1 := he ((xs.map (Act.mk ts.toArray df).eval).toArray ++ caps) w
  simpa [execOp, resolve, e1, Deferred.ofValue, invoke] using h1
 unfold Oper.quietAt
 rw [hr]
 exact ⟨rfl, (hc w hx).mono fun e w' ⟨h1, h2⟩ => ⟨h1, hx.trans h2⟩⟩
end
def MR (D : List Rec) (i j : Nat) : List Rec := (D.set i (D.getD j bF)).set j (D.getD i bF)
theorem fQ (D : List Rec) (i : Nat) (r : Rec) : (aD D).set i r.cells = aD (D.set i r) := by
 unfold aD; rw [List.map_set]
theorem nV {D : List Rec} {i : Nat} (h : i < D.length) : (aD D)[i]? = some (D.getD i bF).cells := by
 rw [aD, List.getElem?_map, List.getElem?_eq_getElem h, List.getD_eq_getElem?_getD, List.getElem?_eq_getElem h]
 rfl
theorem Rec.cells1 (r : Rec) : ∀ u ∈ r.cells, u.oneCell' = true := by
 intro u hu
 simp only [Rec.cells, List.mem_cons, List.not_mem_nil, or_false] at hu
 rcases hu with rfl | rfl | rfl | rfl <;> rfl
set_option maxHeartbeats 4000000 in
theorem GF {B : Nat} (v : Value) (D : List Rec) (i j : Nat) (f : Value) (w : World) (ho : Own B 4 47 w v (aD D)) (hi : i < D.length) (hj : j < D.length) (hl : D.length ≤ 1000000) :
 Calls Tryz.prog 239 #[v, .int .i64 i, .int .i64 j, .int .i64 1, f] w fun e w' => e = .returned (.tuple #[]) ∧ Own B 4 47 w' v (aD (MR D i j)) ∧ Mv v.ownBlock w w' := by
 go_enter Tryz.func239, Tryz.ntmps239
 refine_lift fH ?_; intro _
 go_loopw [10] (fun a wr => ∃ k : Nat, k ≤ 1 ∧ a = .int .i64 k ∧ Own B 4 47 wr v (aD (if k = 0 then D else MR D i j)) ∧ Mv v.ownBlock w wr) (fun a _ => 1 - (intOf a).toNat)
 case atStart => exact ⟨0, Nat.zero_le _, rfl, ho, Mv.refl _ _⟩
 case round =>
  obtain ⟨k, hk, rfl, ho1, m1⟩ := hrel
  by_cases hk0 : k = 0
  ·subst hk0
   rw [if_pos rfl] at ho1
   have hs := ho1.sl
   have hlen := aJ D
   have hei : Pts wr (bW v (i * 4)) [aH (D.getD i bF).name, .int .i64 (D.getD i bF).kind, .int .i64 (D.getD i bF).ttl, aH (D.getD i bF).data] := hs.elem (nV hi)
   have hej : Pts wr (bW v (j * 4)) [aH (D.getD j bF).name, .int .i64 (D.getD j bF).kind, .int .i64 (D.getD j bF).ttl, aH (D.getD j bF).data] := hs.elem (nV hj)
   refine_lift gO ?_; intro _ _ _ _
   refine cE 21 (Ext wr) (by decide +kernel) ?_
   intro w1 x1 _
   refine ⟨x1, ?_⟩
   refine iF 0 ?_; refine iF 1 ?_; refine iF 2 ?_
   refine jX 3 rfl (fun _ => Runs.add0 (m := i) rfl rfl (by omega)) ?_; refine aA ?_
   refine iF 4 ?_; refine iF 5 ?_; refine iF 6 ?_
   refine jX 7 rfl (fun _ => Runs.add0 (m := j) rfl rfl (by omega)) ?_; refine aA ?_
   refine iF 8 ?_; refine iF 9 ?_; refine iF 10 ?_
   refine jX 11 rfl (fun _ => Runs.add0 (m := j) rfl rfl (by omega)) ?_; refine aA ?_
   refine eG 12 ?_; refine eG 13 ?_
   refine iF 14 ?_; refine iF 15 ?_; refine iF 16 ?_
   refine jX 17 rfl (fun _ => Runs.add0 (m := i) rfl rfl (by omega)) ?_; refine aA ?_
   refine eG 18 ?_; refine eG 19 ?_
   refine jX 20 rfl (fun _ => Runs.idxW (n := i) rfl hs (by omega) (by decide +kernel)) ?_; refine aA ?_
   have ho2 := ho1.ext x1
   refine bT (i := 21) (by decide +kernel) rfl rfl ?_
   refine eY (i := i) (f := (D.getD j bF).cells) rfl rfl rfl ho2 (by omega) rfl rfl (Rec.cells1 _) (by decide +kernel) ?_
   intro w2 o2 m2
   refine aI ⟨cG rfl, ?_⟩
   refine jX 22 rfl (fun _ => Runs.idxW (n := j) rfl hs (by omega) (by decide +kernel)) ?_; refine aA ?_
   refine bT (i := 23) (by decide +kernel) rfl rfl ?_
   refine eY (i := j) (f := (D.getD i bF).cells) rfl rfl rfl o2 (by rw [List.length_set]; omega) rfl rfl (Rec.cells1 _) (by decide +kernel) ?_
   intro w3 o3 m3
   refine aI ⟨cG rfl, ?_⟩
   refine cV (by decide +kernel) ?_
   rw [fQ, fQ] at o3
   refine_lift aR ?_
   exact ⟨⟨1, Nat.le_refl _, by go_num, by rw [if_neg (by omega)]; exact o3, ((m1.trans (x1.mv _)).trans m2).trans m3⟩, by simp [intOf]⟩
  ·have : k = 1 := by omega
   subst this
   rw [if_neg hk0] at ho1
   refine_lift fH fun _ => ?_
   go_end0
   exact ⟨rfl, ho1, m1⟩
theorem AR {x : Option Rec} {os : List Rec} {q i j : Nat} (h : Sx x os q) (hi : i < oF x os) (hj : j < oF x os) : decide (sX ((iL x os q).getD i bF) ((iL x os q).getD j bF) < 0) = (decide (i = q) && !decide (j = q)) := by
 obtain ⟨r, h1, h2⟩ := GD h hi
 obtain ⟨s, h3, h4⟩ := GD h hj
 rw [MQ, List.getD_eq_getElem?_getD, List.getD_eq_getElem?_getD, h1, h3]
 simp only [Option.getD_some, h2, h4]
theorem EX {x : Option Rec} {os : List Rec} {q : Nat} (h : Sx x os (q + 1)) (hq : q + 1 < oF x os) : MR (iL x os (q + 1)) (q + 1) q = iL x os q ∧ MR (iL x os (q + 1)) q (q + 1) = iL x os q := by
 obtain ⟨a, b, h1, h2, h3, h4⟩ := KO h hq
 unfold MR
 rw [List.getD_eq_getElem?_getD, List.getD_eq_getElem?_getD, h1, h2]
 exact ⟨h3, h4⟩
def kM (a b q : Nat) : Nat := if a ≤ q ∧ q < b then a else q
set_option maxHeartbeats 4000000 in
theorem sQ {B : Nat} (v : Value) (x : Option Rec) (os : List Rec) (q a b : Nat) (w : World) (h : Sx x os q) (ho : Own B 4 47 w v (aD (iL x os q))) (hab : a ≤ b) (hb : b ≤ oF x os) (hl : oF x os ≤ 1000000) :
 Calls Tryz.prog 188 #[v, .int .i64 a, .int .i64 b, .func (.func 90) #[] #[]] w fun e w' => e = .returned (.tuple #[]) ∧ Own B 4 47 w' v (aD (iL x os (kM a b q))) ∧ Mv v.ownBlock w w' := by
 go_enter Tryz.func188, Tryz.ntmps188
 refine_lift fH ?_; intro _
 go_loopw [8, 9] (fun i _ wr => ∃ k : Nat, a + 1 ≤ k ∧ (k ≤ b ∨ k = a + 1) ∧ i = .int .i64 k ∧ Own B 4 47 wr v (aD (iL x os (kM a k q))) ∧ Mv v.ownBlock w wr) (fun i _ _ => b - (intOf i).toNat)
 case atStart =>
  refine ⟨a + 1, Nat.le_refl _, .inr rfl, by go_num, ?_, Mv.refl _ _⟩
  have : kM a (a + 1) q = q := by unfold kM; split <;> omega
  rw [this]; exact ho
 case round =>
  obtain ⟨k, hk, hk2, rfl, ho1, m1⟩ := hrel
  by_cases hlt : k < b
  ·refine_lift gO ?_; intro _ _ _ _
   have hq : Sx x os (kM a k q) := by
    unfold kM; split
    ·exact h.to (by omega) (by omega)
    ·exact h
   have hqk : kM a k q = q ∨ kM a k q = a := by unfold kM; split <;> simp
   obtain ⟨Q, hQe⟩ : ∃ Q, Q = kM a k q := ⟨_, rfl⟩
   rw [← hQe] at ho1 hq hqk
   go_loopw [9] (fun j w2 => ∃ m : Nat, a ≤ m ∧ m ≤ k ∧ (Q ≠ k → m = k) ∧ j = .int .i64 m ∧ Own B 4 47 w2 v (aD (iL x os (if Q = k then m else Q))) ∧ Mv v.ownBlock w w2) (fun j _ => (intOf j).toNat)
   case atStart =>
    have e : (if Q = k then k else Q) = Q := by split <;> omega
    exact ⟨k, by omega, Nat.le_refl _, fun _ => rfl, rfl, by rw [e]; exact ho1, m1⟩
   case round =>
    obtain ⟨m, hm1, hm2, hm3, rfl, ho2, m2⟩ := hrel
    refine_lift TC ?_; intro _ _ _ _ _
    refine bD (by decide +kernel) (by decide +kernel) ?_
    refine_lift dP ?_
    have hQk : Q = k → k < oF x os := fun _ => by omega
    obtain ⟨s, hs⟩ : ∃ s, s = (if Q = k then m else Q) := ⟨_, rfl⟩
    rw [← hs] at ho2
    have hS : Sx x os s := by
     rw [hs]; split
     ·rename_i e; exact hq.to (by omega) (by omega)
     ·exact hq
    have hDl := nT hS
    have hrl := aJ (iL x os s)
    have hsl := ho2.sl
    by_cases hma : a < m
    ·obtain ⟨n, rfl⟩ : ∃ n, m = n + 1 := ⟨m - 1, by omega⟩
     have hcm := AR hS (i := n + 1) (j := n) (by omega) (by omega)
     have hl1 : n + 1 < (iL x os s).length := by omega
     have hl2 : n < (iL x os s).length := by omega
     have g1 := nV hl1
     have g2 := nV hl2
     generalize hA : (iL x os s).getD (n + 1) bF = A at *
     generalize hC : (iL x os s).getD n bF = C at *
     have he1 : Pts wr (bW v ((n + 1) * 4)) [aH A.name, .int .i64 A.kind, .int .i64 A.ttl, aH A.data] := hsl.elem g1
     have he2 : Pts wr (bW v (n * 4)) [aH C.name, .int .i64 C.kind, .int .i64 C.ttl, aH C.data] := hsl.elem g2
     rw [decide_eq_true (by omega : (a : Int) < ((n + 1 : Nat) : Int))]
     have he3 : Pts wr (bW v ((((n + 1 : Nat) : Int) - 1).toNat * 4)) [aH C.name, .int .i64 C.kind, .int .i64 C.ttl, aH C.data] := by
      rw [show (((n + 1 : Nat) : Int) - 1).toNat = n by omega]; exact he2
     refine_lift dP ?_
     refine nU (enters_of Tryz.func90 rfl rfl) rfl rfl rfl (fun w' _ => AQ A C w') ?_
     refine aA ?_
     refine_lift dP ?_
     rw [hcm]
     refine_lift dP ?_
     intro w3 x3
     have ho3 := ho2.ext x3
     have hmv3 := (m2.trans (x3.mv _))
     by_cases hsm : n + 1 = s
     ·rw [decide_eq_true hsm, decide_eq_false (by omega : ¬ n = s)]
      simp only [Bool.not_false, Bool.and_true]
      refine_lift bX fun _ _ => ?_
      refine cE 15 (Ext w3) (by decide +kernel) ?_
      intro w4 x4 _
      refine ⟨x4, ?_⟩
      have hsl3 := ho3.sl
      refine iF 0 ?_; refine iF 1 ?_; refine iF 2 ?_; refine iF 3 ?_
      refine jX 4 rfl (fun _ => Runs.pred (m := n) rfl rfl (by omega)) ?_; refine aA ?_
      refine iF 5 ?_; refine iF 6 ?_
      refine jX 7 rfl (fun _ => Runs.pred (m := n) rfl rfl (by omega)) ?_; refine aA ?_
      refine eG 8 ?_; refine eG 9 ?_
      refine iF 10 ?_; refine iF 11 ?_
      refine eG 12 ?_; refine eG 13 ?_
      refine jX 14 rfl (fun _ => Runs.idxW (n := n + 1) rfl hsl3 (by omega) (by decide +kernel)) ?_; refine aA ?_
      refine bT (i := 15) (by decide +kernel) rfl rfl ?_
      refine eY (i := n + 1) (f := C.cells) rfl rfl rfl (ho3.ext x4) (by omega) rfl rfl (Rec.cells1 _) (by decide +kernel) ?_
      intro w5 o5 m5
      refine aI ⟨cG rfl, ?_⟩
      refine jX 16 rfl (fun _ => Runs.idxW (n := n) rfl hsl3 (by omega) (by decide +kernel)) ?_; refine aA ?_
      refine bT (i := 17) (by decide +kernel) rfl rfl ?_
      refine eY (i := n) (f := A.cells) rfl rfl rfl o5 (by rw [List.length_set]; omega) rfl rfl (Rec.cells1 _) (by decide +kernel) ?_
      intro w6 o6 m6
      refine aI ⟨cG rfl, ?_⟩
      refine cV (by decide +kernel) ?_
      rw [fQ, fQ] at o6
      subst hsm
      have hsw := (EX hS (by omega)).1
      unfold MR at hsw
      rw [hA, hC] at hsw
      rw [hsw] at o6
      have hQ : Q = k := by
       by_cases e : Q = k
       ·exact e
       ·rw [if_neg e] at hs; have := hm3 e; omega
      refine_lift aR ?_
      refine ⟨⟨n, by omega, by omega, fun e => absurd hQ e, by go_num, by rw [if_pos hQ]; exact o6, ((hmv3.trans (x4.mv _)).trans m5).trans m6⟩, by simp [intOf]⟩
     ·rw [decide_eq_false hsm]
      simp only [Bool.false_and]
      have hQ : Q ≠ k := by
       intro e
       rw [if_pos e] at hs
       exact hsm hs.symm
      rw [if_neg hQ] at hs
      have hm := hm3 hQ
      have e : kM a (k + 1) q = s := by
       rw [hs, hQe]
       unfold kM at hQe ⊢
       split at hQe <;> split <;> omega
      refine_lift aR ?_
      refine ⟨⟨k + 1, by omega, .inl (by omega), rfl, by rw [e]; exact ho3, hmv3⟩, by simp [intOf]; omega⟩
    ·have hma' : m = a := by omega
     subst hma'
     have hQ : Q = k := by
      by_cases e : Q = k
      ·exact e
      ·have := hm3 e; omega
     rw [if_pos hQ] at hs
     have e : kM m (k + 1) q = s := by
      rw [hs]
      unfold kM at hQe ⊢
      split at hQe <;> split <;> omega
     rw [decide_eq_false (by omega : ¬ ((m : Int) < (m : Int)))]
     refine_lift dP ?_
     intro w3 x3
     have ho3 := ho2.ext x3
     have hmv3 := (m2.trans (x3.mv _))
     refine_lift aR ?_
     refine ⟨⟨k + 1, by omega, .inl (by omega), rfl, by rw [e]; exact ho3, hmv3⟩, by simp [intOf]; omega⟩
  ·refine_lift fH fun _ => ?_
   go_end0
   have e : kM a k q = kM a b q := by
    rcases hk2 with hk2 | hk2
    ·rw [show k = b by omega]
    ·unfold kM
     split <;> split <;> omega
   exact ⟨rfl, by rw [← e]; exact ho1, m1⟩
def NQ (f : FuncId) (l : List Rec) (p : Rec → Bool) : Prop := ∀ r ∈ l, ∀ w', Calls Tryz.prog f #[.agg #[aH r.name, .int .i64 r.kind, .int .i64 r.ttl, aH r.data]] w' (bE w' (.bool (p r)))
set_option maxHeartbeats 3000000 in
theorem qW (v : Value) (l : List Rec) (f : FuncId) (p : Rec → Bool) (w : World) (hv : Sl 4 w v (aD l)) (he : Enters Tryz.prog f) (hf : NQ f l p) : Calls Tryz.prog 107 #[v, .func (.func f) #[] #[]] w (bE w (.int .i64 (lQ p l))) := by
 have hle := hv.le
 have hlen := aJ l
 go_enter Tryz.func107, Tryz.ntmps107
 refine_lift bX fun _ _ => ?_
 go_loopw [5, 8] (fun _ i wr => ∃ k : Nat, k ≤ l.length ∧ i = .int .i64 k ∧ Ext w wr ∧ (l.take k).any p = false) (fun _ i _ => l.length - (intOf i).toNat)
 case atStart => exact ⟨0, Nat.zero_le _, rfl, Ext.refl _, rfl⟩
 case round =>
  obtain ⟨k, hk, rfl, hx, hall⟩ := hrel
  have hv2 := hv.ext hx
  by_cases hlt : k < l.length
  ·have hpe := hv2.elem (cR hlt)
   refine_lift nK ?_; intro _ _ _ _ _ _
   refine eF he rfl rfl rfl (hf _ (List.getElem_mem hlt) _) ?_
   rintro e w2 ⟨rfl, x2⟩
   refine ⟨_, rfl, ?_⟩
   refine aA ?_
   cases hp : p l[k] with
   | true =>
    refine_lift aR ?_
    go_ret
    exact ⟨by rw [rJ hlt hall hp]; rfl, hx.trans x2⟩
   | false =>
    refine_lift aR ?_
    exact ⟨⟨k + 1, by omega, by go_num, hx.trans x2, gU hlt hall hp⟩, by simp [intOf]; omega⟩
  ·have : k = l.length := by omega
   subst this
   rw [List.take_length] at hall
   refine_lift fH fun _ => ?_
   go_ret
   exact ⟨by rw [rK hall]; rfl, hx⟩
theorem jD (v : Value) (l : List Rec) (f : FuncId) (p : Rec → Bool) (w : World) (hv : Sl 4 w v (aD l)) (he : Enters Tryz.prog f) (hf : NQ f l p) : Calls Tryz.prog 58 #[v, .func (.func f) #[] #[]] w (bE w (.bool (l.any p))) := by
 go_enter Tryz.func58, Tryz.ntmps58
 refine_lift bX fun _ _ => ?_
 refine aB (enters_of Tryz.func107 rfl rfl) rfl rfl (qW v l f p _ hv he hf) ?_; intro w1 x1; refine aA ?_
 refine_lift aR ?_
 go_ret
 exact ⟨by rw [← qN]; rfl, x1⟩
theorem EY (r : Rec) (w : World) : Calls Tryz.prog 59 #[.agg #[aH r.name, .int .i64 r.kind, .int .i64 r.ttl, aH r.data]] w (bE w (.bool (!decide (aX r = 0)))) := by
 go_enter Tryz.func59, Tryz.ntmps59
 refine_lift hY fun _ _ => ?_
 refine aZ (vs := [aH r.name, .int .i64 r.kind, .int .i64 r.ttl, aH r.data]) rfl rfl ?_
 intro p w1 x1 hp
 refine aA ?_
 refine_lift bX fun _ _ => ?_
 refine aB (enters_of Tryz.func60 rfl rfl) rfl rfl (QI r _) ?_; intro w2 x2; refine aA ?_
 refine_lift aR ?_
 go_ret
 exact ⟨rfl, x1.trans x2⟩
theorem DJ : ∀ m : List Rec, lQ bA m = -1 ∧ dW m = m.length ∨ lQ bA m = (dW m : Int) ∧ dW m < m.length
 | [] => .inl ⟨rfl, rfl⟩
 | r :: t => by
   unfold lQ dW
   rw [List.findIdx?_cons]
   by_cases h : bA r = true
   ·rw [if_pos h, if_pos h]
    exact .inr ⟨rfl, by simp⟩
   ·rw [if_neg h, if_neg h]
    have ih := DJ t
    unfold lQ at ih
    cases hf : t.findIdx? bA with
    | none =>
     rw [hf] at ih
     rcases ih with ⟨_, h2⟩ | ⟨h1, _⟩
     ·exact .inl ⟨rfl, by rw [h2, List.length_cons]⟩
     ·exfalso
      simp only at h1
      omega
    | some i =>
     rw [hf] at ih
     simp only at ih
     rcases ih with ⟨h1, _⟩ | ⟨h1, h2⟩
     ·omega
     ·refine .inr ⟨?_, by simp; omega⟩
      simp only [Option.map_some]
      omega
theorem fR {v : Value} {l : List Rec} {w : World} (hv : Sl 4 w v (aD l)) {n : Nat} (hn : n ≤ l.length) : Sl 4 w (cT v 4 0 n) (aD (l.take n)) ∧ Sl 4 w (cT v 4 n l.length) (aD (l.drop n)) := by
 have hlen := aJ l
 have a := hv.cut (m := 0) (n := n) (by omega) (by omega)
 have b := hv.cut (m := n) (n := l.length) (by omega) (by omega)
 rw [← hlen, List.take_length, hlen] at b
 exact ⟨by simpa [aD, List.map_take] using a, by simpa [aD, List.map_drop] using b⟩
set_option maxHeartbeats 3000000 in
theorem KQ (v : Value) (l : List Rec) (w : World) (hv : Sl 4 w v (aD l)) (hne : l ≠ []) (hl : l.length ≤ 1000000) : Calls Tryz.prog 167 #[v] w (bE w (.tuple #[cT v 4 0 (bB l), cT v 4 (bB l) l.length])) := by
 have hlen := aJ l
 have hpos : 1 ≤ l.length := List.length_pos_iff.2 hne
 have hd1 := hv.cut (m := 1) (n := (aD l).length) (by omega) (Nat.le_refl _)
 rw [List.take_length, show (aD l).drop 1 = aD (l.drop 1) by simp [aD, List.map_drop]] at hd1
 go_enter Tryz.func167, Tryz.ntmps167
 refine_lift bX fun _ _ => ?_
 refine aB (enters_of Tryz.func107 rfl rfl) rfl rfl (qW _ (l.drop 1) _ bA w hd1 (enters_of Tryz.func61 rfl rfl) (fun r _ w' => lX r w')) ?_; intro w2 x2; refine aA ?_
 have hv2 := hv.ext x2
 have hq := eI hne
 have hpn : bB l = 1 + dW (l.drop 1) := rfl
 rcases DJ (l.drop 1) with ⟨h1, h2⟩ | ⟨h1, h2⟩
 ·rw [h1]
  have e : bB l = l.length := by rw [hpn, h2, List.length_drop]; omega
  refine_lift jY fun _ _ _ => ?_
  rw [show ((aD l).length : Int) = ((bB l : Nat) : Int) by rw [hlen, e]]
  refine bD (by decide +kernel) (by decide +kernel) ?_
  refine_lift dP ?_
  intro w3 x3
  refine_lift aR ?_
  go_ret2
  exact ⟨by rw [hlen]; rfl, x2.trans x3⟩
 ·rw [h1]
  refine_lift jY fun _ _ _ => ?_
  rw [show (1 : Int) + (dW (l.drop 1) : Int) = ((bB l : Nat) : Int) by rw [hpn]; omega]
  refine bD (by decide +kernel) (by decide +kernel) ?_
  refine_lift dP ?_
  intro w3 x3
  refine_lift aR ?_
  go_ret2
  exact ⟨by rw [hlen]; rfl, x2.trans x3⟩
end Go.Proofs.X
