/- Laws and walks that the proof of the statement is made of (part 13). -/
import Derived.Test.YteofaejlmdplhaaGreatP12
set_option linter.unusedSimpArgs false
set_option linter.unusedVariables false
namespace Go.Proofs.X
open Go.RowKit
set_option maxRecDepth 100000
theorem yZ {α : Type} (l : List α) (i : Nat) (x : α) (h : i < l.length) : l.take i ++ [x] ++ l.drop (i + 1) = l.set i x := by
 rw [List.set_eq_take_append_cons_drop, if_pos h, List.append_assoc]
 rfl
section
variable {P : Program} {ops : Array Oper} {Q : Exit → Act → World → Prop} {w : World} {rest : List Oper} {ts : List Value} {df : List Deferred} {ty : TypeId} {ps : String} {af : Array Edge} {g : Option (Nat × Bool)}
theorem Own.slf {B k e : Nat} {w : World} {v : Value} {es : List (List Value)} (h : Own B k e w v es) : v = .slice none 0 0 ∧ es = [] ∨ ∃ g cap, v = .slice (some ⟨g, 0, none⟩) es.length cap := by
 rcases h.row.2 with ⟨h0, h1⟩ | ⟨g', cap', cur, fz, hv, _⟩
 ·exact .inl ⟨h0, List.eq_nil_of_length_eq_zero h1⟩
 ·exact .inr ⟨g', cap', hv⟩
theorem EV {B k e : Nat} {v : Value} {es : List (List Value)} {i : Nat} {c : Value} {f : List Value} {t : TypeId} (ho : Own B k e w v es) (hi : i < es.length) (hc : c.cells = f.toArray) (hf : f.length = k) (h1 : ∀ u ∈ f, u.oneCell' = true) (ht : aO P t k = true) :
 ∃ w' b, bX v (i * k) = .pointer (some ⟨b, i * k, none⟩) ∧ (storeVar t ⟨b, i * k, none⟩ c).run P w = .ok () w' ∧ Own B k e w' v (es.set i f) ∧ Mv v.ownBlock w w' := by
 rcases ho.slf with ⟨_, rfl⟩ | ⟨gb, cap, rfl⟩
 ·simp at hi
 ·obtain ⟨inf, hq, hsz⟩ := lT (fQ ht)
  obtain ⟨cur, fz, hg, hfz, hnc, h3, h4, how, hmv⟩ := ho.over (i := i) (fs := [f]) (by simp; omega) (by intro x hx; rw [List.mem_singleton.1 hx]; exact hf)
  simp only [List.flatten_cons, List.flatten_nil, List.append_nil, List.length_cons, List.length_nil, Nat.zero_add] at h3 how hmv
  rw [yZ _ _ _ hi] at how
  have hr := cX P gb (i * k) e fz f 0 cur w hg (by omega) (by omega) h1
  simp only [Nat.add_zero] at hr
  refine ⟨_, gb, by simp [bX, cR], ?_, by simpa using how, hmv⟩
  simp [storeVar, sizeOf, typeInfo, hq, hsz, hc, hr, hf]
theorem fG {B k e : Nat} {v c : Value} {es : List (List Value)} {f : List Value} {t ty2 : TypeId} {x y : Operand} {i : Nat} (hw : Region.wanted (Oper.mk none (.store t x y) ty2 ps af g) (yielded ops ts.toArray) = true)
 (hx : (Act.mk ts.toArray df).eval x = bX v (i * k)) (hy : (Act.mk ts.toArray df).eval y = c) (ho : Own B k e w v es) (hi : i < es.length) (hc : c.cells = f.toArray) (hf : f.length = k) (h1 : ∀ u ∈ f, u.oneCell' = true) (ht : aO P t k = true)
 (h : ∀ w', Own B k e w' v (es.set i f) → Mv v.ownBlock w w' → wpList P ops Q rest (Act.mk ts.toArray df) w') : wpList P ops Q (Oper.mk none (.store t x y) ty2 ps af g :: rest) (Act.mk ts.toArray df) w := by
 obtain ⟨w', b, e1, hr, ho', hm⟩ := EV (P := P) ho hi hc hf h1 ht
 refine fR hw (w' := w') ?_ (h w' ho' hm)
 simp [execOp, hx, hy, e1, Instr.storeAt, Instr.sureAddr, hr]
end
theorem SetsO.mvb {B b : Nat} {w w' : World} {v : Value} {l : List RSet} (h : SetsO B w v l) (hm : Mv (some b) w w') (hb : b < B) : SetsO B w' v l := by
 obtain ⟨css, h1, h2, h3, h4⟩ := h
 have hs : ∀ (k : Nat) (u : Value) (es : List (List Value)), Sl k w u es → From B u → Sl k w' u es := by
  intro k u es hsl hf
  obtain ⟨a, cap, k1, k2, k3, k4, k5, k6⟩ := hsl
  refine ⟨a, cap, k1, k2, k3, k4, k5, fun hn => ?_⟩
  obtain ⟨g, o, e, hc⟩ := k6 hn
  have hg : B ≤ g := hf g o none _ _ (by rw [k1, e])
  refine ⟨g, o, e, fun i e j x i1 i2 => ?_⟩
  have hcell := hc i e j x i1 i2
  have hlt := World.block_lt_of_cell? w _ hcell
  exact (World.cell?_of_block (hm.block g hlt (fun e => by have := Option.some.inj e; omega))).trans hcell
 refine ⟨css, hs _ _ _ h1 h2, h2, ⟨h3.len, fun i s hi => ?_⟩, h4⟩
 obtain ⟨x, e, hx⟩ := h3.at' i s hi
 exact ⟨x, e, hs _ _ _ hx (h4 _ (List.mem_of_getElem? e) x (by simp))⟩
def GW : List UInt8 := [2, 110, 115, 1, 97, 0, 1, 109, 0, 0, 0, 0, 5, 0, 0, 0, 10, 0, 0, 0, 3, 0, 0, 0, 100, 0, 0, 0, 4]
def MN : List UInt8 := [2, 110, 115, 1, 97, 0, 1, 109, 0, 0, 0, 0, 6, 0, 0, 0, 10, 0, 0, 0, 3, 0, 0, 0, 100, 0, 0, 0, 4]
def EW : List Rec := [⟨[1, 97], 6, 9, GW⟩, ⟨[1, 97], 2, 9, [2, 110, 115, 1, 97, 0]⟩, ⟨[2, 110, 115, 1, 97], 1, 9, [49, 49, 49, 49]⟩]
def mN : List RSet := [⟨[1, 97], 2, 9, [[2, 110, 115, 1, 97, 0]]⟩, ⟨[1, 97], 6, 9, [GW]⟩, ⟨[2, 110, 115, 1, 97], 1, 9, [[49, 49, 49, 49]]⟩]
def zA : List RSet := [⟨[1, 97], 2, 9, [[2, 110, 115, 1, 97, 0]]⟩, ⟨[1, 97], 6, 9, [MN]⟩, ⟨[2, 110, 115, 1, 97], 1, 9, [[49, 49, 49, 49]]⟩]
theorem TI : aX [1, 97] mN = 0 := by decide +kernel
theorem MO : yV [1, 97] mN 6 = 0 := by decide +kernel
theorem MP : OL [1, 97] mN 6 = zA := by decide +kernel
theorem MQ : OM [1, 97] mN 6 = [1, 97] := by decide +kernel
theorem IG : ∀ s ∈ mN, s.data.length ≤ 1000000 := by decide +kernel
theorem TJ : ∀ s ∈ mN, ∀ d ∈ s.data, d.length ≤ 4611686018427387904 := by decide +kernel
theorem RA : ∀ s ∈ zA, s.data.length ≤ 1000000 := by decide +kernel
theorem RB : ∀ s ∈ zA, ∀ d ∈ s.data, d.length ≤ 4611686018427387904 := by decide +kernel
theorem TK : ∀ r ∈ EW, r.data.length ≤ 4611686018427387904 := by decide +kernel
theorem MR (w : World) : Calls Tryz.prog 37 #[] w (jE w fun r w' => Sl 4 w' r (aD EW)) := by
 go_enter Tryz.func37, Tryz.ntmps37
 refine_lift uL ?_; intro _ _ _
 refine_lift bY fun _ _ => ?_
 refine aQ (v := .agg #[aI [1, 97], .int .i64 6, .int .i64 9, aI GW]) rfl (Runs.build rfl (by kernel_rfl)) ?_
 refine aA ?_
 refine aQ (v := .agg #[aI [1, 97], .int .i64 2, .int .i64 9, aI [2, 110, 115, 1, 97, 0]]) rfl (Runs.build rfl (by kernel_rfl)) ?_
 refine aA ?_
 refine aQ (v := .agg #[aI [2, 110, 115, 1, 97], .int .i64 1, .int .i64 9, aI [49, 49, 49, 49]]) rfl (Runs.build rfl (by kernel_rfl)) ?_
 refine aA ?_
 refine bZ (e := 47) (k := 4) (bytes := 48) (xs := EW.map fun r => .agg r.cells.toArray) rfl rfl rfl (by intro x hx; obtain ⟨r, _, rfl⟩ := List.mem_map.1 hx; rfl) (by decide +kernel) (by decide +kernel) ?_
 intro v1 w1 x1 s1 sl1 _
 have sl1' : Sl 4 w1 v1 (aD EW) := by simpa [aD, Value.cells, List.map_map, Function.comp_def] using sl1
 refine aA ?_
 refine_lift aS ?_
 go_ret
 exact ⟨_, rfl, x1, sl1'⟩
theorem iR {o o' : List UInt8} {u v : Value} {a b : List RSet} {w : World} (hu : SetsAt w u a) (hv : SetsAt w v b) (ho : o = o') (hab : a = b) : Calls Tryz.prog 23 #[.agg #[aI o, u], .agg #[aI o', v]] w (bG w (.bool true)) := by
 have := OU o o' u v a b w hu hv
 rw [decide_eq_true ho, decide_eq_true hab] at this
 exact this
def TL (w : World) (e : Ending) (w' : World) : Prop := e = .returned (.bool true) ∧ Ext w w'
def UQ : DeltaR := ⟨5, 6, [⟨[1, 97], 6, 9, GW⟩], [⟨[1, 97], 6, 9, MN⟩]⟩
section
variable {P : Program} {w : World} {ts : List Value} {df : List Deferred} {d : Option Nat} {ty : TypeId} {ps : String} {af : Array Edge} {g : Option (Nat × Bool)}
def MS (P : Program) (t : TypeId) : Bool := match P.underlying t with | some .bool => true | _ => false
theorem Runs.eqlB {t u : TypeId} {x y : Operand} {a b : Bool} (hx : (Act.mk ts.toArray df).eval x = .bool a) (hy : (Act.mk ts.toArray df).eval y = .bool b) (ht : MS P t = true) :
 Runs P (Oper.mk d (.binOp .eql t x y u) ty ps af g) (Act.mk ts.toArray df) w (.bool (a == b)) := by
 have hu : P.underlying t = some .bool := by
  unfold MS at ht; split at ht
  ·assumption
  ·cases ht
 constructor
 simp [execOp, hx, hy, eqGuard, binOp, run_equal_bool w t a b hu]
end
theorem GX {l : List RSet} (h : pI l = true) : l.length ≤ 25 ∧ (∀ s ∈ l, s.data.length ≤ 12) ∧ (∀ s ∈ l, s.name.length ≤ 300) ∧ ∀ s ∈ l, ∀ d ∈ s.data, d.length ≤ 300 := by
 simp only [pI, Bool.and_eq_true, decide_eq_true_eq, List.all_eq_true, pS] at h
 exact ⟨h.1, fun s hs => (h.2 s hs).1.1, fun s hs => (h.2 s hs).1.2, fun s hs d hd => (h.2 s hs).2 d hd⟩
theorem xV : ∀ {l : List RSet}, (∀ s ∈ l, s.data.length ≤ 12) → (aF l).length ≤ 12 * l.length
 | [], _ => by simp [aF]
 | s :: l, h => by
   have ih := xV (l := l) fun t ht => h t (List.mem_cons_of_mem _ ht)
   have h1 := h s (by simp)
   have e : aF (s :: l) = dZ s ++ aF l := by simp [aF]
   rw [e, List.length_append, List.length_cons]
   simp only [dZ, List.length_map]
   omega
set_option maxHeartbeats 8000000 in
theorem OV (o : List UInt8) (v : Value) (l : List RSet) {d : DeltaR} {r : Value} (w : World) (hv : SetsAt w v l) (hd : DelA d r w)
 (bl : ∀ s ∈ l, s.data.length ≤ 1000000) (dl : ∀ s ∈ l, ∀ d ∈ s.data, d.length ≤ 1000000) (h1 : (aF l).length ≤ 5000) (h2 : d.new.length ≤ 5000) (dn : ∀ q ∈ d.new, q.data.length ≤ 1000000) :
 Calls Tryz.prog 168 #[.agg #[aI o, v], r] w (jE w (AppU w.heap.size o l d)) := by
 obtain ⟨g, n, rfl, sg, sn⟩ := hd
 have lg := aL d.gone
 have ln := aL d.new
 have lgl := sg.le
 have lnl := sn.le
 go_enter Tryz.func168, Tryz.ntmps168
 refine_lift hY fun _ _ => ?_
 refine aZ (vs := [aI o, v]) rfl rfl ?_
 intro p w1 x1 hp
 refine aA ?_
 refine aZ (vs := [.int .i64 d.fr, .int .i64 d.to, g, n]) rfl rfl ?_
 intro q w2 x2 hq
 refine aA ?_
 refine aG (z := aM) rfl (by decide +kernel) ?_
 intro w3 x3 s3 h3
 refine aA ?_
 have hx3 := (x1.trans x2).trans x3
 have zz := (x1.trans x2).size
 have hp3 := (hp.ext x2).ext x3
 have hq3 := hq.ext x3
 refine_lift bY fun _ _ => ?_
 refine aB (enters_of Tryz.func31 rfl rfl) rfl rfl (pU o v l _ (hv.ext hx3) bl (fun s hs d hd => by have := dl s hs d hd; omega)) ?_; intro w4 x4; refine aA ?_
 have hx4 := hx3.trans x4
 refine_lift aS ?_
 refine aG (z := aV) rfl (by decide +kernel) ?_
 intro w5 x5 s5 h5
 refine aA ?_
 refine aC (v := .agg (aP o l).cells.toArray) rfl rfl rfl h5 (show aO Tryz.prog 67 7 = true by decide +kernel) rfl (dI _) ?_
 intro w6 p6
 have x46 : Ext w4 w6 := x5.move p6.mv (by rintro k ⟨⟩; exact Nat.le_refl _)
 have b6 : w6.heap[w4.heap.size]? = some (.cells (aP o l).cells.toArray 67 (0, 0)) := p6.this
 have x36 := x4.trans x46
 have hx6 := hx3.trans x36
 clear p6 h5 x5
 have h6 := x36.at h3
 have hp6 := hp3.ext x36
 have hq6 := hq3.ext x36
 refine_lift SH (fun _ _ _ _ _ => ?_) (fun _ _ _ _ _ => ?_)
 ·have q0 : ¬ aX o l = 0 := by simpa using (by assumption : (!decide (aX o l = 0)) = true)
  refine aQ (v := .agg aM.toArray) rfl (Runs.build0 (by kernel_rfl)) ?_
  refine aA ?_
  refine_lift aS ?_
  refine aC (v := .agg aM.toArray) rfl rfl rfl h6 (by decide +kernel) rfl (by decide +kernel) ?_
  intro wz pz
  have xz : Ext w wz := hx6.move pz.mv (by rintro k ⟨⟩; exact zz)
  refine_lift aS ?_
  refine bodyPost_ret (aH (cs := aM) rfl rfl pz.this (by decide +kernel)) rfl ⟨_, rfl, xz, ?_⟩
  exact AppU.bad (by rw [gL, if_neg q0]) q0
 ·have q0 : aX o l = 0 := by simpa using (by assumption : (!decide (aX o l = 0)) = false)
  have pb6 := aE b6
  have pb6' : Pts w6 (.pointer (some ⟨w4.heap.size, 0, none⟩)) [aI (aP o l).main, aI (aP o l).mail, .int .i64 (aP o l).serial, .int .i64 (aP o l).refresh, .int .i64 (aP o l).retry, .int .i64 (aP o l).expire, .int .i64 (aP o l).minimum] := pb6
  refine_lift yS (fun _ _ _ => ?_) (fun _ _ _ => ?_)
  ·have q1 : ¬ (aP o l).serial = d.fr := by simpa using (by assumption : (!decide ((aP o l).serial = d.fr)) = true)
   refine aQ (v := .agg aM.toArray) rfl (Runs.build0 (by kernel_rfl)) ?_
   refine aA ?_
   refine aC (v := .agg aM.toArray) rfl rfl rfl h6 (by decide +kernel) rfl (by decide +kernel) ?_
   intro wz pz
   have xz : Ext w wz := hx6.move pz.mv (by rintro k ⟨⟩; exact zz)
   refine_lift aS ?_
   refine bodyPost_ret (aH (cs := aM) rfl rfl pz.this (by decide +kernel)) rfl ⟨_, rfl, xz, ?_⟩
   exact AppU.bad (by rw [gL, if_pos q0, if_neg q1]) (by decide)
  ·have q1 : (aP o l).serial = d.fr := by simpa using (by assumption : (!decide ((aP o l).serial = d.fr)) = false)
   refine aK (enters_of Tryz.func40 rfl rfl) rfl rfl (SX v l _ (hv.ext hx6) (by omega)) ?_
   intro r0 w7 x7 o7
   refine aA ?_
   have hq7 := hq6.ext x7
   have sg6 := sg.ext hx6
   have sn6 := sn.ext hx6
   have hrd := tB dl
   refine_lift bY fun _ _ => ?_
   go_loopw [8, 10, 11, 39] (fun o _ _ i wr => ∃ (k : Nat) (m : List Rec), k ≤ d.gone.length ∧ i = .int .i64 k ∧ Ext w6 wr ∧ Own w6.heap.size 4 47 wr o (aD m) ∧ fO (aF l) (d.gone.take k) = some m) (fun _ _ _ i _ => d.gone.length - (intOf i).toNat)
   case atStart => exact ⟨0, aF l, Nat.zero_le _, rfl, x7, o7, rfl⟩
   case round =>
    obtain ⟨k, m, hk, rfl, hx, ho, hg⟩ := hrel
    obtain ⟨gl, gm⟩ := wZ hg
    have hml := aL m
    have hsg := sg6.ext hx
    have hqr := hq6.ext hx
    have hpr := hp6.ext hx
    by_cases hlt : k < d.gone.length
    ·have hpe := hsg.elem (cT hlt)
     refine_lift oM ?_; intro _ _ _ _ _ _
     refine aG (z := JT) rfl (by decide +kernel) ?_
     intro w8 x8 s8 h8
     refine aA ?_
     refine aC (v := .agg #[aI d.gone[k].name, .int .i64 d.gone[k].kind, .int .i64 d.gone[k].ttl, aI d.gone[k].data]) rfl rfl rfl h8 (show aO Tryz.prog 47 4 = true by decide +kernel) rfl (iM rfl rfl rfl rfl) ?_
     intro w9 p9
     have x9 : Ext wr w9 := x8.move p9.mv (by rintro k ⟨⟩; exact Nat.le_refl _)
     have hp9 := aE (cs := [aI d.gone[k].name, .int .i64 d.gone[k].kind, .int .i64 d.gone[k].ttl, aI d.gone[k].data]) p9.this
     have hx9 := hx.trans x9
     have ho9 := ho.ext x9
     clear p9 h8 x8
     refine_lift bY fun _ _ => ?_
     refine aB (enters_of Tryz.func192 rfl rfl) rfl rfl (IB _ m d.gone[k] _ ho9.sl) ?_; intro w10 x10; refine aA ?_
     have hx10 := hx9.trans x10
     have ho10 := ho9.ext x10
     by_cases hm : d.gone[k] ∈ m
     ·obtain ⟨i, hi, ei, ee⟩ := OP hm
      rw [ei]
      have hst := AT hlt hg
      rw [if_pos hm] at hst
      refine_lift fP fun _ => ?_
      refine bH (enters_of Tryz.func198 rfl rfl) rfl rfl (MM ho10 hi (by omega)) ?_
      rintro _ w11 ⟨v11, rfl, o11, m11, k11⟩
      refine ⟨_, rfl, ?_⟩
      refine aA ?_
      rw [ee] at o11
      have hx11 : Ext w6 w11 := ho10.mvx m11 hx10 (Nat.le_refl _)
      refine_lift aS ?_
      exact ⟨⟨k + 1, _, by omega, by go_num, hx11, o11, hst⟩, by simp [intOf]; omega⟩
     ·rw [ML hm]
      have hb := xL (ES hlt hg hm)
      refine_lift QL fun _ _ _ _ _ => ?_
      refine aQ (v := .agg aM.toArray) rfl (Runs.build0 (by kernel_rfl)) ?_
      refine aA ?_
      refine aC (v := .agg aM.toArray) rfl rfl rfl (hx10.at h6) (by decide +kernel) rfl (by decide +kernel) ?_
      intro wz pz
      have xz : Ext w wz := (hx6.trans hx10).move pz.mv (by rintro k ⟨⟩; exact zz)
      refine_lift aS ?_
      refine bodyPost_ret (aH (cs := aM) rfl rfl pz.this (by decide +kernel)) rfl ⟨_, rfl, xz, ?_⟩
      exact AppU.bad (oS q0 q1 hb) (by decide)
    ·have : k = d.gone.length := by omega
     subst this
     rw [List.take_length] at hg
     have hed := IE hg
     refine_lift kL fun _ _ _ => ?_
     go_loopw [8, 13, 58] (fun o _ i wr => ∃ (k : Nat) (m' : List Rec), k ≤ d.new.length ∧ i = .int .i64 k ∧ Ext w6 wr ∧ Own w6.heap.size 4 47 wr o (aD m') ∧ kG m (d.new.take k) = some m') (fun _ _ i _ => d.new.length - (intOf i).toNat)
     case atStart => exact ⟨0, m, Nat.zero_le _, rfl, hx, ho, rfl⟩
     case round =>
      obtain ⟨k, m', hk, rfl, hx, ho, hn⟩ := hrel
      obtain ⟨nl, nm⟩ := CE hn
      have hml := aL m'
      have hsn := sn6.ext hx
      have hqr := hq6.ext hx
      have hpr := hp6.ext hx
      rw [List.length_take] at nl
      by_cases hlt : k < d.new.length
      ·have hpe := hsn.elem (cT hlt)
       have hst := ER hlt hn
       refine_lift oM ?_; intro _ _ _ _ _ _
       refine aG (z := JT) rfl (by decide +kernel) ?_
       intro w8 x8 s8 h8
       refine aA ?_
       refine aC (v := .agg #[aI d.new[k].name, .int .i64 d.new[k].kind, .int .i64 d.new[k].ttl, aI d.new[k].data]) rfl rfl rfl h8 (show aO Tryz.prog 47 4 = true by decide +kernel) rfl (iM rfl rfl rfl rfl) ?_
       intro w9 p9
       have x9 : Ext wr w9 := x8.move p9.mv (by rintro k ⟨⟩; exact Nat.le_refl _)
       have hp9 := aE (cs := [aI d.new[k].name, .int .i64 d.new[k].kind, .int .i64 d.new[k].ttl, aI d.new[k].data]) p9.this
       have hx9 := hx.trans x9
       have ho9 := ho.ext x9
       clear p9 h8 x8
       refine_lift gV fun _ _ _ _ => ?_
       refine aB (enters_of Tryz.func153 rfl rfl) rfl rfl (wX _ m' d.new[k] _ ho9.sl) ?_; intro w10 x10; refine aA ?_
       have hx10 := hx9.trans x10
       have ho10 := ho9.ext x10
       have hp10 := hp9.ext x10
       by_cases hm : d.new[k] ∈ m'
       ·rw [decide_eq_true hm]
        have hb := ID hlt hn hm
        refine_lift bY fun _ _ => ?_
        refine aQ (v := .agg aM.toArray) rfl (Runs.build0 (by kernel_rfl)) ?_
        refine aA ?_
        refine aC (v := .agg aM.toArray) rfl rfl rfl (hx10.at h6) (by decide +kernel) rfl (by decide +kernel) ?_
        intro wz pz
        have xz : Ext w wz := (hx6.trans hx10).move pz.mv (by rintro k ⟨⟩; exact zz)
        refine_lift aS ?_
        refine bodyPost_ret (aH (cs := aM) rfl rfl pz.this (by decide +kernel)) rfl ⟨_, rfl, xz, ?_⟩
        exact AppU.bad (oS q0 q1 (hed.trans hb)) (by decide)
       ·rw [decide_eq_false hm]
        rw [if_neg hm] at hst
        refine_lift aS ?_
        refine FS [aI d.new[k].name, .int .i64 d.new[k].kind, .int .i64 d.new[k].ttl, aI d.new[k].data] hx10 ho10 (by omega) ?_ (lN rfl)
        intro s5 v5 w11 w12 x11 m12 x12 o12
        refine aA ?_
        refine_lift aS ?_
        refine ⟨⟨k + 1, _, by omega, by go_num, x12, ?_, hst⟩, by simp [intOf]; omega⟩
        simpa [aD, Rec.cells] using o12
      ·have : k = d.new.length := by omega
       subst this
       rw [List.take_length] at hn
       rw [hn] at hed
       have hmd : ∀ q ∈ m', q.data.length ≤ 1000000 := by
        intro q hq
        rcases nm q hq with h | h
        ·exact hrd q (gm q h)
        ·exact dn q (List.mem_of_mem_take h)
       have hm5 : m'.length ≤ 10000 := by omega
       obtain ⟨lb1, lb2, lb3⟩ := rW (o := o) hmd
       have hend := AV q0 q1 hed
       refine_lift kL fun _ _ _ => ?_
       refine aK (enters_of Tryz.func36 rfl rfl) rfl rfl (GM o _ m' _ ho.sl hm5 (fun q hq => by have := hmd q hq; omega)) ?_
       rintro _ w20 x20 ⟨y, rfl, sy⟩
       refine aA ?_
       have hx20 := hx.trans x20
       obtain ⟨ya, yn, yc, hys⟩ : ∃ a n c, y = .slice a n c := by obtain ⟨css, h, _⟩ := sy.out; exact h.slf
       have hy1 : y.oneCell' = true := by rw [hys]; rfl
       refine_lift aS ?_
       refine aG (z := aM) rfl (by decide +kernel) ?_
       intro w21 x21 s21 h21
       refine aA ?_
       refine aC (v := .agg #[aI (cH o m'), y]) rfl rfl rfl h21 (show aO Tryz.prog 25 2 = true by decide +kernel) rfl (bE hy1) ?_
       intro w22 p22
       have x2022 : Ext w20 w22 := x21.move p22.mv (by rintro k ⟨⟩; exact Nat.le_refl _)
       have z22 : w22.heap[w20.heap.size]? = some (.cells [aI (cH o m'), y].toArray 25 (0, 0)) := p22.this
       have hx22 := hx20.trans x2022
       have sy22 := sy.ext x2022
       have ho22 := ho.ext (x20.trans x2022)
       clear p22 h21 x21
       refine_lift rG (fun _ _ _ => ?_) (fun _ _ _ _ _ => ?_)
       ·have q2 : ¬ dE o m' = 0 := by simpa using (by assumption : (!decide (dE o m' = 0)) = true)
        refine aQ (v := .agg aM.toArray) rfl (Runs.build0 (by kernel_rfl)) ?_
        refine aA ?_
        refine_lift aS ?_
        refine aC (v := .agg aM.toArray) rfl rfl rfl (hx22.at h6) (by decide +kernel) rfl (by decide +kernel) ?_
        intro wz pz
        have xz : Ext w wz := (hx6.trans hx22).move pz.mv (by rintro k ⟨⟩; exact zz)
        refine_lift aS ?_
        refine bodyPost_ret (aH (cs := aM) rfl rfl pz.this (by decide +kernel)) rfl ⟨_, rfl, xz, ?_⟩
        exact AppU.bad (by rw [hend, qU, if_neg q2]) q2
       ·have q2 : dE o m' = 0 := by simpa using (by assumption : (!decide (dE o m' = 0)) = false)
        have pz22 := aE z22
        refine_lift aS ?_
        refine aB (enters_of Tryz.func31 rfl rfl) rfl rfl (pU (cH o m') y (bT o m') _ sy22.sets (fun s hs => by have := lb1 s hs; omega) (fun s hs d hd => by have := lb2 s hs d hd; omega)) ?_; intro w23 x23; refine aA ?_
        have hx23 := hx22.trans x23
        have b23 := hx23.at b6
        refine_lift aS ?_
        refine aC (v := .agg (aP (cH o m') (bT o m')).cells.toArray) rfl rfl rfl b23 (show aO Tryz.prog 67 7 = true by decide +kernel) rfl (dI _) ?_
        intro w24 p24
        have e1 := x4.size
        have e2 := x46.size
        have e3 := hx.size
        have e4 := x20.size
        have e5 : w4.heap.size < w6.heap.size := (Array.getElem?_eq_some_iff.1 b6).1
        have x24 : Ext w3 w24 := (x36.trans hx23).move p24.mv (by rintro k ⟨⟩; exact e1)
        have hxw24 := hx3.trans x24
        have hq24 := hq3.ext x24
        have b24 : w24.heap[w4.heap.size]? = some (.cells [aI (aP (cH o m') (bT o m')).main, aI (aP (cH o m') (bT o m')).mail, .int .i64 (aP (cH o m') (bT o m')).serial, .int .i64 (aP (cH o m') (bT o m')).refresh, .int .i64 (aP (cH o m') (bT o m')).retry, .int .i64 (aP (cH o m') (bT o m')).expire, .int .i64 (aP (cH o m') (bT o m')).minimum].toArray 67 (0, 0)) := p24.this
        have h24 := p24.at (hx23.at h6) (by omega)
        have z24 := p24.at (x23.at z22) (by omega)
        have sy24 := (sy22.ext x23).put p24 (by omega)
        have ho24 := (ho22.ext x23).mv p24.mv (.inr ((ho22.ext x23).neBlock b23 (by decide)))
        have pz24 := aE z24
        clear p24 b23
        refine_lift bY fun _ _ => ?_
        refine aK (enters_of Tryz.func40 rfl rfl) rfl rfl (SX y (bT o m') _ sy24.sets (by omega)) ?_
        intro r5 w25 x25 o25
        refine aA ?_
        have hxw25 := hxw24.trans x25
        have h25 := x25.at h24
        have z25 := x25.at z24
        have pz25 := pz24.ext x25
        have pb25 := aE (x25.at b24)
        have hq25 := hq24.ext x25
        have sl25 := (ho24.ext x25).sl
        have sr25 := o25.sl
        have lr := aL (aF (bT o m'))
        refine_lift PO (fun _ _ hc hc _ _ => ?_) (fun _ _ hc _ _ => ?_) (fun _ _ _ _ hc hc => ?_)
        ·have q3 : (aP (cH o m') (bT o m')).serial = d.to := by simpa using (by assumption : (!decide ((aP (cH o m') (bT o m')).serial = d.to)) = false)
         have q4 : (aF (bT o m')).length = m'.length := by
          have : (↑(aD (aF (bT o m'))).length : Int) = ↑(aD m').length := by simpa using hc
          omega
         refine aK (enters_of Tryz.func97 rfl rfl) rfl rfl (GP _ r5 m' (aF (bT o m')) _ sl25 sr25 (by omega)) ?_
         intro r6 w26 x26 o26
         have sr26 := o26.sl
         have hxw26 := hxw25.trans x26
         have h26 := x26.at h25
         have z26 := x26.at z25
         have pz26 := pz25.ext x26
         have l6 := aL (cW m' (aF (bT o m')))
         have sy26 := (sy24.ext x25).ext x26
         refine aA ?_
         refine_lift yS (fun _ _ _ => ?_) (fun _ _ _ => ?_)
         ·have q5 : ¬ cW m' (aF (bT o m')) = [] := by
           intro e
           rw [e] at l6
           simp at l6
           have := (by assumption : (0 : Int) < ↑(aD (cW m' (aF (bT o m')))).length)
           rw [e] at this
           simp [aD] at this
          refine aQ (v := .agg aM.toArray) rfl (Runs.build0 (by kernel_rfl)) ?_
          refine aA ?_
          refine aC (v := .agg aM.toArray) rfl rfl rfl h26 (by decide +kernel) rfl (by decide +kernel) ?_
          intro wz pz
          have xz : Ext w wz := hxw26.move pz.mv (by rintro k ⟨⟩; exact zz)
          refine_lift aS ?_
          refine bodyPost_ret (aH (cs := aM) rfl rfl pz.this (by decide +kernel)) rfl ⟨_, rfl, xz, ?_⟩
          exact AppU.bad (by rw [hend, qU, if_pos q2, if_neg (fun h => q5 h.2.2)]) (by decide)
         ·have q5 : cW m' (aF (bT o m')) = [] := List.eq_nil_of_length_eq_zero (by omega)
          have hE : gL o l d = 0 := by rw [hend, qU, if_pos q2, if_pos ⟨q3, q4, q5⟩]
          refine_lift aS ?_
          refine aC (v := .agg #[aI (cH o m'), y]) rfl rfl rfl h26 (show aO Tryz.prog 25 2 = true by decide +kernel) rfl (bE hy1) ?_
          intro wz pz
          have xz : Ext w wz := hxw26.move pz.mv (by rintro k ⟨⟩; exact zz)
          refine_lift aS ?_
          refine bodyPost_ret (aH (cs := [aI (cH o m'), y]) rfl rfl pz.this (show dY Tryz.prog 25 2 = true by decide +kernel)) rfl ⟨_, rfl, xz, ?_⟩
          refine ⟨y, ?_, ?_⟩
          ·rw [lM, if_pos hE, hE, hed]; rfl
          ·rw [pK, if_pos hE, hed]
           exact (sy26.put pz (by omega)).weaken (hx6.trans hx).size
        ·have q4 : ¬ (aF (bT o m')).length = m'.length := by
          have : ¬ (↑(aD (aF (bT o m'))).length : Int) = ↑(aD m').length := by simpa using hc
          omega
         refine aQ (v := .agg aM.toArray) rfl (Runs.build0 (by kernel_rfl)) ?_
         refine aA ?_
         refine aC (v := .agg aM.toArray) rfl rfl rfl h25 (by decide +kernel) rfl (by decide +kernel) ?_
         intro wz pz
         have xz : Ext w wz := hxw25.move pz.mv (by rintro k ⟨⟩; exact zz)
         refine_lift aS ?_
         refine bodyPost_ret (aH (cs := aM) rfl rfl pz.this (by decide +kernel)) rfl ⟨_, rfl, xz, ?_⟩
         exact AppU.bad (by rw [hend, qU, if_pos q2, if_neg (fun h => q4 h.2.1)]) (by decide)
        ·have q3 : ¬ (aP (cH o m') (bT o m')).serial = d.to := by simpa using hc
         refine aQ (v := .agg aM.toArray) rfl (Runs.build0 (by kernel_rfl)) ?_
         refine aA ?_
         refine aC (v := .agg aM.toArray) rfl rfl rfl h25 (by decide +kernel) rfl (by decide +kernel) ?_
         intro wz pz
         have xz : Ext w wz := hxw25.move pz.mv (by rintro k ⟨⟩; exact zz)
         refine_lift aS ?_
         refine bodyPost_ret (aH (cs := aM) rfl rfl pz.this (by decide +kernel)) rfl ⟨_, rfl, xz, ?_⟩
         exact AppU.bad (by rw [hend, qU, if_pos q2, if_neg (fun h => q3 h.1)]) (by decide)
def IH (d : List UInt8) : Int := if (cD d).isSome then 0 else 2
theorem EX (d : List UInt8) (w : World) (hl : d.length ≤ 4611686018427387904) : Calls Tryz.prog 80 #[aI d] w (bG w (.tuple #[.agg (lO d).cells.toArray, .int .i64 (IH d)])) := by
 have h := UM d w hl
 unfold lO IH
 cases hp : cD d <;> (rw [hp] at h; exact h)
theorem CG (d : List UInt8) (w : World) (hl : d.length ≤ 4611686018427387904) : Calls Tryz.prog 98 #[aI d] w (bG w (.tuple #[.agg (lO d).cells.toArray, .int .i64 (IH d)])) := by
 have h := nO d w hl
 unfold lO IH
 cases hp : cD d <;> (rw [hp] at h; exact h)
set_option maxHeartbeats 2000000 in
theorem qV (r : Rec) (w : World) (hl : r.data.length ≤ 4611686018427387904) : Calls Tryz.prog 64 #[.agg #[aI r.name, .int .i64 r.kind, .int .i64 r.ttl, aI r.data]] w (bG w (.int .i64 (dW r))) := by
 go_enter Tryz.func64, Tryz.ntmps64
 refine_lift hY fun _ _ => ?_
 refine aZ (vs := [aI r.name, .int .i64 r.kind, .int .i64 r.ttl, aI r.data]) rfl rfl ?_
 intro p w1 x1 hp
 refine aA ?_
 refine_lift bY fun _ _ => ?_
 refine aB (enters_of Tryz.func80 rfl rfl) rfl rfl (EX r.data w1 hl) ?_; intro w2 x2; refine aA ?_
 refine_lift aS ?_
 refine aG (z := aV) rfl (by decide +kernel) ?_
 intro w3 x3 s3 h3
 refine aA ?_
 refine aC (v := .agg (lO r.data).cells.toArray) rfl rfl rfl h3 (show aO Tryz.prog 67 7 = true by decide +kernel) rfl (dI _) ?_
 intro w4 p4
 have x4 : Ext w2 w4 := x3.move p4.mv (by rintro k ⟨⟩; exact Nat.le_refl _)
 have hs4 := aE (cs := (lO r.data).cells) p4.this
 have hs42 : Pts w4 (bL (.pointer (some ⟨w2.heap.size, 0, none⟩)) 2) [.int .i64 (lO r.data).serial, .int .i64 (lO r.data).refresh, .int .i64 (lO r.data).retry, .int .i64 (lO r.data).expire, .int .i64 (lO r.data).minimum] := hs4.part 2
 refine_lift aS ?_
 go_ret
 exact ⟨rfl, (x1.trans x2).trans x4⟩
set_option maxHeartbeats 2000000 in
theorem gS (r : Rec) (w : World) (hl : r.data.length ≤ 4611686018427387904) : Calls Tryz.prog 70 #[.agg #[aI r.name, .int .i64 r.kind, .int .i64 r.ttl, aI r.data]] w (bG w (.int .i64 (dW r))) := by
 go_enter Tryz.func70, Tryz.ntmps70
 refine_lift hY fun _ _ => ?_
 refine aZ (vs := [aI r.name, .int .i64 r.kind, .int .i64 r.ttl, aI r.data]) rfl rfl ?_
 intro p w1 x1 hp
 refine aA ?_
 refine_lift bY fun _ _ => ?_
 refine aB (enters_of Tryz.func98 rfl rfl) rfl rfl (CG r.data w1 hl) ?_; intro w2 x2; refine aA ?_
 refine_lift aS ?_
 refine aG (z := aV) rfl (by decide +kernel) ?_
 intro w3 x3 s3 h3
 refine aA ?_
 refine aC (v := .agg (lO r.data).cells.toArray) rfl rfl rfl h3 (show aO Tryz.prog 67 7 = true by decide +kernel) rfl (dI _) ?_
 intro w4 p4
 have x4 : Ext w2 w4 := x3.move p4.mv (by rintro k ⟨⟩; exact Nat.le_refl _)
 have hs4 := aE (cs := (lO r.data).cells) p4.this
 have hs42 : Pts w4 (bL (.pointer (some ⟨w2.heap.size, 0, none⟩)) 2) [.int .i64 (lO r.data).serial, .int .i64 (lO r.data).refresh, .int .i64 (lO r.data).retry, .int .i64 (lO r.data).expire, .int .i64 (lO r.data).minimum] := hs4.part 2
 refine_lift aS ?_
 go_ret
 exact ⟨rfl, (x1.trans x2).trans x4⟩
def fH {α : Type} (os : List α) (q : Nat) (x : α) : List α := os.take q ++ x :: os.drop q
section
variable {α : Type} {os : List α} {q : Nat} {x : α}
theorem jT (h : q ≤ os.length) : (fH os q x).length = os.length + 1 := by
 simp [fH]; omega
theorem nZ (h : q ≤ os.length) : (fH os q x)[q]? = some x := by
 unfold fH
 rw [List.getElem?_append_right (by simp; omega)]
 simp [Nat.min_eq_left h]
theorem eO {i : Nat} (hi : i < q) (h : q ≤ os.length) : (fH os q x)[i]? = os[i]? := by
 unfold fH
 rw [List.getElem?_append_left (by simp; omega), List.getElem?_take, if_pos hi]
theorem eP {i : Nat} (hi : q < i) (h : q ≤ os.length) : (fH os q x)[i]? = os[i - 1]? := by
 unfold fH
 rw [List.getElem?_append_right (by simp; omega)]
 have e : i - (os.take q).length = (i - 1 - q) + 1 := by simp; omega
 rw [e, List.getElem?_cons_succ, List.getElem?_drop]
 congr 1; omega
theorem xX (h : q < os.length) : ((fH os (q + 1) x).set (q + 1) os[q]).set q x = fH os q x := by
 apply List.ext_getElem?
 intro i
 by_cases h1 : i = q
 ·subst h1
  rw [List.getElem?_set_self (by rw [List.length_set, jT (by omega)]; omega), nZ (by omega)]
 ·rw [List.getElem?_set_ne (fun e => h1 e.symm)]
  by_cases h2 : i = q + 1
  ·subst h2
   rw [List.getElem?_set_self (by rw [jT (by omega)]; omega), eP (by omega) (by omega)]
   simp [List.getElem?_eq_getElem h]
  ·rw [List.getElem?_set_ne (fun e => h2 e.symm)]
   by_cases h3 : i < q
   ·rw [eO (by omega) (by omega), eO h3 (by omega)]
   ·rw [eP (by omega) (by omega), eP (by omega) (by omega)]
theorem EY (h : q < os.length) : ((fH os (q + 1) x).set q x).set (q + 1) os[q] = fH os q x := by
 rw [List.set_comm _ _ (by omega)]
 exact xX h
end
def eJ (l : List Rec) : List Rec := l.filter aU ++ l.filter fun r => !aU r
theorem xY {l : List Rec} (h : ∀ r ∈ l, aU r = false) : eJ l = l := by
 unfold eJ
 rw [List.filter_eq_nil_iff.2 (by simpa using h), List.nil_append, List.filter_eq_self]
 simpa using h
theorem oT {os : List Rec} {q : Nat} {x : Rec} (h : ∀ r ∈ os, aU r = false) (hx : aU x = true) : eJ (fH os q x) = fH os 0 x := by
 have h1 : ∀ r ∈ os.take q, aU r = false := fun r hr => h r (List.mem_of_mem_take hr)
 have h2 : ∀ r ∈ os.drop q, aU r = false := fun r hr => h r (List.mem_of_mem_drop hr)
 have e1 : (os.take q).filter aU = [] := List.filter_eq_nil_iff.2 (by simpa using h1)
 have e2 : (os.drop q).filter aU = [] := List.filter_eq_nil_iff.2 (by simpa using h2)
 have e3 : (os.take q).filter (fun r => !aU r) = os.take q := List.filter_eq_self.2 (by simpa using h1)
 have e4 : (os.drop q).filter (fun r => !aU r) = os.drop q := List.filter_eq_self.2 (by simpa using h2)
 unfold eJ fH
 simp only [List.filter_append, List.filter_cons, hx, e1, e2, e3, e4, if_true, Bool.not_true, Bool.false_eq_true, if_false]
 simp
theorem rX : ∀ (l : List Rec), (l.filter aU).length ≤ 1 → (∀ r ∈ l, aU r = false) ∨ ∃ os q x, q ≤ os.length ∧ l = fH os q x ∧ aU x = true ∧ ∀ r ∈ os, aU r = false
 | [], _ => .inl (by simp)
 | r :: t, h => by
   by_cases hr : aU r = true
   ·refine .inr ⟨t, 0, r, Nat.zero_le _, by simp [fH], hr, fun s hs => ?_⟩
    rw [List.filter_cons, if_pos hr, List.length_cons] at h
    have h0 : t.filter aU = [] := List.eq_nil_of_length_eq_zero (by omega)
    have := List.filter_eq_nil_iff.1 h0 s hs
    simpa using this
   ·rw [List.filter_cons, if_neg hr] at h
    have hrf : aU r = false := by simpa using hr
    rcases rX t h with h1 | ⟨os, q, x, h1, h2, h3, h4⟩
    ·exact .inl (by simpa [hrf] using h1)
    ·refine .inr ⟨r :: os, q + 1, x, by simp; omega, by rw [h2]; simp [fH], h3, ?_⟩
     intro s hs
     rcases List.mem_cons.1 hs with rfl | hs
     ·exact hrf
     ·exact h4 s hs
def bO (o : List UInt8) (l : List RSet) : List Rec := if aX o l = 0 then eJ (aF l) ++ [bD (eJ (aF l))] else []
def iW (x : Option Rec) (os : List Rec) (q : Nat) : List Rec := match x with | some r => fH os q r | none => os
def pN (x : Option Rec) (os : List Rec) : Nat := os.length + (match x with | some _ => 1 | none => 0)
structure Sx (x : Option Rec) (os : List Rec) (q : Nat) : Prop where
 non : ∀ r ∈ os, aU r = false
 is : ∀ r, x = some r → aU r = true ∧ q ≤ os.length
 no : x = none → os.length ≤ q
theorem oU {x : Option Rec} {os : List Rec} {q : Nat} (h : Sx x os q) : (iW x os q).length = pN x os := by
 unfold iW pN
 split
 ·rename_i r; exact jT (h.is r rfl).2
 ·rfl
theorem II {x : Option Rec} {os : List Rec} {q i : Nat} (h : Sx x os q) (hi : i < pN x os) : ∃ r, (iW x os q)[i]? = some r ∧ aU r = decide (i = q) := by
 cases x with
 | none =>
  have h1 : i < os.length := by simpa [pN] using hi
  have := h.no rfl
  refine ⟨os[i], by simp [iW, h1], ?_⟩
  rw [h.non _ (List.getElem_mem h1), decide_eq_false (by omega)]
 | some r =>
  obtain ⟨h1, h2⟩ := h.is r rfl
  have h3 : i < os.length + 1 := by simpa [pN] using hi
  by_cases e : i = q
  ·subst e
   exact ⟨r, nZ h2, by rw [h1, decide_eq_true rfl]⟩
  ·rw [decide_eq_false e]
   by_cases e2 : i < q
   ·refine ⟨os[i], ?_, h.non _ (List.getElem_mem (by omega))⟩
    rw [iW, eO e2 h2, List.getElem?_eq_getElem (by omega)]
   ·refine ⟨os[i - 1], ?_, h.non _ (List.getElem_mem (by omega))⟩
    rw [iW, eP (by omega) h2, List.getElem?_eq_getElem (by omega)]
theorem Sx.to {x : Option Rec} {os : List Rec} {q q' : Nat} (h : Sx x os q) (hq : q < pN x os) (hq' : q' < pN x os) : Sx x os q' := by
 cases x with
 | none => have := h.no rfl; simp [pN] at hq; omega
 | some r => exact ⟨h.non, fun r' e => ⟨(h.is r' e).1, by simp [pN] at hq'; omega⟩, fun e => by cases e⟩
theorem MT {x : Option Rec} {os : List Rec} {q : Nat} (h : Sx x os (q + 1)) (hq : q + 1 < pN x os) : ∃ a b, (iW x os (q + 1))[q]? = some a ∧ (iW x os (q + 1))[q + 1]? = some b ∧ ((iW x os (q + 1)).set (q + 1) a).set q b = iW x os q ∧ ((iW x os (q + 1)).set q b).set (q + 1) a = iW x os q := by
 cases x with
 | none => have := h.no rfl; simp [pN] at hq; omega
 | some r =>
  have h2 := (h.is r rfl).2
  refine ⟨os[q], r, ?_, nZ h2, xX (by omega), EY (by omega)⟩
  rw [iW, eO (by omega) h2, List.getElem?_eq_getElem (by omega)]
def uH (a b : Rec) : Int := if aU a = aU b then 0 else if aU a = true then -1 else 1
theorem OW (a b : Rec) : decide (uH a b < 0) = (aU a && !aU b) := by
 unfold uH
 cases aU a <;> cases aU b <;> rfl
def pO (D : List Rec) (a m : Nat) : Nat → List Rec
 | 0 => D
 | k + 1 => ((pO D a m k).set (a + k) ((pO D a m k).getD m bA)).set m ((pO D a m k).getD (a + k) bA)
theorem xZ (D : List Rec) (a m : Nat) : ∀ k, (pO D a m k).length = D.length
 | 0 => rfl
 | k + 1 => by rw [pO, List.length_set, List.length_set, xZ D a m k]
theorem IJ {D : List Rec} {a m : Nat} (hm : m < D.length) : ∀ k, a + k ≤ m → ∀ i, (pO D a m k)[i]? = if k = 0 then D[i]? else if i < a ∨ m < i then D[i]? else if i = a then D[m]? else if i < a + k then D[i - 1]? else if i = m then D[a + k - 1]? else D[i]?
 | 0, _, i => by simp [pO]
 | k + 1, h, i => by
   have ih := IJ (D := D) (a := a) hm k (by omega)
   have hl := xZ D a m k
   have e1 : (pO D a m k)[m]? = if k = 0 then D[m]? else D[a + k - 1]? := by
    rw [ih m]
    by_cases hk : k = 0
    ·rw [if_pos hk, if_pos hk]
    ·rw [if_neg hk, if_neg hk, if_neg (by omega), if_neg (by omega), if_neg (by omega), if_pos rfl]
   have e2 : (pO D a m k)[a + k]? = D[a + k]? := by
    rw [ih (a + k)]
    by_cases hk : k = 0
    ·rw [if_pos hk]
    ·rw [if_neg hk, if_neg (by omega), if_neg (by omega), if_neg (by omega), if_neg (by omega)]
   rw [if_neg (by omega), pO]
   have g1 : (pO D a m k).getD m bA = (if k = 0 then D[m] else D[a + k - 1]) := by
    rw [List.getD_eq_getElem?_getD, e1]
    split <;> rw [List.getElem?_eq_getElem (by omega)] <;> rfl
   have g2 : (pO D a m k).getD (a + k) bA = D[a + k] := by
    rw [List.getD_eq_getElem?_getD, e2, List.getElem?_eq_getElem (by omega)]; rfl
   rw [g1, g2]
   by_cases im : i = m
   ·subst im
    rw [List.getElem?_set_self (by rw [List.length_set, hl]; exact hm), if_neg (by omega), if_neg (by omega), if_neg (by omega), if_pos rfl, show a + (k + 1) - 1 = a + k by omega, List.getElem?_eq_getElem (by omega)]
   ·rw [List.getElem?_set_ne (fun e => im e.symm)]
    by_cases ik : i = a + k
    ·subst ik
     rw [List.getElem?_set_self (by rw [hl]; omega)]
     by_cases hk : k = 0
     ·subst hk
      rw [if_pos rfl, if_neg (by omega), if_pos (by omega), List.getElem?_eq_getElem hm]
     ·rw [if_neg hk, if_neg (by omega), if_neg (by omega), if_pos (by omega), List.getElem?_eq_getElem (by omega)]
    ·rw [List.getElem?_set_ne (fun e => ik e.symm), ih i]
     by_cases hk : k = 0
     ·subst hk
      rw [if_pos rfl]
      by_cases c : i < a ∨ m < i
      ·rw [if_pos c]
      ·rw [if_neg c, if_neg (by omega), if_neg (by omega), if_neg im]
     ·rw [if_neg hk]
      by_cases c : i < a ∨ m < i
      ·rw [if_pos c, if_pos c]
      ·rw [if_neg c, if_neg c]
       by_cases c2 : i = a
       ·rw [if_pos c2, if_pos c2]
       ·rw [if_neg c2, if_neg c2]
        by_cases c3 : i < a + k
        ·rw [if_pos c3, if_pos (by omega)]
        ·rw [if_neg c3, if_neg im, if_neg (by omega), if_neg im]
theorem MU {x : Option Rec} {os : List Rec} {a m : Nat} (h : Sx x os m) (hm : m < pN x os) (ha : a < m) : pO (iW x os m) a m (m - a) = iW x os a := by
 cases x with
 | none => have := h.no rfl; simp [pN] at hm; omega
 | some r =>
  have h2 := (h.is r rfl).2
  have hl := oU h
  apply List.ext_getElem?
  intro i
  rw [IJ (by omega) _ (by omega), if_neg (by omega)]
  simp only [iW]
  by_cases c : i < a ∨ m < i
  ·rw [if_pos c]
   rcases c with c | c
   ·rw [eO (by omega) h2, eO c (by omega)]
   ·rw [eP c h2, eP (by omega) (by omega)]
  ·rw [if_neg c]
   by_cases c2 : i = a
   ·subst c2
    rw [if_pos rfl, nZ h2, nZ (by omega)]
   ·rw [if_neg c2]
    by_cases c3 : i < a + (m - a)
    ·rw [if_pos c3, eO (by omega) h2, eP (by omega) (by omega)]
    ·rw [if_neg c3, if_pos (by omega), eO (by omega) h2, eP (by omega) (by omega)]
     congr 1; omega
theorem mO (r : Rec) (w : World) : Calls Tryz.prog 61 #[.agg #[aI r.name, .int .i64 r.kind, .int .i64 r.ttl, aI r.data]] w (bG w (.bool (aU r))) := by
 go_enter Tryz.func61, Tryz.ntmps61
 refine_lift hY fun _ _ => ?_
 refine aZ (vs := [aI r.name, .int .i64 r.kind, .int .i64 r.ttl, aI r.data]) rfl rfl ?_
 intro p w1 x1 hp
 refine aA ?_
 refine_lift aS ?_
 go_ret
 exact ⟨rfl, x1⟩
theorem CH (a b : Rec) (w : World) : Calls Tryz.prog 90 #[.agg #[aI a.name, .int .i64 a.kind, .int .i64 a.ttl, aI a.data], .agg #[aI b.name, .int .i64 b.kind, .int .i64 b.ttl, aI b.data]] w (bG w (.int .i64 (uH a b))) := by
 go_enter Tryz.func90, Tryz.ntmps90
 refine_lift hY fun _ _ => ?_
 refine aZ (vs := [aI a.name, .int .i64 a.kind, .int .i64 a.ttl, aI a.data]) rfl rfl ?_
 intro p w1 x1 hp
 refine aA ?_
 refine aZ (vs := [aI b.name, .int .i64 b.kind, .int .i64 b.ttl, aI b.data]) rfl rfl ?_
 intro q w2 x2 hq
 refine aA ?_
 refine_lift gV fun _ _ _ _ => ?_
 have hp2 := hp.ext x2
 refine bB (by decide +kernel) (by decide +kernel) ?_
 refine_lift dX ?_
 refine cA (enters_of Tryz.func61 rfl rfl) rfl rfl (fun w' _ => mO a w') ?_
 refine aA ?_
 refine_lift dX ?_
 refine cA (enters_of Tryz.func61 rfl rfl) rfl rfl (fun w' _ => mO b w') ?_
 refine aA ?_
 refine_lift dX ?_
 refine fU (fun w' _ => Runs.eqlB (a := aU a) (b := aU b) rfl rfl (by decide +kernel)) ?_
 refine aA ?_
 refine_lift dX ?_
 intro w3 x3
 have hp3 := hp2.ext x3
 cases ha : aU a <;> cases hb : aU b
 ·have e : uH a b = 0 := by simp [uH, ha, hb]
  refine_lift fP fun _ => ?_
  go_ret
  exact ⟨by rw [e]; rfl, (x1.trans x2).trans x3⟩
 ·have e : uH a b = 1 := by simp [uH, ha, hb]
  refine_lift kL fun _ _ _ => ?_
  refine aB (enters_of Tryz.func61 rfl rfl) rfl rfl (mO a _) ?_; intro w4 x4; refine aA ?_
  rw [ha]
  refine_lift aS ?_
  go_ret
  exact ⟨by rw [e]; rfl, ((x1.trans x2).trans x3).trans x4⟩
 ·have e : uH a b = -1 := by simp [uH, ha, hb]
  refine_lift kL fun _ _ _ => ?_
  refine aB (enters_of Tryz.func61 rfl rfl) rfl rfl (mO a _) ?_; intro w4 x4; refine aA ?_
  rw [ha]
  refine_lift aS ?_
  go_ret
  exact ⟨by rw [e]; rfl, ((x1.trans x2).trans x3).trans x4⟩
 ·have e : uH a b = 0 := by simp [uH, ha, hb]
  refine_lift fP fun _ => ?_
  go_ret
  exact ⟨by rw [e]; rfl, (x1.trans x2).trans x3⟩
section
variable {P : Program} {w w' : World} {d : Option Nat} {ty : TypeId} {ps : String} {af : Array Edge} {g : Option (Nat × Bool)}
theorem Runs.pred {t u : TypeId} {x y : Operand} {a : Act} {m : Nat} (hx : a.eval x = .int .i64 ((m + 1 : Nat) : Int)) (hy : a.eval y = .int .i64 1) (h : m < 4611686018427387904) :
 Runs P (Oper.mk d (.binOp .sub t x y u) ty ps af g) a w (.int .i64 (m : Nat)) := by
 have h1 := Runs.sub (P := P) (w := w) (d := d) (ty := ty) (ps := ps) (af := af) (g := g) (t := t) (u := u) hx hy (by omega)
 rwa [show ((m + 1 : Nat) : Int) - 1 = (m : Nat) by omega] at h1
end
section
variable {P : Program} {w w' : World} {d : Option Nat} {ty : TypeId} {ps : String} {af : Array Edge} {g : Option (Nat × Bool)}
theorem Runs.addN {t u : TypeId} {x y : Operand} {a : Act} {m n : Nat} (hx : a.eval x = .int .i64 (m : Nat)) (hy : a.eval y = .int .i64 (n : Nat)) (h : m + n < 4611686018427387904) :
 Runs P (Oper.mk d (.binOp .add t x y u) ty ps af g) a w (.int .i64 ((m + n : Nat) : Int)) := by
 have h1 := Runs.add (P := P) (w := w) (d := d) (ty := ty) (ps := ps) (af := af) (g := g) (t := t) (u := u) hx hy (by omega)
 rwa [show (m : Int) + (n : Int) = ((m + n : Nat) : Int) by omega] at h1
theorem Runs.add0 {t u : TypeId} {x y : Operand} {a : Act} {m : Nat} (hx : a.eval x = .int .i64 (m : Nat)) (hy : a.eval y = .int .i64 ((0 : Nat) : Int)) (h : m < 4611686018427387904) :
 Runs P (Oper.mk d (.binOp .add t x y u) ty ps af g) a w (.int .i64 (m : Nat)) := Runs.addN (n := 0) hx hy h
end
section
variable {P : Program} {ops : Array Oper} {rest : List Oper} {ts : List Value} {df : List Deferred} {ty : TypeId} {ps : String} {af : Array Edge} {g : Option (Nat × Bool)} {tys : Array TypeId}
theorem oV {w0 : World} {QQ : Act → Prop} {f : FuncId} {m d : Nat} {caps : Array Value} {xs : List Operand} {vs : List Value} {v : Value} (he : Enters P f) (hw : Region.wanted (Oper.mk (some d) (.call ⟨.value (.tmp m), xs.toArray, tys⟩) ty ps af g) (yielded ops ts.toArray) = true)
 (hm : ts.getD m undef = .func (.func f) #[] caps) (hxs : xs.map (Act.mk ts.toArray df).eval = vs) (hc : ∀ w, Ext w0 w → Calls P f (vs.toArray ++ caps) w (bG w v)) (h : wpQuiet P ops (Ext w0) QQ rest (Act.mk (ts.set d v).toArray df)) :
 wpQuiet P ops (Ext w0) QQ (Oper.mk (some d) (.call ⟨.value (.tmp m), xs.toArray, tys⟩) ty ps af g :: rest) (Act.mk ts.toArray df) := by
 subst hxs
 unfold wpQuiet
 rw [if_pos hw]
 refine ⟨v, fun w hx => ?_, by simpa [Act.put] using h⟩
 have e1 : (Act.mk ts.toArray df).eval (.tmp m) = .func (.func f) #[] caps := by rw [eW]; exact hm
 have hr : (execOp (Act.mk ts.toArray df).eval (Oper.mk (some d) (.call ⟨.value (.tmp m), xs.toArray, tys⟩) ty ps af g)).run P w = .ok (.enter f ((xs.map (Act.mk ts.toArray df).eval).toArray ++ caps)) w := by
  have h1 := he ((xs.map (Act.mk ts.toArray df).eval).toArray ++ caps) w
  simpa [execOp, resolve, e1, Deferred.ofValue, invoke] using h1
 unfold Oper.quietAt
 rw [hr]
 exact ⟨rfl, (hc w hx).mono fun e w' ⟨h1, h2⟩ => ⟨h1, hx.trans h2⟩⟩
end
def OX (D : List Rec) (i j : Nat) : List Rec := (D.set i (D.getD j bA)).set j (D.getD i bA)
theorem fY (D : List Rec) (i : Nat) (r : Rec) : (aD D).set i r.cells = aD (D.set i r) := by
 unfold aD; rw [List.map_set]
theorem oW {D : List Rec} {i : Nat} (h : i < D.length) : (aD D)[i]? = some (D.getD i bA).cells := by
 rw [aD, List.getElem?_map, List.getElem?_eq_getElem h, List.getD_eq_getElem?_getD, List.getElem?_eq_getElem h]
 rfl
theorem Rec.cells1 (r : Rec) : ∀ u ∈ r.cells, u.oneCell' = true := by
 intro u hu
 simp only [Rec.cells, List.mem_cons, List.not_mem_nil, or_false] at hu
 rcases hu with rfl | rfl | rfl | rfl <;> rfl
set_option maxHeartbeats 4000000 in
theorem IK {B : Nat} (v : Value) (D : List Rec) (i j : Nat) (f : Value) (w : World) (ho : Own B 4 47 w v (aD D)) (hi : i < D.length) (hj : j < D.length) (hl : D.length ≤ 1000000) :
 Calls Tryz.prog 239 #[v, .int .i64 i, .int .i64 j, .int .i64 1, f] w fun e w' => e = .returned (.tuple #[]) ∧ Own B 4 47 w' v (aD (OX D i j)) ∧ Mv v.ownBlock w w' := by
 go_enter Tryz.func239, Tryz.ntmps239
 refine_lift fP ?_; intro _
 go_loopw [10] (fun a wr => ∃ k : Nat, k ≤ 1 ∧ a = .int .i64 k ∧ Own B 4 47 wr v (aD (if k = 0 then D else OX D i j)) ∧ Mv v.ownBlock w wr) (fun a _ => 1 - (intOf a).toNat)
 case atStart => exact ⟨0, Nat.zero_le _, rfl, ho, Mv.refl _ _⟩
 case round =>
  obtain ⟨k, hk, rfl, ho1, m1⟩ := hrel
  by_cases hk0 : k = 0
  ·subst hk0
   rw [if_pos rfl] at ho1
   have hs := ho1.sl
   have hlen := aL D
   have hei : Pts wr (bX v (i * 4)) [aI (D.getD i bA).name, .int .i64 (D.getD i bA).kind, .int .i64 (D.getD i bA).ttl, aI (D.getD i bA).data] := hs.elem (oW hi)
   have hej : Pts wr (bX v (j * 4)) [aI (D.getD j bA).name, .int .i64 (D.getD j bA).kind, .int .i64 (D.getD j bA).ttl, aI (D.getD j bA).data] := hs.elem (oW hj)
   refine_lift gV ?_; intro _ _ _ _
   refine cG 21 (Ext wr) (by decide +kernel) ?_
   intro w1 x1 _
   refine ⟨x1, ?_⟩
   refine iN 0 ?_; refine iN 1 ?_; refine iN 2 ?_
   refine kK 3 rfl (fun _ => Runs.add0 (m := i) rfl rfl (by omega)) ?_; refine aA ?_
   refine iN 4 ?_; refine iN 5 ?_; refine iN 6 ?_
   refine kK 7 rfl (fun _ => Runs.add0 (m := j) rfl rfl (by omega)) ?_; refine aA ?_
   refine iN 8 ?_; refine iN 9 ?_; refine iN 10 ?_
   refine kK 11 rfl (fun _ => Runs.add0 (m := j) rfl rfl (by omega)) ?_; refine aA ?_
   refine eL 12 ?_; refine eL 13 ?_
   refine iN 14 ?_; refine iN 15 ?_; refine iN 16 ?_
   refine kK 17 rfl (fun _ => Runs.add0 (m := i) rfl rfl (by omega)) ?_; refine aA ?_
   refine eL 18 ?_; refine eL 19 ?_
   refine kK 20 rfl (fun _ => Runs.idxW (n := i) rfl hs (by omega) (by decide +kernel)) ?_; refine aA ?_
   have ho2 := ho1.ext x1
   refine bV (i := 21) (by decide +kernel) rfl rfl ?_
   refine fG (i := i) (f := (D.getD j bA).cells) rfl rfl rfl ho2 (by omega) rfl rfl (Rec.cells1 _) (by decide +kernel) ?_
   intro w2 o2 m2
   refine aJ ⟨cJ rfl, ?_⟩
   refine kK 22 rfl (fun _ => Runs.idxW (n := j) rfl hs (by omega) (by decide +kernel)) ?_; refine aA ?_
   refine bV (i := 23) (by decide +kernel) rfl rfl ?_
   refine fG (i := j) (f := (D.getD i bA).cells) rfl rfl rfl o2 (by rw [List.length_set]; omega) rfl rfl (Rec.cells1 _) (by decide +kernel) ?_
   intro w3 o3 m3
   refine aJ ⟨cJ rfl, ?_⟩
   refine cZ (by decide +kernel) ?_
   rw [fY, fY] at o3
   refine_lift aS ?_
   exact ⟨⟨1, Nat.le_refl _, by go_num, by rw [if_neg (by omega)]; exact o3, ((m1.trans (x1.mv _)).trans m2).trans m3⟩, by simp [intOf]⟩
  ·have : k = 1 := by omega
   subst this
   rw [if_neg hk0] at ho1
   refine_lift fP fun _ => ?_
   go_end0
   exact ⟨rfl, ho1, m1⟩
theorem CI {x : Option Rec} {os : List Rec} {q i j : Nat} (h : Sx x os q) (hi : i < pN x os) (hj : j < pN x os) : decide (uH ((iW x os q).getD i bA) ((iW x os q).getD j bA) < 0) = (decide (i = q) && !decide (j = q)) := by
 obtain ⟨r, h1, h2⟩ := II h hi
 obtain ⟨s, h3, h4⟩ := II h hj
 rw [OW, List.getD_eq_getElem?_getD, List.getD_eq_getElem?_getD, h1, h3]
 simp only [Option.getD_some, h2, h4]
theorem GY {x : Option Rec} {os : List Rec} {q : Nat} (h : Sx x os (q + 1)) (hq : q + 1 < pN x os) : OX (iW x os (q + 1)) (q + 1) q = iW x os q ∧ OX (iW x os (q + 1)) q (q + 1) = iW x os q := by
 obtain ⟨a, b, h1, h2, h3, h4⟩ := MT h hq
 unfold OX
 rw [List.getD_eq_getElem?_getD, List.getD_eq_getElem?_getD, h1, h2]
 exact ⟨h3, h4⟩
def kX (a b q : Nat) : Nat := if a ≤ q ∧ q < b then a else q
set_option maxHeartbeats 4000000 in
theorem uA {B : Nat} (v : Value) (x : Option Rec) (os : List Rec) (q a b : Nat) (w : World) (h : Sx x os q) (ho : Own B 4 47 w v (aD (iW x os q))) (hab : a ≤ b) (hb : b ≤ pN x os) (hl : pN x os ≤ 1000000) :
 Calls Tryz.prog 188 #[v, .int .i64 a, .int .i64 b, .func (.func 90) #[] #[]] w fun e w' => e = .returned (.tuple #[]) ∧ Own B 4 47 w' v (aD (iW x os (kX a b q))) ∧ Mv v.ownBlock w w' := by
 go_enter Tryz.func188, Tryz.ntmps188
 refine_lift fP ?_; intro _
 go_loopw [8, 9] (fun i _ wr => ∃ k : Nat, a + 1 ≤ k ∧ (k ≤ b ∨ k = a + 1) ∧ i = .int .i64 k ∧ Own B 4 47 wr v (aD (iW x os (kX a k q))) ∧ Mv v.ownBlock w wr) (fun i _ _ => b - (intOf i).toNat)
 case atStart =>
  refine ⟨a + 1, Nat.le_refl _, .inr rfl, by go_num, ?_, Mv.refl _ _⟩
  have : kX a (a + 1) q = q := by unfold kX; split <;> omega
  rw [this]; exact ho
 case round =>
  obtain ⟨k, hk, hk2, rfl, ho1, m1⟩ := hrel
  by_cases hlt : k < b
  ·refine_lift gV ?_; intro _ _ _ _
   have hq : Sx x os (kX a k q) := by
    unfold kX; split
    ·exact h.to (by omega) (by omega)
    ·exact h
   have hqk : kX a k q = q ∨ kX a k q = a := by unfold kX; split <;> simp
   obtain ⟨Q, hQe⟩ : ∃ Q, Q = kX a k q := ⟨_, rfl⟩
   rw [← hQe] at ho1 hq hqk
   go_loopw [9] (fun j w2 => ∃ m : Nat, a ≤ m ∧ m ≤ k ∧ (Q ≠ k → m = k) ∧ j = .int .i64 m ∧ Own B 4 47 w2 v (aD (iW x os (if Q = k then m else Q))) ∧ Mv v.ownBlock w w2) (fun j _ => (intOf j).toNat)
   case atStart =>
    have e : (if Q = k then k else Q) = Q := by split <;> omega
    exact ⟨k, by omega, Nat.le_refl _, fun _ => rfl, rfl, by rw [e]; exact ho1, m1⟩
   case round =>
    obtain ⟨m, hm1, hm2, hm3, rfl, ho2, m2⟩ := hrel
    refine_lift VJ ?_; intro _ _ _ _ _
    refine bB (by decide +kernel) (by decide +kernel) ?_
    refine_lift dX ?_
    have hQk : Q = k → k < pN x os := fun _ => by omega
    obtain ⟨s, hs⟩ : ∃ s, s = (if Q = k then m else Q) := ⟨_, rfl⟩
    rw [← hs] at ho2
    have hS : Sx x os s := by
     rw [hs]; split
     ·rename_i e; exact hq.to (by omega) (by omega)
     ·exact hq
    have hDl := oU hS
    have hrl := aL (iW x os s)
    have hsl := ho2.sl
    by_cases hma : a < m
    ·obtain ⟨n, rfl⟩ : ∃ n, m = n + 1 := ⟨m - 1, by omega⟩
     have hcm := CI hS (i := n + 1) (j := n) (by omega) (by omega)
     have hl1 : n + 1 < (iW x os s).length := by omega
     have hl2 : n < (iW x os s).length := by omega
     have g1 := oW hl1
     have g2 := oW hl2
     generalize hA : (iW x os s).getD (n + 1) bA = A at *
     generalize hC : (iW x os s).getD n bA = C at *
     have he1 : Pts wr (bX v ((n + 1) * 4)) [aI A.name, .int .i64 A.kind, .int .i64 A.ttl, aI A.data] := hsl.elem g1
     have he2 : Pts wr (bX v (n * 4)) [aI C.name, .int .i64 C.kind, .int .i64 C.ttl, aI C.data] := hsl.elem g2
     rw [decide_eq_true (by omega : (a : Int) < ((n + 1 : Nat) : Int))]
     have he3 : Pts wr (bX v ((((n + 1 : Nat) : Int) - 1).toNat * 4)) [aI C.name, .int .i64 C.kind, .int .i64 C.ttl, aI C.data] := by
      rw [show (((n + 1 : Nat) : Int) - 1).toNat = n by omega]; exact he2
     refine_lift dX ?_
     refine oV (enters_of Tryz.func90 rfl rfl) rfl rfl rfl (fun w' _ => CH A C w') ?_
     refine aA ?_
     refine_lift dX ?_
     rw [hcm]
     refine_lift dX ?_
     intro w3 x3
     have ho3 := ho2.ext x3
     have hmv3 := (m2.trans (x3.mv _))
     by_cases hsm : n + 1 = s
     ·rw [decide_eq_true hsm, decide_eq_false (by omega : ¬ n = s)]
      simp only [Bool.not_false, Bool.and_true]
      refine_lift bY fun _ _ => ?_
      refine cG 15 (Ext w3) (by decide +kernel) ?_
      intro w4 x4 _
      refine ⟨x4, ?_⟩
      have hsl3 := ho3.sl
      refine iN 0 ?_; refine iN 1 ?_; refine iN 2 ?_; refine iN 3 ?_
      refine kK 4 rfl (fun _ => Runs.pred (m := n) rfl rfl (by omega)) ?_; refine aA ?_
      refine iN 5 ?_; refine iN 6 ?_
      refine kK 7 rfl (fun _ => Runs.pred (m := n) rfl rfl (by omega)) ?_; refine aA ?_
      refine eL 8 ?_; refine eL 9 ?_
      refine iN 10 ?_; refine iN 11 ?_
      refine eL 12 ?_; refine eL 13 ?_
      refine kK 14 rfl (fun _ => Runs.idxW (n := n + 1) rfl hsl3 (by omega) (by decide +kernel)) ?_; refine aA ?_
      refine bV (i := 15) (by decide +kernel) rfl rfl ?_
      refine fG (i := n + 1) (f := C.cells) rfl rfl rfl (ho3.ext x4) (by omega) rfl rfl (Rec.cells1 _) (by decide +kernel) ?_
      intro w5 o5 m5
      refine aJ ⟨cJ rfl, ?_⟩
      refine kK 16 rfl (fun _ => Runs.idxW (n := n) rfl hsl3 (by omega) (by decide +kernel)) ?_; refine aA ?_
      refine bV (i := 17) (by decide +kernel) rfl rfl ?_
      refine fG (i := n) (f := A.cells) rfl rfl rfl o5 (by rw [List.length_set]; omega) rfl rfl (Rec.cells1 _) (by decide +kernel) ?_
      intro w6 o6 m6
      refine aJ ⟨cJ rfl, ?_⟩
      refine cZ (by decide +kernel) ?_
      rw [fY, fY] at o6
      subst hsm
      have hsw := (GY hS (by omega)).1
      unfold OX at hsw
      rw [hA, hC] at hsw
      rw [hsw] at o6
      have hQ : Q = k := by
       by_cases e : Q = k
       ·exact e
       ·rw [if_neg e] at hs; have := hm3 e; omega
      refine_lift aS ?_
      refine ⟨⟨n, by omega, by omega, fun e => absurd hQ e, by go_num, by rw [if_pos hQ]; exact o6, ((hmv3.trans (x4.mv _)).trans m5).trans m6⟩, by simp [intOf]⟩
     ·rw [decide_eq_false hsm]
      simp only [Bool.false_and]
      have hQ : Q ≠ k := by
       intro e
       rw [if_pos e] at hs
       exact hsm hs.symm
      rw [if_neg hQ] at hs
      have hm := hm3 hQ
      have e : kX a (k + 1) q = s := by
       rw [hs, hQe]
       unfold kX at hQe ⊢
       split at hQe <;> split <;> omega
      refine_lift aS ?_
      refine ⟨⟨k + 1, by omega, .inl (by omega), rfl, by rw [e]; exact ho3, hmv3⟩, by simp [intOf]; omega⟩
    ·have hma' : m = a := by omega
     subst hma'
     have hQ : Q = k := by
      by_cases e : Q = k
      ·exact e
      ·have := hm3 e; omega
     rw [if_pos hQ] at hs
     have e : kX m (k + 1) q = s := by
      rw [hs]
      unfold kX at hQe ⊢
      split at hQe <;> split <;> omega
     rw [decide_eq_false (by omega : ¬ ((m : Int) < (m : Int)))]
     refine_lift dX ?_
     intro w3 x3
     have ho3 := ho2.ext x3
     have hmv3 := (m2.trans (x3.mv _))
     refine_lift aS ?_
     refine ⟨⟨k + 1, by omega, .inl (by omega), rfl, by rw [e]; exact ho3, hmv3⟩, by simp [intOf]; omega⟩
  ·refine_lift fP fun _ => ?_
   go_end0
   have e : kX a k q = kX a b q := by
    rcases hk2 with hk2 | hk2
    ·rw [show k = b by omega]
    ·unfold kX
     split <;> split <;> omega
   exact ⟨rfl, by rw [← e]; exact ho1, m1⟩
def PW (f : FuncId) (l : List Rec) (p : Rec → Bool) : Prop := ∀ r ∈ l, ∀ w', Calls Tryz.prog f #[.agg #[aI r.name, .int .i64 r.kind, .int .i64 r.ttl, aI r.data]] w' (bG w' (.bool (p r)))
set_option maxHeartbeats 3000000 in
theorem rY (v : Value) (l : List Rec) (f : FuncId) (p : Rec → Bool) (w : World) (hv : Sl 4 w v (aD l)) (he : Enters Tryz.prog f) (hf : PW f l p) : Calls Tryz.prog 107 #[v, .func (.func f) #[] #[]] w (bG w (.int .i64 (mF p l))) := by
 have hle := hv.le
 have hlen := aL l
 go_enter Tryz.func107, Tryz.ntmps107
 refine_lift bY fun _ _ => ?_
 go_loopw [5, 8] (fun _ i wr => ∃ k : Nat, k ≤ l.length ∧ i = .int .i64 k ∧ Ext w wr ∧ (l.take k).any p = false) (fun _ i _ => l.length - (intOf i).toNat)
 case atStart => exact ⟨0, Nat.zero_le _, rfl, Ext.refl _, rfl⟩
 case round =>
  obtain ⟨k, hk, rfl, hx, hall⟩ := hrel
  have hv2 := hv.ext hx
  by_cases hlt : k < l.length
  ·have hpe := hv2.elem (cT hlt)
   refine_lift oM ?_; intro _ _ _ _ _ _
   refine eK he rfl rfl rfl (hf _ (List.getElem_mem hlt) _) ?_
   rintro e w2 ⟨rfl, x2⟩
   refine ⟨_, rfl, ?_⟩
   refine aA ?_
   cases hp : p l[k] with
   | true =>
    refine_lift aS ?_
    go_ret
    exact ⟨by rw [sU hlt hall hp]; rfl, hx.trans x2⟩
   | false =>
    refine_lift aS ?_
    exact ⟨⟨k + 1, by omega, by go_num, hx.trans x2, iC hlt hall hp⟩, by simp [intOf]; omega⟩
  ·have : k = l.length := by omega
   subst this
   rw [List.take_length] at hall
   refine_lift fP fun _ => ?_
   go_ret
   exact ⟨by rw [sV hall]; rfl, hx⟩
theorem jM (v : Value) (l : List Rec) (f : FuncId) (p : Rec → Bool) (w : World) (hv : Sl 4 w v (aD l)) (he : Enters Tryz.prog f) (hf : PW f l p) : Calls Tryz.prog 58 #[v, .func (.func f) #[] #[]] w (bG w (.bool (l.any p))) := by
 go_enter Tryz.func58, Tryz.ntmps58
 refine_lift bY fun _ _ => ?_
 refine aB (enters_of Tryz.func107 rfl rfl) rfl rfl (rY v l f p _ hv he hf) ?_; intro w1 x1; refine aA ?_
 refine_lift aS ?_
 go_ret
 exact ⟨by rw [← rQ]; rfl, x1⟩
theorem GZ (r : Rec) (w : World) : Calls Tryz.prog 59 #[.agg #[aI r.name, .int .i64 r.kind, .int .i64 r.ttl, aI r.data]] w (bG w (.bool (!decide (aW r = 0)))) := by
 go_enter Tryz.func59, Tryz.ntmps59
 refine_lift hY fun _ _ => ?_
 refine aZ (vs := [aI r.name, .int .i64 r.kind, .int .i64 r.ttl, aI r.data]) rfl rfl ?_
 intro p w1 x1 hp
 refine aA ?_
 refine_lift bY fun _ _ => ?_
 refine aB (enters_of Tryz.func60 rfl rfl) rfl rfl (SW r _) ?_; intro w2 x2; refine aA ?_
 refine_lift aS ?_
 go_ret
 exact ⟨rfl, x1.trans x2⟩
theorem EZ : ∀ m : List Rec, mF aU m = -1 ∧ nextSoa m = m.length ∨ mF aU m = (nextSoa m : Int) ∧ nextSoa m < m.length
 | [] => .inl ⟨rfl, rfl⟩
 | r :: t => by
   unfold mF nextSoa
   rw [List.findIdx?_cons]
   by_cases h : aU r = true
   ·rw [if_pos h, if_pos h]
    exact .inr ⟨rfl, by simp⟩
   ·rw [if_neg h, if_neg h]
    have ih := EZ t
    unfold mF at ih
    cases hf : t.findIdx? aU with
    | none =>
     rw [hf] at ih
     rcases ih with ⟨_, h2⟩ | ⟨h1, _⟩
     ·exact .inl ⟨rfl, by rw [h2, List.length_cons]⟩
     ·exfalso
      simp only at h1
      omega
    | some i =>
     rw [hf] at ih
     simp only at ih
     rcases ih with ⟨h1, _⟩ | ⟨h1, h2⟩
     ·omega
     ·refine .inr ⟨?_, by simp; omega⟩
      simp only [Option.map_some]
      omega
theorem parts {v : Value} {l : List Rec} {w : World} (hv : Sl 4 w v (aD l)) {n : Nat} (hn : n ≤ l.length) : Sl 4 w (cK v 4 0 n) (aD (l.take n)) ∧ Sl 4 w (cK v 4 n l.length) (aD (l.drop n)) := by
 have hlen := aL l
 have a := hv.cut (m := 0) (n := n) (by omega) (by omega)
 have b := hv.cut (m := n) (n := l.length) (by omega) (by omega)
 rw [← hlen, List.take_length, hlen] at b
 exact ⟨by simpa [aD, List.map_take] using a, by simpa [aD, List.map_drop] using b⟩
set_option maxHeartbeats 3000000 in
theorem MV (v : Value) (l : List Rec) (w : World) (hv : Sl 4 w v (aD l)) (hne : l ≠ []) (hl : l.length ≤ 1000000) : Calls Tryz.prog 167 #[v] w (bG w (.tuple #[cK v 4 0 (partN l), cK v 4 (partN l) l.length])) := by
 have hlen := aL l
 have hpos : 1 ≤ l.length := List.length_pos_iff.2 hne
 have hd1 := hv.cut (m := 1) (n := (aD l).length) (by omega) (Nat.le_refl _)
 rw [List.take_length, show (aD l).drop 1 = aD (l.drop 1) by simp [aD, List.map_drop]] at hd1
 go_enter Tryz.func167, Tryz.ntmps167
 refine_lift bY fun _ _ => ?_
 refine aB (enters_of Tryz.func107 rfl rfl) rfl rfl (rY _ (l.drop 1) _ aU w hd1 (enters_of Tryz.func61 rfl rfl) (fun r _ w' => mO r w')) ?_; intro w2 x2; refine aA ?_
 have hv2 := hv.ext x2
 have hq := eN hne
 have hpn : partN l = 1 + nextSoa (l.drop 1) := rfl
 rcases EZ (l.drop 1) with ⟨h1, h2⟩ | ⟨h1, h2⟩
 ·rw [h1]
  have e : partN l = l.length := by rw [hpn, h2, List.length_drop]; omega
  refine_lift kL fun _ _ _ => ?_
  rw [show ((aD l).length : Int) = ((partN l : Nat) : Int) by rw [hlen, e]]
  refine bB (by decide +kernel) (by decide +kernel) ?_
  refine_lift dX ?_
  intro w3 x3
  refine_lift aS ?_
  go_ret2
  exact ⟨by rw [hlen]; rfl, x2.trans x3⟩
 ·rw [h1]
  refine_lift kL fun _ _ _ => ?_
  rw [show (1 : Int) + (nextSoa (l.drop 1) : Int) = ((partN l : Nat) : Int) by rw [hpn]; omega]
  refine bB (by decide +kernel) (by decide +kernel) ?_
  refine_lift dX ?_
  intro w3 x3
  refine_lift aS ?_
  go_ret2
  exact ⟨by rw [hlen]; rfl, x2.trans x3⟩
end Go.Proofs.X
