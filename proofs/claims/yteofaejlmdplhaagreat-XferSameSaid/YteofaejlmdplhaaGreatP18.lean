/- Laws and walks that the proof of the statement is made of (part 18). -/
import Derived.Test.YteofaejlmdplhaaGreatP17
set_option linter.unusedSimpArgs false
set_option linter.unusedVariables false
namespace Go.Proofs.X
open Go.RowKit
set_option maxRecDepth 100000
theorem MsgsV.below {B b : Nat} {w w' : World} {v : Value} {ms : List MsgR} {o : Obj} (h : MsgsV B w v ms) (hp : Put w w' b o) (hb : b < B) : MsgsV B w' v ms := by
 obtain ⟨css, a, c, e⟩ := h
 exact ⟨css, a.put hp hb, c, fun i d hi => let ⟨g, n, x, y, z, u⟩ := e i d hi; ⟨g, n, x, y.put hp hb, z.put hp hb, u⟩⟩
theorem Sl.below {k b : Nat} {w w' : World} {v : Value} {es : List (List Value)} {lp : Loop} {o : Obj} (h : Sl k w v es) (hp : Put w w' b o) (hb : w.heap[b]? = some (.loop lp)) : Sl k w' v es := by
 obtain ⟨ad, cap, h1, h2, h3, h4, h5, h6⟩ := h
 refine ⟨ad, cap, h1, h2, h3, h4, h5, fun hne => ?_⟩
 obtain ⟨b', o', e, hc⟩ := h6 hne
 refine ⟨b', o', e, fun i e j x h1 h2 => ?_⟩
 have := hc i e j x h1 h2
 by_cases hbb : b' = b
 ·subst hbb
  simp [World.cell?, hb] at this
 ·simp only [World.cell?] at this ⊢
  rw [hp.other _ hbb]
  exact this
theorem PE {m : MsgR} {n i : Nat} {l : List Rec} {ms F : List MsgR} (hn : 1 ≤ n) (hi : i < l.length) (h : ms ++ (iT n (l.drop i)).map (eV m) = F) : i + n < l.length → (ms ++ [eV m ((l.drop i).take n)]) ++ (iT n (l.drop (i + n))).map (eV m) = F := by
 intro hlt
 rw [← h, FF (n := n) (l := l.drop i) hn (by rw [List.length_drop]; omega), List.drop_drop, List.append_assoc]
 rfl
theorem NH {m : MsgR} {n i : Nat} {l : List Rec} {ms F : List MsgR} (hn : 1 ≤ n) (hi : i < l.length) (h : ms ++ (iT n (l.drop i)).map (eV m) = F) : l.length ≤ i + n → ms ++ [eV m ((l.drop i).take n)] = F := by
 intro hle
 have hd : (l.drop i).length ≤ n := by rw [List.length_drop]; omega
 rw [← h, yK hd, List.take_of_length_le hd]
 rfl
structure PackMid (w5 w6 w7 : World) (lp : Loop) (v : Value) (n : Nat) (m : MsgR) (l : List Rec) (i : Nat) (W : World) : Prop where
 ext : Ext w5 W
 cv : W.heap[w6.heap.size]? = some (.cells #[v] 31 (0, 0))
 cn : W.heap[w6.heap.size + 1]? = some (.cells #[.int .i64 n] 3 (0, 0))
 df : W.heap[w7.heap.size]? = some (.deferred (some []))
 lp : W.heap[w7.heap.size + 1]? = some (.loop lp)
 size : w7.heap.size + 2 ≤ W.heap.size
 out : ∃ o ms, W.heap[w5.heap.size]? = some (.cells #[o] 56 (0, 0)) ∧ MsgsV (w7.heap.size + 2) W o ms ∧ ms.length ≤ i ∧ (i < l.length → ms ++ (iT n (l.drop i)).map (eV m) = (iT n l).map (eV m)) ∧ (l.length ≤ i → ms = (iT n l).map (eV m))
theorem PackMid.grow {w5 w6 w7 : World} {lp : Loop} {v : Value} {n : Nat} {m : MsgR} {l : List Rec} {i : Nat} {W W' : World} (h : PackMid w5 w6 w7 lp v n m l i W) (hx : Ext W W') : PackMid w5 w6 w7 lp v n m l i W' := by
 obtain ⟨a, b, c, d, e, f, o, ms, g, k, r⟩ := h
 exact ⟨a.trans hx, hx.at b, hx.at c, hx.at d, hx.at e, Nat.le_trans f hx.size, o, ms, hx.at g, k.ext hx, r⟩
set_option maxHeartbeats 1500000 in
theorem RI (m : MsgR) (q a u e v : Value) (l : List Rec) (most : Int) (w : World) (hm : MsgV w m q a u e) (hv : Sl 4 w v (aD l)) (hl : l.length ≤ 1000) :
 Calls Tryz.prog 26 #[.agg (fX m q a u e).toArray, v, .int .i64 most] w (jE w fun r w' => ∃ y, r = .tuple #[y, .int .i64 (BE m l most)] ∧ MsgsV w.heap.size w' y (pY m l most)) := by
 have hql := eG m.qs
 have hlen := aL l
 refine gZ Tryz.func26 rfl ?_
 simp only [Tryz.ntmps26, List.size_toArray, List.length_cons, List.length_nil, Nat.reduceAdd, Nat.reduceSub, Array.replicate_succ, Array.replicate_zero, List.push_toArray, List.append_toArray, List.nil_append, List.cons_append]
 repeat' (first | ((with_reducible refine cY ?_); go_step) | fail)
 refine eD (vs := fX m q a u e) rfl rfl ?_
 intro w1 x1 s1 h1
 refine aA ?_
 have hp := aE (cs := fX m q a u e) h1
 have hm1 := hm.ext x1
 have hs1 := hv.ext x1
 generalize hpb : w.heap.size = pb at *
 unfold fX at hp
 (repeat' first | ((with_reducible refine cY ?_); go_step) | ((with_reducible refine bR ?_); first | refine iI ?_ | (refine dN ?_ ?_ <;> intro hc)) | fail)
 refine aB (enters_of Tryz.func72 rfl rfl) rfl rfl (NC m q a u e _ hm1) ?_; intro w2 x2; refine aA ?_
 have hx2 := x1.trans x2
 have hp2 := hp.ext x2
 have hs2 := hs1.ext x2
 have h2 := x2.at h1
 have hq2 := hm1.qs.ext x2
 by_cases hB : (fA m = 0 ∧ m.qs.length = 1 ∧ 1 ≤ most ∧ most ≤ 200)
 ·obtain ⟨b1, b2, b3, b4⟩ := hB
  have b2' : ((dL m.qs).length : Int) = 1 := by omega
  rw [b1]
  (repeat' first | ((with_reducible refine cY ?_); go_step) | ((with_reducible refine bR ?_); first | refine iI ?_ | (refine dN ?_ ?_ <;> intro hc)) | fail)
  all_goals first
   | (exfalso; have hh := ‹(!decide (((dL m.qs).length : Int) = 1)) = true›; simp [b2'] at hh; done)
   | (exfalso; omega)
   | (exfalso; have hh := ‹(!decide ((0 : Int) = 0)) = true›; simp at hh; done)
   | skip
  refine aB (enters_of Tryz.func58 rfl rfl) rfl rfl (jM v l _ (fun r => !decide (aW r = 0)) _ hs2 (enters_of Tryz.func73 rfl rfl) (fun r _ w' => PC r w')) ?_; intro w3 x3; refine aA ?_
  have hx3 := hx2.trans x3
  have h3 := x3.at h2
  cases hA : l.any (fun r => !decide (aW r = 0)) with
  | true =>
   have hP : sG m l most = false := by rw [sG, hA, Bool.not_true, Bool.and_false]
   (repeat' first | ((with_reducible refine cY ?_); go_step) | ((with_reducible refine bR ?_); first | refine iI ?_ | (refine dN ?_ ?_ <;> intro hc)) | fail)
   refine iL (results_tmp2 rfl _ _ _) ⟨_, rfl, hx3, .slice none 0 0, by rw [BE, hP]; rfl, by rw [pY, hP]; exact MsgsV.nil _ _⟩
  | false =>
   have hP : sG m l most = true := by rw [sG, hA, decide_eq_true b1, decide_eq_true b2, decide_eq_true b3, decide_eq_true b4]; rfl
   obtain ⟨n, rfl⟩ : ∃ n : Nat, most = n := ⟨most.toNat, by omega⟩
   have hn : 1 ≤ n := by omega
   have hE : BE m l n = 0 := by rw [BE, if_pos hP]
   have hL : pY m l n = (iT n l).map (eV m) := by rw [pY, if_pos hP]; rfl
   have hp3 := hp2.ext x3
   have hs3 := hs2.ext x3
   (repeat' first | ((with_reducible refine cY ?_); go_step) | ((with_reducible refine bR ?_); first | refine iI ?_ | (refine dN ?_ ?_ <;> intro hc)) | fail)
   refine aG (z := [.nilFunc]) rfl (by decide +kernel) ?_
   intro w4 x4 s4 h4
   refine aA ?_
   refine cI (v := .func (.func 74) #[] #[.pointer (some ⟨pb, 0, none⟩)]) rfl rfl rfl h4 (by decide +kernel) rfl ?_
   intro w5 p5
   have x5 : Ext w3 w5 := x4.move p5.mv (by rintro k ⟨⟩; exact Nat.le_refl _)
   have hf5 := p5.this
   have hx5 := hx3.trans x5
   have h5 := x5.at h3
   have hm5 := hm.ext hx5
   have hs5 := hv.ext hx5
   clear p5 h4 x4 x5 hp3 hs3 hp2 hs2 hq2 h2 h3 hp hm1 hs1 h1 x3 x2 x1
   generalize w3.heap.size = fb at *
   have hpf := aE (cs := [.func (.func 74) #[] #[.pointer (some ⟨pb, 0, none⟩)]]) hf5
   have hpm := aE (cs := fX m q a u e) h5
   by_cases hl0 : l = []
   ·have hl0' : ((aD l).length : Int) = 0 := by rw [hl0]; rfl
    (repeat' first | ((with_reducible refine cY ?_); go_step) | ((with_reducible refine bR ?_); first | refine iI ?_ | (refine dN ?_ ?_ <;> intro hc)) | fail)
    all_goals first
     | (exfalso; omega)
     | skip
    refine eK (f := 74) (caps := #[.pointer (some ⟨pb, 0, none⟩)]) (enters_of Tryz.func74 rfl rfl) rfl rfl rfl (IP m q a u e (.pointer (some ⟨pb, 0, none⟩)) (.slice none 0 0) [] _ hm5 hpm (Sl.nil _ _) (by simp) (by omega)) ?_
    rintro _ w6 ⟨_, rfl, x6, q', a', rfl, oq, oa⟩
    refine ⟨_, rfl, ?_⟩
    refine aA ?_
    refine bZ (e := 55) (k := 13) (bytes := bytesOf Tryz.prog 55) (xs := [.agg (fX (eV m []) q' a' (.slice none 0 0) (.slice none 0 0)).toArray]) rfl rfl rfl (by intro x hx; rw [List.mem_singleton.1 hx]; rfl) (by decide +kernel) (by simp) ?_
    intro v7 w7 x7 _ _ o7
    refine aA ?_
    (repeat' first | ((with_reducible refine cY ?_); go_step) | ((with_reducible refine bR ?_); first | refine iI ?_ | (refine dN ?_ ?_ <;> intro hc)) | fail)
    have hx7 := hx5.trans (x6.trans x7)
    refine iL (results_tmp2 rfl _ _ _) ⟨_, rfl, hx7, v7, by rw [hE]; rfl, ?_⟩
    have hz5 := hx5.size
    have hz6 := (hx5.trans x6).size
    rw [hL, hl0, yK (Nat.zero_le _)]
    refine ⟨_, o7.weaken hz6, rfl, fun i y hi => ?_⟩
    have hi0 : i = 0 := by
     have := (List.getElem?_eq_some_iff.1 hi).1
     simp only [List.length_map, List.length_cons, List.length_nil] at this
     omega
    subst hi0
    have hy : eV m [] = y := by simpa using hi
    subst hy
    exact ⟨q', a', rfl, (oq.ext x7).weaken hz5, (oa.ext x7).weaken hz5, rfl, rfl⟩
   ·have hl0' : ¬ ((aD l).length : Int) = 0 := by
     have := List.length_pos_iff.2 hl0
     omega
    (repeat' first | ((with_reducible refine cY ?_); go_step) | ((with_reducible refine bR ?_); first | refine iI ?_ | (refine dN ?_ ?_ <;> intro hc)) | fail)
    all_goals first
     | (exfalso; omega)
     | skip
    refine aG (z := [.slice none 0 0]) rfl (by decide +kernel) ?_
    intro w6 x6 s6 h6
    refine aA ?_
    have hx6 := hx5.trans x6
    have hs6 := hs5.ext x6
    have hv1 : v.cells = #[v] := by obtain ⟨va, vn, vc, rfl⟩ := hv.slf; rfl
    (repeat' first | ((with_reducible refine cY ?_); go_step) | ((with_reducible refine bR ?_); first | refine iI ?_ | (refine dN ?_ ?_ <;> intro hc)) | fail)
    refine bH (enters_of Tryz.func76 rfl rfl) rfl rfl (PD v hv1 n hn w6) ?_
    rintro _ w7 ⟨rfl, x7, s7, c7, n7⟩
    refine ⟨_, rfl, ?_⟩
    refine aA ?_
    (repeat' first | ((with_reducible refine cY ?_); go_step) | ((with_reducible refine bR ?_); first | refine iI ?_ | (refine dN ?_ ?_ <;> intro hc)) | fail)
    have z6 : w6.heap.size = w5.heap.size + 1 := s6
    have z7 : w7.heap.size = w5.heap.size + 3 := by omega
    have hx7 := hx6.trans x7
    have hB5 := hx5.size
    have k6 := x7.at h6
    have hm7 : MsgV w5 m q a u e := hm5
    refine jF (caps := #[.pointer (some ⟨w6.heap.size, 0, none⟩), .pointer (some ⟨w6.heap.size + 1, 0, none⟩)]) rfl (enters_of Tryz.func125 rfl rfl) rfl ?_
    intro fn W lp hlp xW k4 k5 sW
    have hJ : PackMid w5 w6 w7 lp v n m l 0 W := ⟨(x6.trans x7).trans xW, xW.at c7, xW.at n7, k4, k5, by omega, ⟨_, [], xW.at k6, MsgsV.nil _ _, Nat.zero_le _, fun _ => rfl, fun h => absurd (List.eq_nil_of_length_eq_zero (by omega)) hl0⟩⟩
    have hrdy : lp.state = .ready ∧ lp.pending = none := by subst hlp; exact ⟨rfl, rfl⟩
    have hy : ∀ i x W, i < l.length → Sl 4 W x (aD ((l.drop i).take n)) → PackMid w5 w6 w7 lp v n m l i W → RoundIn Fence.wide 0 Tryz.prog (w7.heap.size + 1) lp.fn ((lp.params.zip #[x]).foldl (fun tmps (t, a) => tmps.setIfInBounds t a) lp.tmps) lp.assign lp.body W
     fun e W' => e = .returned (.bool true) ∧ PackMid w5 w6 w7 lp v n m l (i + n) W' := by
     clear hJ xW k4 k5 sW W
     intro i x W hi hs hM
     subst hlp
     simp only [List.zip_toArray, List.zip_cons_cons, List.zip_nil_right, List.foldl_toArray', List.foldl_cons, List.foldl_nil, List.setIfInBounds_toArray, List.set_cons_succ, List.set_cons_zero, List.foldl_toArray, List.size_toArray, List.zip_toArray, List.length_cons, List.length_nil]
     have xM := hM.ext
     have mv := hM.cv
     have mn := hM.cn
     have md := hM.df
     have ml := hM.lp
     have ms := hM.size
     obtain ⟨o, ms0, mo, hV, hle, hgo, hend⟩ := hM.out
     clear hM
     refine qZ ?_
     repeat' (first | refine cF (by rfl) (by intro _ _ h; exact h) ?_ | ((with_reducible refine bR ?_); (first | (refine gW ?_; refine FQ ?_) | (refine jG ?_; first | refine kJ ?_ | refine pP ?_ | refine pR ?_ | refine pQ ?_ | ((first | refine pG ?_ ?_ | refine pH ?_ ?_) <;> intro hc)))) | ((fail_if_success (with_reducible refine bR ?_)); first | go_step | gi_step))
     refine ⟨_, ml, rfl, ?_⟩
     intro wA pA
     have hVA := hV.below pA (by omega)
     have xA : Ext w5 wA := xM.move pA.mv (by rintro k ⟨⟩; omega)
     have nv := pA.at mv (by omega)
     have nn := pA.at mn (by omega)
     have nd := pA.at md (by omega)
     have nl := pA.this
     have no := pA.at mo (by omega)
     have ns : w7.heap.size + 2 ≤ wA.heap.size := Nat.le_trans ms pA.mv.size
     have hsA : Sl 4 wA x (aD ((l.drop i).take n)) := hs.below pA ml
     have hpo := aE (cs := [o]) no
     have hpfA := hpf.ext xA
     have hpmA := hpm.ext xA
     have hmA := hm7.ext xA
     clear pA md ml ms mv mn mo hV hs xM
     have hpl : ((l.drop i).take n).length ≤ 200 := by rw [List.length_take]; omega
     repeat' (first | refine cF (by rfl) (by intro _ _ h; exact h) ?_ | ((with_reducible refine bR ?_); (first | (refine gW ?_; refine FQ ?_) | (refine jG ?_; first | refine kJ ?_ | refine pP ?_ | refine pR ?_ | refine pQ ?_ | ((first | refine pG ?_ ?_ | refine pH ?_ ?_) <;> intro hc)))) | ((fail_if_success (with_reducible refine bR ?_)); first | go_step | gi_step))
     refine tY 5 (Ext wA) (by decide +kernel) (by intro _ _ h; exact h) (by decide +kernel) ?_
     intro w9 x9 _
     refine ⟨x9, ?_⟩
     refine PI 0 ?_; refine PI 1 ?_
     refine PJ 2 ?_
     refine bV (i := 3) (by decide +kernel) rfl rfl ?_
     refine eK (f := 74) (caps := #[.pointer (some ⟨pb, 0, none⟩)]) (enters_of Tryz.func74 rfl rfl) rfl rfl rfl (IP m q a u e (.pointer (some ⟨pb, 0, none⟩)) x ((l.drop i).take n) _ (hmA.ext x9) (hpmA.ext x9) (hsA.ext x9) (by omega) (by omega)) ?_
     rintro _ wB ⟨_, rfl, xB, q', a', rfl, oq, oa⟩
     refine ⟨_, rfl, ?_⟩
     refine aA ?_
     have xAB := x9.trans xB
     refine aJ ⟨dF xAB, ?_⟩
     refine bV (i := 4) (by decide +kernel) rfl rfl ?_
     have hone := MsgV.one (w := wB) (m := eV m ((l.drop i).take n)) ⟨oq.sl, oa.sl, Sl.nil _ _, Sl.nil _ _⟩
     refine bZ (e := 55) (k := 13) (bytes := bytesOf Tryz.prog 55) (xs := [.agg (fX (eV m ((l.drop i).take n)) q' a' (.slice none 0 0) (.slice none 0 0)).toArray]) rfl rfl rfl (by intro x hx; rw [List.mem_singleton.1 hx]; rfl) (by decide +kernel) (by simp) ?_
     intro vC wC xC _ slC _
     refine aA ?_
     have xAC := xAB.trans xC
     refine aJ ⟨dF xAC, ?_⟩
     refine bV (i := 5) (by decide +kernel) rfl rfl ?_
     obtain ⟨css, ho, hcl, hat⟩ := (hVA.ext xAC).out
     have hBC : w7.heap.size + 2 ≤ wC.heap.size := Nat.le_trans ns xAC.size
     refine cP (B := w7.heap.size + 2) (e := 55) (k := 13) rfl ho rfl slC (by intro f hf; rw [List.mem_singleton.1 hf]; exact hone) hBC (by simp; omega) ?_
     intro v' wD oD mD _
     refine aA ?_
     refine aJ ⟨cJ rfl, ?_⟩
     have hmsD := MsgsV.add (m := eV m ((l.drop i).take n)) ho hcl hat mD oD ((oq.weaken (Nat.le_trans ns x9.size)).ext xC) ((oa.weaken (Nat.le_trans ns x9.size)).ext xC) rfl rfl
     have hne : ∀ k, k < w7.heap.size + 2 → o.ownBlock ≠ some k := fun k hk e => by have := (ho.block k e).1; omega
     have tM := fun (k : Nat) (ob : Obj) (hk : k < w7.heap.size + 2) (h : wA.heap[k]? = some ob) => mD.at (xAC.at h) (fun e => hne k hk e.symm)
     have xD : Ext w5 wD := (xA.trans xAC).move mD (fun k e => by have := (ho.block k e).1; omega)
     have hvo := oD.one
     refine bV (i := 6) (by decide +kernel) rfl rfl ?_
     refine cI (v := v') rfl rfl rfl (tM _ _ (by omega) no) (by decide +kernel) hvo ?_
     intro wE pE
     refine aJ ⟨cJ rfl, ?_⟩
     refine cZ (by decide +kernel) ?_
     have tE := fun (k : Nat) (ob : Obj) (hk : k < w7.heap.size + 2) (hn : k ≠ w5.heap.size) (h : wA.heap[k]? = some ob) => pE.at (tM k ob hk h) hn
     have qv := tE _ _ (by omega) (by omega) nv
     have qn := tE _ _ (by omega) (by omega) nn
     have qd := tE _ _ (by omega) (by omega) nd
     have ql := tE _ _ (by omega) (by omega) nl
     have qo := pE.this
     have hmsE := hmsD.below pE (by omega)
     have xE : Ext w5 wE := xD.move pE.mv (by rintro k ⟨⟩; exact Nat.le_refl _)
     have qs : w7.heap.size + 2 ≤ wE.heap.size := Nat.le_trans hBC (Nat.le_trans mD.size pE.mv.size)
     clear tE tM hne pE mD hmsD xD ho hat hcl oD slC hone oq oa xAC xAB xB x9 xC hpo hpfA hpmA hmA hsA nv nn nd nl no hVA
     repeat' (first | refine cF (by rfl) (by intro _ _ h; exact h) ?_ | ((with_reducible refine bR ?_); (first | (refine gW ?_; refine FQ ?_) | (refine jG ?_; first | refine kJ ?_ | refine pP ?_ | refine pR ?_ | refine pQ ?_ | ((first | refine pG ?_ ?_ | refine pH ?_ ?_) <;> intro hc)))) | ((fail_if_success (with_reducible refine bR ?_)); first | go_step | gi_step))
     exact lV ql fun w' p' => ⟨rfl, ⟨xE.move p'.mv (by rintro k ⟨⟩; omega), p'.at qv (by omega), p'.at qn (by omega), p'.at qd (by omega), p'.this, Nat.le_trans qs p'.mv.size, v', _, p'.at qo (by omega), hmsE.below p' (by omega), by simp; omega, PE hn hi (hgo hi), NH hn hi (hgo hi)⟩⟩
    refine (RH (w7.heap.size + 1) w6.heap.size (w6.heap.size + 1) lp (PackMid w5 w6 w7 lp v n m l) (by subst hlp; rfl) (fun _ _ h => h.lp) (fun _ _ _ h x => h.grow x) v l n hn (by omega) (fun _ _ h => h.cv) (fun _ _ h => h.cn) (fun _ _ h => hs5.ext h.ext) hl hy W hJ).mono ?_
    rintro e W' ⟨rfl, i, hi1, hi2, hR⟩
    refine ⟨⟨_, rfl⟩, ?_⟩
    clear hJ xW k4 k5 sW hy
    refine ⟨lp, hR.lp, by rw [hrdy.1]; simp, ?_⟩
    intro W2 hput
    rw [hrdy.2]
    clear hlp hrdy
    simp only
    obtain ⟨o, ms0, mo, hV, -, -, hend⟩ := hR.out
    have f2 := hput.at mo (by omega)
    have fd := hput.at hR.df (by omega)
    have fx : Ext w W2 := (hx5.trans hR.ext).move hput.mv (by rintro k ⟨⟩; omega)
    have hV2 := hV.below hput (by omega)
    have hE2 := hend hi1
    clear hput hR mo hV hend
    have hp2 := aE (cs := [o]) f2
    (repeat' first | ((with_reducible refine cY ?_); go_step) | ((with_reducible refine bR ?_); first | refine iI ?_ | (refine dN ?_ ?_ <;> intro hc)) | fail)
    refine iZ fd fun W5 p5 => ⟨_, results_tmp2 rfl _ _ _, _, rfl, fx.move p5.mv (by rintro k ⟨⟩; omega), o, by rw [hE]; rfl, ?_⟩
    rw [hL, ← hE2]
    exact (hV2.below p5 (by omega)).weaken (by omega)
 ·have hP : sG m l most = false := by
   cases h : sG m l most with
   | false => rfl
   | true =>
    exfalso
    apply hB
    simp only [sG, Bool.and_eq_true, decide_eq_true_eq] at h
    exact ⟨h.1.1, h.1.2.1, h.1.2.2.1, h.1.2.2.2⟩
  (repeat' first | ((with_reducible refine cY ?_); go_step) | ((with_reducible refine bR ?_); first | refine iI ?_ | (refine dN ?_ ?_ <;> intro hc)) | fail)
  all_goals first
   | (refine iL (results_tmp2 rfl _ _ _) ⟨_, rfl, hx2, .slice none 0 0, by rw [BE, hP]; rfl, by rw [pY, hP]; exact MsgsV.nil _ _⟩)
   | skip
  exfalso
  apply hB
  have h1 := ‹(!decide (fA m = 0)) = false›
  have h2 := ‹(!decide (((dL m.qs).length : Int) = 1)) = false›
  simp only [Bool.not_eq_false', decide_eq_true_eq] at h1 h2
  exact ⟨h1, by omega, by omega, by omega⟩
set_option maxHeartbeats 2000000 in
theorem RJ (n : Nat) (w : World) (hn : n ≤ 1000000) : Calls Tryz.prog 103 #[.slice none 0 0, .int .i64 n] w (jE w fun r w' => Own w.heap.size 4 47 w' r []) := by
 have hs := Sl.nil 4 w
 go_enter Tryz.func103, Tryz.ntmps103
 refine_lift oM ?_; intro _ _ _ _ _ _
 refine bM (Runs.capC (k := 4) (l := 0) (c := 0) (ad := none) rfl (by decide +kernel)) ?_
 refine aA ?_
 refine_lift aS ?_
 rw [show ((0 : Nat) : Int) = 0 from rfl, show ((([] : List (List Value)).length : Nat) : Int) = 0 from rfl]
 refine_lift rF (fun _ => ?_) (fun _ => ?_)
 ·have h0 : 0 < n := by omega
  refine_lift aS ?_
  refine bM (Runs.capC (k := 4) (l := 0) (c := 0) (ad := none) rfl (by decide +kernel)) ?_
  refine aA ?_
  refine_lift aS ?_
  refine KS (e := 47) (k := 4) (n := n) (z := JT) rfl (by exact congrArg (Value.int .i64) (show ((n : Int) - (0 - 0)) = (n : Int) by omega)) h0 hn ?_
  intro g cap w1 x1 o1
  refine aA ?_
  have hrl : (List.replicate n JT).length = n := by simp
  have hs1 := o1.sl
  have hs' := hs.ext x1
  refine_lift aS ?_
  refine bM (Runs.takeC (k := 4) (n := 0) (l := n) (c := cap) (ad := some ⟨g, 0, none⟩) rfl rfl (Nat.zero_le _) (by decide +kernel)) ?_
  refine aA ?_
  refine_lift aS ?_
  go_ret
  refine ⟨_, rfl, x1, ?_⟩
  have o2 := o1.short (m := 0) (Nat.zero_le _)
  have e : (if cap = 0 then some (⟨g, 0, none⟩ : Addr) else Option.map (fun x : Addr => x.add (0 * 4)) (some (⟨g, 0, none⟩ : Addr))) = some (⟨g, 0, none⟩ : Addr) := by
   by_cases hq : cap = 0
   ·rw [if_pos hq]
   ·rw [if_neg hq]; simp [cR]
  rw [e]
  exact o2
 ·refine_lift aS ?_
  go_ret
  exact ⟨_, rfl, Ext.refl _, Own.nil _ _ _ _⟩
theorem BF {us : List Value} {k : Nat} (h : k < us.length) : (us.map fun u => [u])[k]? = some [us[k]] := by simp [h]
set_option maxHeartbeats 2000000 in
theorem NI (v : Value) (us : List Value) (ls : List (List Rec)) (w : World) (hv : Sl 1 w v (us.map fun u => [u])) (hl : us.length = ls.length) (hu : ∀ k (h1 : k < us.length) (h2 : k < ls.length), Sl 4 w us[k] (aD ls[k])) (hb : ls.flatten.length ≤ 400000) :
 Calls Tryz.prog 53 #[v] w (jE w fun r w' => Own w.heap.size 4 47 w' r (aD ls.flatten)) := by
 have hle := hv.le
 have hul : (us.map fun u => [u]).length = us.length := by simp
 go_enter Tryz.func53, Tryz.ntmps53
 refine_lift kL ?_; intro _ _ _
 go_loopw [3, 5, 11] (fun sz _ i wr => ∃ k : Nat, k ≤ us.length ∧ i = .int .i64 k ∧ sz = .int .i64 ((ls.take k).flatten.length : Nat) ∧ Ext w wr) (fun _ _ i _ => us.length - (intOf i).toNat)
 case atStart => exact ⟨0, Nat.zero_le _, rfl, rfl, Ext.refl _⟩
 case round =>
  obtain ⟨k, hk, rfl, rfl, hx⟩ := hrel
  have hv2 := hv.ext hx
  have hst : ∀ m, ((ls.take m).flatten.length) ≤ 400000 := by
   intro m
   have : (ls.take m).flatten.length + (ls.drop m).flatten.length = ls.flatten.length := by rw [← List.length_append, ← List.flatten_append, List.take_append_drop]
   omega
  by_cases hlt : k < us.length
  ·have hpe := hv2.elem (BF hlt)
   have hue := (hu k hlt (by omega)).ext hx
   have hst1 := hst (k + 1)
   have hst0 := hst k
   have hlt2 : k < ls.length := by omega
   have htk : (ls.take (k + 1)).flatten.length = (ls.take k).flatten.length + ls[k].length := by rw [List.take_succ_eq_append_getElem hlt2, List.flatten_append, List.length_append]; simp
   have hrl := aL ls[k]
   refine_lift bY fun _ _ => ?_
   refine ⟨⟨k + 1, by omega, by go_num, congrArg (Value.int .i64) (by rw [htk, hrl]; omega), hx⟩, by simp [intOf]; omega⟩
  ·have : k = us.length := by omega
   subst this
   have hfu : ls.take us.length = ls := by rw [hl, List.take_length]
   rw [hfu]
   refine_lift kL fun _ _ _ => ?_
   refine aK (enters_of Tryz.func103 rfl rfl) rfl rfl (RJ ls.flatten.length _ (by omega)) ?_
   intro u w1 x1 o1
   refine aA ?_
   have hx1 := hx.trans x1
   have hv3 := hv.ext hx1
   refine_lift bY fun _ _ => ?_
   go_loopw [6, 8, 27] (fun o _ i wr' => ∃ k : Nat, k ≤ us.length ∧ i = .int .i64 k ∧ Ext w wr' ∧ Own w.heap.size 4 47 wr' o (aD (ls.take k).flatten)) (fun _ _ i _ => us.length - (intOf i).toNat)
   case atStart => exact ⟨0, Nat.zero_le _, rfl, hx1, by simpa [aD] using o1.weaken hx.size⟩
   case round =>
    obtain ⟨k, hk, rfl, hx4, ho⟩ := hrel
    have hv4 := hv.ext hx4
    by_cases hlt : k < us.length
    ·have hpe := hv4.elem (BF hlt)
     have hue := (hu k hlt (by omega)).ext hx4
     have hlt2 : k < ls.length := by omega
     have htk : (ls.take (k + 1)).flatten = (ls.take k).flatten ++ ls[k] := by rw [List.take_succ_eq_append_getElem hlt2, List.flatten_append]; simp
     have hst1 := hst (k + 1)
     rw [htk, List.length_append] at hst1
     refine_lift gV ?_; intro _ _ _ _
     refine cP (B := w.heap.size) (e := 47) rfl ho rfl hue mM hx4.size (by rw [aL, aL]; omega) ?_
     intro v5 w5 o5 m5 _
     have x5 := ho.mvx m5 hx4 (Nat.le_refl _)
     refine aA ?_
     refine_lift aS ?_
     refine ⟨⟨k + 1, by omega, by go_num, x5, ?_⟩, by simp [intOf]; omega⟩
     rw [htk, aD, List.map_append]
     exact o5
    ·have : k = us.length := by omega
     subst this
     rw [hfu] at ho
     refine_lift fP fun _ => ?_
     go_ret
     exact ⟨_, rfl, hx4, ho⟩
theorem Sl.cell1 {k : Nat} {w : World} {v : Value} {es : List (List Value)} (h : Sl k w v es) : v.cells.toList = [v] := by obtain ⟨_, _, _, rfl⟩ := h.slf; rfl
theorem RK : dE [1, 97] EW = 0 := by decide +kernel
theorem RL : bT [1, 97] EW = mN := by decide +kernel
theorem RM : cH [1, 97] EW = [1, 97] := by decide +kernel
theorem RN : ∀ s ∈ mN, ∀ d ∈ s.data, d.length ≤ 1000000 := by decide +kernel
theorem RO : (aF mN).length ≤ 5000 := by decide +kernel
theorem KJ {o : List UInt8} {l : List RSet} (h : (decide ((o.length : Int) ≤ 300) && pI l) = true) : l.length ≤ 25 ∧ (∀ s ∈ l, s.data.length ≤ 1000000) ∧ (∀ s ∈ l, ∀ d ∈ s.data, d.length ≤ 4611686018427387904) ∧ o.length ≤ 300 ∧ (∀ s ∈ l, s.data.length ≤ 12) ∧ (∀ s ∈ l, ∀ d ∈ s.data, d.length ≤ 300) := by
 simp only [Bool.and_eq_true, decide_eq_true_eq] at h
 obtain ⟨b1, b2, b3, b4⟩ := GX h.2
 exact ⟨b1, fun s hs => by have := b2 s hs; omega, fun s hs d hd => by have := b4 s hs d hd; omega, by omega, b2, b4⟩
end Go.Proofs.X
set_option linter.unusedSimpArgs false
set_option linter.unusedVariables false
namespace Go.Proofs.X
open Go.RowKit
theorem NJ {o : List UInt8} {l : List RSet} (h : (decide ((o.length : Int) ≤ 300) && pI l) = true) : (aF l).length ≤ 300 ∧ (∀ s ∈ l, ∀ d ∈ s.data, d.length ≤ 1000000) ∧ ∀ r ∈ aF l, r.data.length ≤ 1000000 := by
 obtain ⟨a, _, _, _, b, c⟩ := KJ h
 have := xV b
 have hd : ∀ s ∈ l, ∀ d ∈ s.data, d.length ≤ 1000000 := fun s hs d hd => by have := c s hs d hd; omega
 exact ⟨by omega, hd, tB hd⟩
end Go.Proofs.X
set_option linter.unusedSimpArgs false
set_option linter.unusedVariables false
namespace Go.Proofs.X
open Go.RowKit
set_option maxRecDepth 100000
theorem DelsV.each {B : Nat} {w : World} {v : Value} {ds : List DeltaR} (h : DelsV B w v ds) : ∃ css, Sl 4 w v css ∧ css.length = ds.length ∧ ∀ (i : Nat) (d : DeltaR), ds[i]? = some d → ∃ g n, css[i]? = some [.int .i64 d.fr, .int .i64 d.to, g, n] ∧ Sl 4 w g (aD d.gone) ∧ Sl 4 w n (aD d.new) := by
 obtain ⟨css, a, b, c⟩ := h
 exact ⟨css, a.sl, b, fun i d hi => let ⟨g, n, e, p, q⟩ := c i d hi; ⟨g, n, e, p.sl, q.sl⟩⟩
theorem DelsK.each {B : Nat} {w : World} {v : Value} {ds : List DeltaR} (h : DelsK B w v ds) : ∃ css, Sl 4 w v css ∧ css.length = ds.length ∧ ∀ (i : Nat) (d : DeltaR), ds[i]? = some d → ∃ g n, css[i]? = some [.int .i64 d.fr, .int .i64 d.to, g, n] ∧ Sl 4 w g (aD d.gone) ∧ Sl 4 w n (aD d.new) := by
 obtain ⟨css, a, b, c⟩ := h
 exact ⟨css, a.sl, b, fun i d hi => let ⟨g, n, e, p, q⟩ := c i d hi; ⟨g, n, e, p.sl, q.sl⟩⟩
structure ZonesAt (w : World) (v : Value) (zs : List (List UInt8 × List RSet)) : Prop where
 out : ∃ css, Sl 2 w v css ∧ css.length = zs.length ∧ ∀ (i : Nat) (z : List UInt8 × List RSet), zs[i]? = some z → ∃ u, css[i]? = some [aI z.1, u] ∧ SetsAt w u z.2
theorem ZonesAt.ext {w w' : World} {v : Value} {zs : List (List UInt8 × List RSet)} (h : ZonesAt w v zs) (hx : Ext w w') : ZonesAt w' v zs := by
 obtain ⟨css, h1, h2, h3⟩ := h
 exact ⟨css, h1.ext hx, h2, fun i z hi => let ⟨u, a, b⟩ := h3 i z hi; ⟨u, a, b.ext hx⟩⟩
def uD (o : List UInt8) (l : List RSet) (o' : List UInt8) (l' : List RSet) : List RSet := if nC o l o' l' = 0 then l' else l
def mZ (room : Int) (o : List UInt8) (l : List RSet) (ds : List DeltaR) (o' : List UInt8) (l' : List RSet) : List DeltaR := if nC o l o' l' = 0 then dD room (ds ++ [uG o l o l']) else ds
structure JOk (o : List UInt8) (l : List RSet) (room : Int) (ds : List DeltaR) : Prop where
 zone : ZoneOk o l
 fits : 0 ≤ room ∧ room ≤ 20
 len : (ds.length : Int) ≤ room
 each : ∀ d ∈ ds, d.gone.length ≤ 4000 ∧ d.new.length ≤ 4000
theorem CP {o o' : List UInt8} {l l' : List RSet} (h : nC o l o' l' = 0) : o' = o ∧ ZoneOk o l' ∧ dB (aP o l').serial (aP o l).serial = true := by
 unfold nC at h
 split at h
 ·rename_i q; exact absurd h q
 ·rename_i q
  split at h
  ·cases h
  ·rename_i q2
   have e : o' = o := by simpa using q2
   subst e
   split at h
   ·cases h
   ·rename_i q3
    exact ⟨rfl, gF (by simpa using q), by simpa using q3⟩
theorem PF {o : List UInt8} {l l' : List RSet} (h : ZoneOk o l) (h' : ZoneOk o l') : (uG o l o l').gone.length ≤ 4000 ∧ (uG o l o l').new.length ≤ 4000 := by
 rw [(tX (oB h h')).2.2.2]
 have a := (nX h).2.2.2
 have b := (nX h').2.2.2
 unfold cW
 exact ⟨Nat.le_trans (List.length_filter_le _ _) a, Nat.le_trans (List.length_filter_le _ _) b⟩
theorem JOk.next {o : List UInt8} {l : List RSet} {room : Int} {ds : List DeltaR} (h : JOk o l room ds) (o' : List UInt8) (l' : List RSet) : JOk o (uD o l o' l') room (mZ room o l ds o' l') := by
 unfold uD mZ
 split
 ·rename_i q
  obtain ⟨rfl, hz, _⟩ := CP q
  refine ⟨hz, h.fits, ?_, ?_⟩
  ·rw [yB _ _ h.fits.1]
   exact Int.min_le_right _ _
  ·intro d hd
   rcases List.mem_append.1 (List.mem_of_mem_drop hd) with hd | hd
   ·exact h.each d hd
   ·rw [List.mem_singleton.1 hd]
    exact PF h.zone hz
 ·exact h
theorem CQ {o : List UInt8} {l : List RSet} {room : Int} (h : pM o l room = 0) : JOk o l room [] := by
 unfold pM at h
 split at h
 ·rename_i q; exact absurd h q
 ·rename_i q
  split at h
  ·cases h
  ·rename_i q2
   exact ⟨gF (by simpa using q), by omega, by simp; omega, by simp⟩
theorem BG {w0 w : World} {b : Nat} {o : List UInt8} {l : List RSet} {room : Int} {ds : List DeltaR} (h : JAt w0 w b o l room ds) (hk : JOk o l room ds)
 (o' : List UInt8) (v' : Value) (l' : List RSet) (hv0 : SetsAt w0 v' l') (hb' : ∀ s ∈ l', s.data.length ≤ 1000000) (hd' : ∀ s ∈ l', ∀ d ∈ s.data, d.length ≤ 4611686018427387904) :
 Calls Tryz.prog 16 #[.pointer (some ⟨b, 0, none⟩), .agg #[aI o', v']] w fun e w' => e = .returned (.int .i64 (nC o l o' l')) ∧ Keep [84, 90] w w' ∧ JAt w0 w' b o (uD o l o' l') room (mZ room o l ds o' l') := by
 have hl := hk.len
 have hr := hk.fits
 obtain ⟨v, dv, hbk, _⟩ := h.out
 refine (MJ h hk.zone hk.fits (by omega) o' v' l' hv0 hb' hd').mono ?_
 rintro e w' ⟨rfl, hK, h1, h2⟩
 refine ⟨rfl, hK.keep hbk, ?_⟩
 by_cases q : nC o l o' l' = 0
 ·rw [uD, if_pos q, mZ, if_pos q]; exact h2 q
 ·rw [uD, if_neg q, mZ, if_neg q]; exact h1 q
theorem JOk.small {o : List UInt8} {l : List RSet} {room : Int} {ds : List DeltaR} (h : JOk o l room ds) : l.length ≤ 100000 ∧ (∀ s ∈ l, s.data.length ≤ 1000000) ∧ (∀ s ∈ l, ∀ d ∈ s.data, d.length ≤ 4611686018427387904) ∧ ds.length ≤ 1000 ∧ (∀ d ∈ ds, d.gone.length ≤ 100000 ∧ d.new.length ≤ 100000) := by
 obtain ⟨a, b, c, _⟩ := nX h.zone
 have hl := h.len
 have hr := h.fits
 refine ⟨by omega, fun s hs => by have := b s hs; omega, fun s hs d hd => by have := c s hs d hd; omega, by omega, fun d hd => by have := h.each d hd; omega⟩
section
variable {P : Program} {a : Act} {w : World} {d : Option Nat} {ty : TypeId} {ps : String} {af : Array Edge} {g : Option (Nat × Bool)}
end
section
variable {P : Program} {w : World} {ts : List Value} {df : List Deferred} {d : Option Nat} {ty : TypeId} {ps : String} {af : Array Edge} {g : Option (Nat × Bool)}
end
end Go.Proofs.X
set_option linter.unusedSimpArgs false
set_option linter.unusedVariables false
namespace Go.Proofs.X
open Go.RowKit
end Go.Proofs.X
set_option linter.unusedSimpArgs false
set_option linter.unusedVariables false
namespace Go.Proofs.X
open Go.RowKit
end Go.Proofs.X
set_option linter.unusedSimpArgs false
set_option linter.unusedVariables false
namespace Go.Proofs.X
open Go.RowKit
set_option maxRecDepth 100000
section
variable {P : Program} {a : Act} {w : World} {d : Option Nat} {ty : TypeId} {ps : String} {af : Array Edge} {g : Option (Nat × Bool)}
end
section
variable {P : Program} {ts : List Value} {df : List Deferred} {w : World} {d : Option Nat} {ty : TypeId} {ps : String} {af : Array Edge} {g : Option (Nat × Bool)}
end
section
variable {P : Program} {ts : List Value} {df : List Deferred} {w : World} {d : Option Nat} {ty : TypeId} {ps : String} {af : Array Edge} {g : Option (Nat × Bool)}
end
theorem FG (r : Rec) : aU r = decide (r.kind = 6) := rfl
theorem kI {o : List UInt8} {l : List RSet} (h : ZoneOk o l) : bO o l = soaRec o l :: (aF l).filter (fun r => !aU r) ++ [soaRec o l] := by
 obtain ⟨os, q, hr⟩ := h.recs
 rw [hr.whole h]
 have e : (aF l).filter (fun r => !aU r) = os := by
  rw [hr.eq, fH, List.filter_append, List.filter_cons, (cN h).2.1]
  rw [Bool.not_true, if_neg (by decide), ← List.filter_append, List.take_append_drop, List.filter_eq_self.2]
  intro r hr'
  rw [hr.non r hr']; rfl
 rw [e]
theorem HF {ds : List DeltaR} {k : Nat} (h : k < ds.length) : dM (ds.take (k + 1)) = dM (ds.take k) ++ (eJ ds[k].gone ++ eJ ds[k].new) := by
 unfold dM
 rw [List.take_succ_eq_append_getElem h]
 simp only [List.map_append, List.map_cons, List.map_nil, List.flatten_append, List.flatten_cons, List.flatten_nil, List.append_nil]
theorem sH : ∀ l : List Rec, (eJ l).length = l.length := by
 intro l
 unfold eJ
 rw [List.length_append]
 induction l with
 | nil => rfl
 | cons r l ih =>
  cases h : aU r
  ·simp only [List.filter_cons, h, Bool.not_false, if_true, Bool.false_eq_true, if_false, List.length_cons]; omega
  ·simp only [List.filter_cons, h, Bool.not_true, if_true, Bool.false_eq_true, if_false, List.length_cons]; omega
theorem KK (ds : List DeltaR) (k : Nat) : (dM (ds.take k)).length ≤ (dM ds).length := by
 conv => rhs; rw [← List.take_append_drop k ds]
 unfold dM
 rw [List.map_append, List.flatten_append, List.length_append]
 omega
theorem BH : ∀ (ds : List DeltaR), (∀ d ∈ ds, d.gone.length ≤ 4000 ∧ d.new.length ≤ 4000) → (dM ds).length ≤ 8000 * ds.length
 | [], _ => by simp [dM]
 | d :: ds, h => by
   have ih := BH ds fun e he => h e (List.mem_cons_of_mem _ he)
   have hd := h d (List.mem_cons_self ..)
   unfold dM at ih ⊢
   simp only [List.map_cons, List.flatten_cons, List.length_append, sH, List.length_cons]
   omega
theorem JOk.tell {o : List UInt8} {l : List RSet} {room : Int} {ds : List DeltaR} (h : JOk o l room ds) {es : List DeltaR} (he : es.length ≤ ds.length) (hm : ∀ d ∈ es, d ∈ ds) : (dM es).length ≤ 160000 := by
 have := BH es fun d hd => h.each d (hm d hd)
 have h1 := h.len
 have h2 := h.fits
 omega
def DOne (ds : List DeltaR) : Prop := ∀ d ∈ ds, (d.gone.filter aU).length ≤ 1 ∧ (d.new.filter aU).length ≤ 1
theorem DOne.next {o : List UInt8} {l : List RSet} {room : Int} {ds : List DeltaR} (h : DOne ds) (hO : JOk o l room ds) (o' : List UInt8) (l' : List RSet) : DOne (mZ room o l ds o' l') := by
 unfold mZ
 split
 ·rename_i hE
  obtain ⟨rfl, hz', _⟩ := CP hE
  intro d hd
  have hd' : d ∈ ds ++ [uG o' l o' l'] := by
   unfold dD at hd
   exact List.mem_of_mem_drop hd
  rcases List.mem_append.1 hd' with hd | hd
  ·exact h d hd
  ·rw [List.mem_singleton.1 hd, (tX (oB hO.zone hz')).2.2.2]
   unfold cW
   exact ⟨oZ hO.zone _, oZ hz' _⟩
 ·exact h
theorem BI (o : List UInt8) (l : List RSet) (ds : List DeltaR) (s : Int) : ∀ d ∈ (cU o l ds s).1, d ∈ ds := by
 intro d hd
 unfold cU at hd
 split at hd
 ·simp at hd
 ·split at hd
  ·exact List.mem_of_mem_drop hd
  ·simp at hd
theorem BJ (o : List UInt8) (l : List RSet) (ds : List DeltaR) (s : Int) : (cU o l ds s).1.length ≤ ds.length := by
 unfold cU
 split
 ·simp
 ·split
  ·simp
  ·simp
theorem TN {u1 u2 u3 : Value} {w : World} {a b c : List Rec} (h1 : Sl 4 w u1 (aD a)) (h2 : Sl 4 w u2 (aD b)) (h3 : Sl 4 w u3 (aD c)) :
 ∀ k (h : k < [u1, u2, u3].length) (h' : k < [a, b, c].length), Sl 4 w [u1, u2, u3][k] (aD [a, b, c][k])
 | 0, _, _ => h1
 | 1, _, _ => h2
 | 2, _, _ => h3
theorem RP {u1 u2 u3 : Value} (h1 : u1.cells.toList = [u1]) (h2 : u2.cells.toList = [u2]) (h3 : u3.cells.toList = [u3]) : ∀ x ∈ [u1, u2, u3], x.cells.size = 1 := by
 intro x hx
 simp only [List.mem_cons, List.not_mem_nil, or_false] at hx
 rcases hx with rfl | rfl | rfl
 ·rw [← Array.length_toList, h1]; rfl
 ·rw [← Array.length_toList, h2]; rfl
 ·rw [← Array.length_toList, h3]; rfl
theorem RQ {u1 u2 u3 : Value} (h1 : u1.cells.toList = [u1]) (h2 : u2.cells.toList = [u2]) (h3 : u3.cells.toList = [u3]) : [u1, u2, u3].map (·.cells.toList) = [u1, u2, u3].map fun u => [u] := by
 simp [h1, h2, h3]
theorem Runs.cutH {P : Program} {a : Act} {w : World} {d : Option Nat} {ty : TypeId} {ps : String} {af : Array Edge} {g : Option (Nat × Bool)} {t : TypeId} {x hi mx : Operand} {k n : Nat} {es : List (List Value)} (h2 : a.eval hi = .int .i64 (n : Nat)) (h3 : a.eval mx = .int .i64 (n : Nat)) (h : Sl k w (a.eval x) es) (hn : n ≤ es.length) (ht : dO P t k = true) :
 Runs P (Oper.mk d (.slice t x none (some hi) (some mx)) ty ps af g) a w (X.RG (a.eval x) k 0 n) := by
 obtain ⟨ad, cap, h4, h5, _⟩ := h
 obtain ⟨e, ie, ht, hie, hz⟩ := cS ht
 constructor
 simp [execOp, h4, h2, h3, Instr.sliceAt, Instr.slice, run_underlying ht, Instr.sliceBounds, Instr.sliceBound, asIntOf, sizeOf, typeInfo, hie, hz, show n ≤ cap by omega, X.RG]
set_option maxHeartbeats 2000000 in
theorem yL {w0 w : World} {b : Nat} {o : List UInt8} {l : List RSet} {room : Int} {ds : List DeltaR} (h : JAt w0 w b o l room ds) (hO : JOk o l room ds) (h1 : DOne ds) (s : Int) :
 Calls Tryz.prog 18 #[.pointer (some ⟨b, 0, none⟩), .int .i64 s] w (jE w fun r w' => ∃ y, r = .tuple #[y, .int .i64 0] ∧ Sl 4 w' y (aD (gT o l ds s))) := by
 obtain ⟨bl, bb, bd, bn, bg⟩ := hO.small
 have bg' : ∀ d ∈ ds, d.gone.length ≤ 1000000 ∧ d.new.length ≤ 1000000 := fun d hd => by have := bg d hd; omega
 have hS : ∀ w2, Ext w w2 → _ := fun w2 x => OO (h.grow x) bb bd bn bg' s
 have hzz := fW hO.zone
 have hsub : ∀ d ∈ (cU o l ds s).1, d ∈ ds := BI o l ds s
 have hsl : (cU o l ds s).1.length ≤ ds.length := BJ o l ds s
 have htl := hO.tell hsl hsub
 have hgl : ∀ d ∈ (cU o l ds s).1, d.gone.length ≤ 100000 ∧ d.new.length ≤ 100000 := fun d hd => bg d (hsub d hd)
 have hol : ∀ d ∈ (cU o l ds s).1, (d.gone.filter aU).length ≤ 1 ∧ (d.new.filter aU).length ≤ 1 := fun d hd => h1 d (hsub d hd)
 have hX : gT o l ds s = if (cU o l ds s).2 = false then bO o l else if (cU o l ds s).1 = [] then [soaRec o l] else soaRec o l :: (dM (cU o l ds s).1 ++ [soaRec o l]) := rfl
 rw [hX]
 clear hX hsub h1 bg bg'
 generalize cU o l ds s = R at *
 obtain ⟨E, B⟩ := R
 simp only at hS hsl htl hgl hol ⊢
 go_enter Tryz.func18, Tryz.ntmps18
 (repeat' first | ((with_reducible refine cY ?_); go_step) | ((with_reducible refine bR ?_); first | refine iI ?_ | (refine dN ?_ ?_ <;> intro hc)) | fail)
 refine aK (enters_of Tryz.func33 rfl rfl) rfl rfl (MG h bl bb) ?_
 rintro _ w1 x1 ⟨zy, rfl, hz⟩
 refine aA ?_
 have hW := mQ o zy l w1 hz.sets bb
 rw [hzz] at hW
 refine aK (enters_of Tryz.func11 rfl rfl) rfl rfl hW ?_
 rintro _ w2 x2 ⟨y, rfl, oy⟩
 refine aA ?_
 have hx2 := x1.trans x2
 (repeat' first | ((with_reducible refine cY ?_); go_step) | ((with_reducible refine bR ?_); first | refine iI ?_ | (refine dN ?_ ?_ <;> intro hc)) | fail)
 refine aK (enters_of Tryz.func51 rfl rfl) rfl rfl (hS _ hx2) ?_
 rintro _ w3 x3 ⟨dv, rfl, hD⟩
 refine aA ?_
 have hx3 := hx2.trans x3
 have sy := oy.sl.ext x3
 have hB := x1.size
 clear hW hS hz oy h
 cases B with
 | false =>
  (repeat' first | ((with_reducible refine cY ?_); go_step) | ((with_reducible refine bR ?_); first | refine iI ?_ | (refine dN ?_ ?_ <;> intro hc)) | fail)
  go_ret2
  exact ⟨_, rfl, hx3, y, rfl, sy⟩
 | true =>
  have hwh := kI hO.zone
  have hwl : 1 ≤ (aD (bO o l)).length := by rw [aL, hwh]; simp
  (repeat' first | ((with_reducible refine cY ?_); go_step) | ((with_reducible refine bR ?_); first | refine iI ?_ | (refine dN ?_ ?_ <;> intro hc)) | fail)
  have hcv := (sy.cutX (m := 0) (n := 1) (by omega) hwl)
  have hce : ((aD (bO o l)).take 1).drop 0 = aD [soaRec o l] := by rw [hwh]; simp [aD]
  rw [hce] at hcv
  refine bM (v := X.RG y 4 0 1) (Runs.cutH (k := 4) (n := 1) rfl rfl sy hwl (by decide +kernel)) ?_
  refine aA ?_
  generalize X.RG y 4 0 1 = hd at *
  clear hce hwl hwh
  obtain ⟨css, hsl3, hcl, hat⟩ := hD.each
  by_cases hE : E = []
  ·have hc0 : (css.length : Int) = 0 := by rw [hcl, hE]; rfl
   (repeat' first | ((with_reducible refine cY ?_); go_step) | ((with_reducible refine bR ?_); first | refine iI ?_ | (refine dN ?_ ?_ <;> intro hc)) | fail)
   all_goals first
    | (exfalso; omega)
    | skip
   go_ret2
   refine ⟨_, rfl, hx3, hd, rfl, ?_⟩
   rw [if_neg (by simp), if_pos hE]
   exact hcv
  ·have hc0 : ¬ (css.length : Int) = 0 := by
    have := List.length_pos_iff.2 hE
    omega
   (repeat' first | ((with_reducible refine cY ?_); go_step) | ((with_reducible refine bR ?_); first | refine iI ?_ | (refine dN ?_ ?_ <;> intro hc)) | fail)
   all_goals first
    | (exfalso; omega)
    | skip
   refine aK (enters_of Tryz.func52 rfl rfl) rfl rfl (nU hd [soaRec o l] _ hcv (by simp)) ?_
   intro v4 w4 x4 o4
   refine aA ?_
   have hx4 := hx3.trans x4
   have hd4 := hcv.ext x4
   have s0 : dM (E.take 0) = [] := rfl
   have o40 : Own w.heap.size 4 47 w4 v4 (aD (soaRec o l :: dM (E.take 0))) := o4.weaken hx3.size
   clear o4 hcv hc0 hzz
   (repeat' first | ((with_reducible refine cY ?_); go_step) | ((with_reducible refine bR ?_); first | refine iI ?_ | (refine dN ?_ ?_ <;> intro hc)) | fail)
   go_loopw [11, 46] (fun u i wr => ∃ k : Nat, k ≤ E.length ∧ i = .int .i64 k ∧ Ext w4 wr ∧ Own w.heap.size 4 47 wr u (aD (soaRec o l :: dM (E.take k)))) (fun _ i _ => E.length - (intOf i).toNat)
   case atStart => exact ⟨0, Nat.zero_le _, rfl, Ext.refl _, o40⟩
   case round =>
    clear o40
    obtain ⟨k, hk, rfl, hx, ho⟩ := hrel
    have hx3r := x4.trans hx
    have hsl := hsl3.ext hx3r
    by_cases hlt : k < E.length
    ·obtain ⟨g, n, hc, sg, sn⟩ := hat k _ (List.getElem?_eq_getElem hlt)
     have hpe := hsl.elem hc
     have hgl1 := hgl _ (List.getElem_mem hlt)
     have hol1 := hol _ (List.getElem_mem hlt)
     have hst := HF hlt
     have ht1 : (dM (E.take (k + 1))).length ≤ 160000 := Nat.le_trans (KK E (k + 1)) htl
     rw [hst, List.length_append, List.length_append] at ht1
     have hkc : k < css.length := by omega
     (repeat' first | ((with_reducible refine cY ?_); go_step) | ((with_reducible refine bR ?_); first | refine iI ?_ | (refine dN ?_ ?_ <;> intro hc)) | fail)
     refine aG (z := pL) rfl (by decide +kernel) ?_
     intro wB xB sB hB1
     refine aA ?_
     refine aC (v := .agg #[.int .i64 E[k].fr, .int .i64 E[k].to, g, n]) rfl rfl rfl hB1 (show aO Tryz.prog 90 4 = true by decide +kernel) rfl (iM rfl rfl sg.one sn.one) ?_
     intro wC pC
     have xC : Ext wr wC := xB.move pC.mv (by rintro k ⟨⟩; exact Nat.le_refl _)
     have hpd := aE (cs := [.int .i64 E[k].fr, .int .i64 E[k].to, g, n]) pC.this
     have hx3C := hx3r.trans xC
     have hoC := (ho.ext xC).sl
     have sg1 := sg.ext hx3C
     have sn1 := sn.ext hx3C
     clear pC hB1 xB hpe hsl
     (repeat' first | ((with_reducible refine cY ?_); go_step) | ((with_reducible refine bR ?_); first | refine iI ?_ | (refine dN ?_ ?_ <;> intro hc)) | fail)
     refine cC (S := fun w' => Ext wC w') (by decide +kernel) ?_
     intro w5 x5 _
     refine eQ 0 ?_; refine aA ?_; refine eQ 1 ?_; refine aA ?_; refine eQ 2 ?_; refine aA ?_; refine eQ 4 ?_; refine aA ?_; refine eQ 5 ?_; refine aA ?_
     refine aT (i := 3) (by decide +kernel) rfl rfl ?_
     refine aK (enters_of Tryz.func39 rfl rfl) rfl rfl (yG g E[k].gone _ (sg1.ext x5) hol1.1 (by omega)) ?_
     intro u6 w6 x6 o6
     refine aA ?_
     have x56 := x5.trans x6
     refine aJ ⟨x56, ?_⟩
     refine aT (i := 6) (by decide +kernel) rfl rfl ?_
     refine aK (enters_of Tryz.func39 rfl rfl) rfl rfl (yG n E[k].new _ (sn1.ext x56) hol1.2 (by omega)) ?_
     intro u7 w7 x7 o7
     refine aA ?_
     have x57 := x56.trans x7
     refine aJ ⟨x57, ?_⟩
     refine aT (i := 7) (by decide +kernel) rfl rfl ?_
     have s5 := hoC.ext x57
     have s6 := o6.sl.ext x7
     have s7 := o7.sl
     refine bZ (e := 31) (k := 1) (bytes := 24) (xs := [u11, u6, u7]) rfl rfl rfl (RP s5.cell1 s6.cell1 s7.cell1) (by decide +kernel) (by simp) ?_
     intro v8 w8 x8 _ sl8 _
     refine aA ?_
     have x58 := x57.trans x8
     refine aJ ⟨x58, ?_⟩
     refine aT (i := 8) (by decide +kernel) rfl rfl ?_
     have es8 : [u11, u6, u7].map (·.cells.toList) = [u11, u6, u7].map fun u => [u] := RQ s5.cell1 s6.cell1 s7.cell1
     rw [es8] at sl8
     refine aK (enters_of Tryz.func53 rfl rfl) rfl rfl (NI v8 [u11, u6, u7] [soaRec o l :: dM (E.take k), eJ E[k].gone, eJ E[k].new] _ sl8 rfl (TN (s5.ext x8) (s6.ext x8) (s7.ext x8)) (by simp only [List.flatten_cons, List.flatten_nil, List.append_nil, List.length_append, List.length_cons]; omega)) ?_
     intro v9 w9 x9 o9
     refine aA ?_
     have x59 := x58.trans x9
     refine aJ ⟨x59, ?_⟩
     refine eQ 9 ?_; refine aA ?_
     refine cB (by decide +kernel) ?_
     have xr9 := hx.trans (xC.trans x59)
     have ow9 : Own w.heap.size 4 47 w9 v9 (aD (soaRec o l :: dM (E.take (k + 1)))) := by
      have := o9.weaken ((hx4.trans hx).trans (xC.trans x58)).size
      rw [hst]
      simpa [List.append_assoc] using this
     (repeat' first | ((with_reducible refine cY ?_); go_step) | ((with_reducible refine bR ?_); first | refine iI ?_ | (refine dN ?_ ?_ <;> intro hc)) | fail)
     exact ⟨⟨k + 1, by omega, by go_num, xr9, ow9⟩, by simp [intOf]; omega⟩
    ·have : k = E.length := by omega
     subst this
     rw [List.take_length] at ho
     have hd9 := hd4.ext hx
     have hx9 := hx4.trans hx
     have hkc : ¬ E.length < css.length := by omega
     (repeat' first | ((with_reducible refine cY ?_); go_step) | ((with_reducible refine bR ?_); first | refine iI ?_ | (refine dN ?_ ?_ <;> intro hc)) | fail)
     refine cP (B := w.heap.size) (e := 47) (k := 4) rfl ho rfl hd9 mM hx9.size (by rw [aL, aL, List.length_cons]; simp; omega) ?_
     intro v' w9 o9 m9 _
     refine aA ?_
     have x9 : Ext w w9 := ho.mvx m9 hx9 (Nat.le_refl _)
     (repeat' first | ((with_reducible refine cY ?_); go_step) | ((with_reducible refine bR ?_); first | refine iI ?_ | (refine dN ?_ ?_ <;> intro hc)) | fail)
     go_ret2
     refine ⟨_, rfl, x9, v', rfl, ?_⟩
     rw [if_neg (by simp), if_neg hE]
     have := o9.sl
     rw [← yI] at this
     exact this
def IQ : MsgR := ⟨4, false, 0, false, false, false, false, 0, [([1, 97], 252)], [], [], [], 0⟩
def TO : List Rec := [⟨[1, 97], 6, 9, MN⟩, ⟨[1, 97], 6, 9, GW⟩, ⟨[1, 97], 6, 9, MN⟩, ⟨[1, 97], 6, 9, MN⟩]
theorem ZE.eq3 {q : ZE} {e : Int} {o : List UInt8} {l : List RSet} (h : q.e = e ∧ q.o = o ∧ q.l = l) : q = ⟨e, o, l⟩ := by
 obtain ⟨rfl, rfl, rfl⟩ := h
 rfl
theorem TP : bW [] [] [1, 65] yH = ⟨0, [1, 97], mN⟩ := ZE.eq3 (by decide +kernel)
theorem TQ : (bW [] [] [1, 97] (yH.take 3)).e = 3 := by decide +kernel
theorem TR : pM [1, 97] mN 5 = 0 := by decide +kernel
theorem US : uD [1, 97] mN [1, 97] zA = zA := by decide +kernel
theorem UT : mZ 5 [1, 97] mN [] [1, 97] zA = [UQ] := by decide +kernel
theorem UU : gT [1, 97] zA [UQ] 5 = TO := by decide +kernel
theorem TS : bW [1, 97] mN [1, 97] TO = ⟨0, [1, 97], zA⟩ := ZE.eq3 (by decide +kernel)
theorem UV : BE IQ yH 3 = 0 := by decide +kernel
theorem UW : CM IQ (pY IQ yH 3) = 0 := by decide +kernel
theorem UX : CN IQ (pY IQ yH 3) = yH := by decide +kernel
theorem TT : (pY IQ yH 3).length = 2 := by decide +kernel
theorem TU : (aD yH).length = 4 := rfl
theorem PZ (w : World) {v : Value} (h : Sl 2 w v (dL [([1, 97], 252)])) : MsgV w IQ v (.slice none 0 0) (.slice none 0 0) (.slice none 0 0) := ⟨h, Sl.nil _ _, Sl.nil _ _, Sl.nil _ _⟩
theorem UY : (aD TO).length = 4 := rfl
theorem UZ : ∀ x ∈ pY IQ yH 3, x.an.length ≤ 900 := by decide +kernel
theorem RR : DOne [UQ] := by unfold DOne; decide +kernel
set_option maxHeartbeats 4000000 in
theorem sI (w : World) : Calls Tryz.prog 10 #[] w (TL w) := by
 go_enter Tryz.func10, Tryz.ntmps10
 refine_lift gX fun _ _ => ?_
 refine aK (enters_of Tryz.func37 rfl rfl) rfl rfl (MR _) ?_
 intro v1 w1 x1 hv1
 refine aA ?_
 refine_lift dA ?_
 refine aK (enters_of Tryz.func36 rfl rfl) rfl rfl (GM [1, 97] v1 EW _ hv1 (by decide) TK) ?_
 rintro _ w2 x2 ⟨z, rfl, hz⟩
 rw [RK, RM]
 rw [RL] at hz
 have hz := hz.sets
 have hz1 : z.oneCell' = true := by obtain ⟨css, h, _⟩ := hz; exact h.one
 have hx2 := x1.trans x2
 refine aA ?_
 refine_lift dA ?_
 refine aG (z := aM) rfl (by decide +kernel) ?_
 intro w3 x3 s3 h3
 refine aA ?_
 refine aC (v := .agg #[aI [1, 97], z]) rfl rfl rfl h3 (show aO Tryz.prog 25 2 = true by decide +kernel) rfl (bE hz1) ?_
 intro w4 p4
 have x4 : Ext w2 w4 := x3.move p4.mv (by rintro k ⟨⟩; exact Nat.le_refl _)
 have hp4 := aE (cs := [aI [1, 97], z]) p4.this
 have hz4 := hz.ext x4
 have hx4 := hx2.trans x4
 clear p4 h3 x3 hz
 generalize w2.heap.size = bz at *
 refine_lift gX fun _ _ => ?_
 refine aK (enters_of Tryz.func38 rfl rfl) rfl rfl (ON [1, 97] z mN 6 _ hz4 (by decide) IG TJ) ?_
 rintro _ w5 x5 ⟨y, rfl, hy⟩
 rw [MO, MQ]
 rw [MP] at hy
 have hy := hy.sets
 have hy1 : y.oneCell' = true := by obtain ⟨css, h, _⟩ := hy; exact h.one
 have hx5 := hx4.trans x5
 have hp5 := hp4.ext x5
 have hz5 := hz4.ext x5
 refine aA ?_
 refine_lift dA ?_
 refine aG (z := aM) rfl (by decide +kernel) ?_
 intro w6 x6 s6 h6
 refine aA ?_
 refine aC (v := .agg #[aI [1, 97], y]) rfl rfl rfl h6 (show aO Tryz.prog 25 2 = true by decide +kernel) rfl (bE hy1) ?_
 intro w7 p7
 have x7 : Ext w5 w7 := x6.move p7.mv (by rintro k ⟨⟩; exact Nat.le_refl _)
 have hq7 := aE (cs := [aI [1, 97], y]) p7.this
 have hy7 := hy.ext x7
 have hx7 := hx5.trans x7
 have hp7 := hp5.ext x7
 have hz7 := hz5.ext x7
 clear p7 h6 x6 hy hp5 hz5
 generalize w5.heap.size = by' at *
 refine_lift gX fun _ _ => ?_
 refine aK (enters_of Tryz.func11 rfl rfl) rfl rfl (mQ [1, 97] z mN _ hz7 IG) ?_
 rintro _ w8 x8 ⟨l, rfl, hl⟩
 rw [TI]
 rw [TM] at hl
 have hl := hl.sl
 have hl1 := hl.one
 have hx8 := hx7.trans x8
 have hz8 := hz7.ext x8
 have hy8 := hy7.ext x8
 have hp8 := hp7.ext x8
 have hq8 := hq7.ext x8
 clear hp7 hq7 hz7 hy7 hp4 hz4
 refine aA ?_
 refine_lift gX fun _ _ => ?_
 refine aQ (v := .agg aM.toArray) rfl (Runs.build0 (by kernel_rfl)) ?_
 refine aA ?_
 refine_lift dA ?_
 have hI1 := fB [] (.slice none 0 0) [] [1, 65] l yH w8 (SetsO.nil 0 _).sets hl (by simp) (by simp) (by decide) (by decide) UR
 rw [TP] at hI1
 refine aK (enters_of Tryz.func21 rfl rfl) rfl rfl hI1 ?_
 rintro _ w9 x9 ⟨x, rfl, hxx⟩
 have hxx := hxx.sets
 have hxx1 : x.oneCell' = true := by obtain ⟨css, h, _⟩ := hxx; exact h.one
 have hx9 := hx8.trans x9
 refine aA ?_
 refine_lift dA ?_
 refine aG (z := aM) rfl (by decide +kernel) ?_
 intro w10 x10 s10 h10
 refine aA ?_
 refine aC (v := .agg #[aI [1, 97], x]) rfl rfl rfl h10 (show aO Tryz.prog 25 2 = true by decide +kernel) rfl (bE hxx1) ?_
 intro w11 p11
 have x11 : Ext w9 w11 := x10.move p11.mv (by rintro k ⟨⟩; exact Nat.le_refl _)
 have hr11 := aE (cs := [aI [1, 97], x]) p11.this
 have hxx11 := hxx.ext x11
 have x811 := x9.trans x11
 have hx11 := hx9.trans x11
 have hl11 := hl.ext x811
 have hz11 := hz8.ext x811
 have hy11 := hy8.ext x811
 have hp11 := hp8.ext x811
 have hq11 := hq8.ext x811
 clear p11 h10 x10 hl hz8 hy8 hp8 hq8 hxx hI1
 generalize w9.heap.size = bx at *
 refine_lift gX fun _ _ => ?_
 refine aQ (v := .agg aM.toArray) rfl (Runs.build0 (by kernel_rfl)) ?_
 refine aA ?_
 have h4 := TU
 refine_lift dA ?_
 refine bM (Runs.maxI (m := ((aD yH).length : Int) - 1) (n := 0) rfl rfl) ?_
 rw [show max (((aD yH).length : Int) - 1) 0 = 3 by rw [TU]; rfl]
 refine aA ?_
 have hc11 : Sl 4 w11 (cK l 4 0 3) (aD (yH.take 3)) := (parts hl11 (n := 3) (by decide)).1
 refine bM (v := cK l 4 0 3) (Runs.takeT (k := 4) (n := 3) rfl hl11 (by decide) (by decide +kernel)) ?_
 refine aA ?_
 have hI2 := fB [] (.slice none 0 0) [] [1, 97] (cK l 4 0 3) (yH.take 3) w11 (SetsO.nil 0 _).sets hc11 (by simp) (by simp) (by decide) (by decide) (by decide +kernel)
 refine aK (enters_of Tryz.func21 rfl rfl) rfl rfl hI2 ?_
 rintro _ w12 x12 ⟨x', rfl, hx'⟩
 rw [TQ]
 have hx'1 : x'.oneCell' = true := by obtain ⟨css, h, _⟩ := hx'.sets; exact h.one
 generalize (bW [] [] [1, 97] (yH.take 3)).o = oo' at *
 refine aA ?_
 refine_lift dA ?_
 refine aG (z := aM) rfl (by decide +kernel) ?_
 intro w13 x13 s13 h13
 refine aA ?_
 refine aC (v := .agg #[aI oo', x']) rfl rfl rfl h13 (show aO Tryz.prog 25 2 = true by decide +kernel) rfl (bE hx'1) ?_
 intro w14 p14
 have x14 : Ext w12 w14 := x13.move p14.mv (by rintro k ⟨⟩; exact Nat.le_refl _)
 have x1114 := x12.trans x14
 have hx14 := hx11.trans x1114
 have hl14 := hl11.ext x1114
 have hz14 := hz11.ext x1114
 have hy14 := hy11.ext x1114
 have hp14 := hp11.ext x1114
 have hq14 := hq11.ext x1114
 have hr14 := hr11.ext x1114
 have hxx14 := hxx11.ext x1114
 clear p14 h13 x13 hl11 hz11 hy11 hp11 hq11 hr11 hxx11 hI2 hx' hc11 s13
 generalize w12.heap.size = bc at *
 refine_lift gX fun _ _ => ?_
 refine bH (enters_of Tryz.func14 rfl rfl) rfl rfl (MH [1, 97] z mN 5 _ hz14 (by decide) IG) ?_
 rintro e w15 (⟨hne, -⟩ | ⟨-, b, rfl, hJ⟩)
 ·exact absurd TR hne
 refine ⟨_, rfl, ?_⟩
 refine aA ?_
 have x15 := hJ.ext
 have hO := CQ TR
 have hx15 := hx14.trans x15
 have hq15 := hq14.ext x15
 refine_lift gX fun _ _ => ?_
 refine bH (enters_of Tryz.func16 rfl rfl) rfl rfl (BG hJ hO [1, 97] y zA hy14 RA RB) ?_
 rintro e w16 ⟨rfl, hk16, hJ16⟩
 refine ⟨_, rfl, ?_⟩
 have hO16 := hO.next [1, 97] zA
 rw [US, UT] at hJ16 hO16
 have x16 := hJ16.ext
 have hx16 := hx14.trans x16
 refine aA ?_
 refine_lift gX fun _ _ => ?_
 have hS := yL hJ16 hO16 RR 5
 rw [UU] at hS
 refine aK (enters_of Tryz.func18 rfl rfl) rfl rfl hS ?_
 rintro _ w17 x17 ⟨mv, rfl, hm⟩
 have x1417 := x16.trans x17
 have hx17 := hx14.trans x1417
 have hl17 := hl14.ext x1417
 have hz17 := hz14.ext x1417
 have hy17 := hy14.ext x1417
 have hp17 := hp14.ext x1417
 have hq17 := hq14.ext x1417
 have hr17 := hr14.ext x1417
 have hxx17 := hxx14.ext x1417
 clear hl14 hz14 hy14 hp14 hq14 hr14 hxx14 hS hJ16 hO16 hk16 hJ hO hq15 x15 hx15 x16 hx16 x17
 refine aA ?_
 refine_lift gX fun _ _ => ?_
 have hI3 := fB [1, 97] z mN [1, 97] mv TO w17 hz17 hm IG RN RO (by decide) (by decide +kernel)
 rw [TS] at hI3
 refine aK (enters_of Tryz.func21 rfl rfl) rfl rfl hI3 ?_
 rintro _ w18 x18 ⟨u, rfl, hu⟩
 have hu := hu.sets
 have hu1 : u.oneCell' = true := by obtain ⟨css, h, _⟩ := hu; exact h.one
 refine aA ?_
 refine_lift dA ?_
 refine aG (z := aM) rfl (by decide +kernel) ?_
 intro w19 x19 s19 h19
 refine aA ?_
 refine aC (v := .agg #[aI [1, 97], u]) rfl rfl rfl h19 (show aO Tryz.prog 25 2 = true by decide +kernel) rfl (bE hu1) ?_
 intro w20 p20
 have x20 : Ext w18 w20 := x19.move p20.mv (by rintro k ⟨⟩; exact Nat.le_refl _)
 have ht20 := aE (cs := [aI [1, 97], u]) p20.this
 have hu20 := hu.ext x20
 have x1720 := x18.trans x20
 have hx20 := hx17.trans x1720
 have hl20 := hl17.ext x1720
 have hz20 := hz17.ext x1720
 have hy20 := hy17.ext x1720
 have hp20 := hp17.ext x1720
 have hq20 := hq17.ext x1720
 have hr20 := hr17.ext x1720
 have hxx20 := hxx17.ext x1720
 have hmL := UY
 clear p20 h19 x19 s19 hl17 hz17 hy17 hp17 hq17 hr17 hxx17 hI3 hu
 generalize w18.heap.size = bu at *
 refine_lift gX fun _ _ => ?_
 refine aQ (v := .agg #[aI [1, 97], .int .i64 252]) rfl (Runs.build rfl (by kernel_rfl)) ?_
 refine aA ?_
 refine bZ (e := 78) (k := 2) (bytes := 24) (xs := [.agg #[aI [1, 97], .int .i64 252]]) rfl rfl rfl (by simp [Value.cells]) (by decide +kernel) (by simp) ?_
 intro qv w21 x21 _ qs _
 refine aA ?_
 have hQ : Sl 2 w21 qv (dL [([1, 97], 252)]) := qs
 have hQ1 := hQ.one
 obtain ⟨qa, qn, qc, rfl⟩ := hQ.slf
 refine aQ (v := .agg (fX IQ (.slice qa qn qc) (.slice none 0 0) (.slice none 0 0) (.slice none 0 0)).toArray) rfl (Runs.build rfl (by kernel_rfl)) ?_
 refine aA ?_
 refine aG (z := RF) rfl (by decide +kernel) ?_
 intro w22 x22 s22 h22
 refine aA ?_
 have hQ22 := PZ _ (hQ.ext x22)
 refine aC (v := .agg (fX IQ (.slice qa qn qc) (.slice none 0 0) (.slice none 0 0) (.slice none 0 0)).toArray) rfl rfl rfl h22 (show aO Tryz.prog 55 13 = true by decide +kernel) rfl (CO hQ22) ?_
 intro w23 p23
 have x23 : Ext w21 w23 := x22.move p23.mv (by rintro k ⟨⟩; exact Nat.le_refl _)
 have hM23 := aE (cs := fX IQ (.slice qa qn qc) (.slice none 0 0) (.slice none 0 0) (.slice none 0 0)) p23.this
 have hQ23 := PZ _ (hQ.ext x23)
 have x2023 := x21.trans x23
 have hx23 := hx20.trans x2023
 have hl23 := hl20.ext x2023
 clear p23 h22 x22 s22 hl20 hQ hQ22 qs x21 x23
 generalize w21.heap.size = bq at *
 refine_lift gX fun _ _ => ?_
 refine bM (Runs.loadN hM23 rfl (show dY Tryz.prog 55 13 = true by decide +kernel)) ?_
 refine aA ?_
 refine_lift dA ?_
 have hP := RI IQ _ _ _ _ l yH 3 w23 hQ23 hl23 (by decide)
 rw [UV] at hP
 refine aK (enters_of Tryz.func26 rfl rfl) rfl rfl hP ?_
 rintro _ w24 x24 ⟨pv, rfl, hpm⟩
 have hpm := hpm.msgs
 have hQ24 := hQ23.ext x24
 have hM24 := hM23.ext x24
 refine aA ?_
 refine_lift gX fun _ _ => ?_
 refine bM (Runs.loadN hM24 rfl (show dY Tryz.prog 55 13 = true by decide +kernel)) ?_
 refine aA ?_
 refine_lift dA ?_
 have hU := ND IQ _ _ _ _ pv (pY IQ yH 3) w24 hQ24 hpm (by rw [TT]; decide) UZ
 rw [UW, UX] at hU
 refine aK (enters_of Tryz.func28 rfl rfl) rfl rfl hU ?_
 rintro _ w25 x25 ⟨rv, rfl, hrv⟩
 have hrv := hrv.sl
 have x2025 := x2023.trans (x24.trans x25)
 have hx25 := hx20.trans x2025
 have hl25 := hl23.ext (x24.trans x25)
 have hz25 := hz20.ext x2025
 have hy25 := hy20.ext x2025
 have hp25 := hp20.ext x2025
 have hq25 := hq20.ext x2025
 have hr25 := hr20.ext x2025
 have ht25 := ht20.ext x2025
 have hxx25 := hxx20.ext x2025
 have hu25 := hu20.ext x2025
 have hm25 := hm.ext (x18.trans (x20.trans x2025))
 obtain ⟨pcs, hps, hpc, -⟩ := (hpm.ext x25).out
 rw [TT] at hpc
 clear hz20 hy20 hp20 hq20 hr20 ht20 hxx20 hu20 hm hl23 hQ24 hM24 hQ23 hM23 hP hU hpm
 refine aA ?_
 have b1 : ((aD yH).length : Int) = 4 := rfl
 have b2 : ((aD TO).length : Int) = 4 := rfl
 have b3 : (pcs.length : Int) = 2 := by rw [hpc]; rfl
 refine_lift DM (fun hc => ?_) (fun _ _ hc => ?_)
 all_goals first
  | exact absurd b1 ‹_›
  | skip
 refine aB (enters_of Tryz.func23 rfl rfl) rfl rfl (iR hxx25 hz25 rfl rfl) ?_; intro w26 x26; refine aA ?_
 have hy26 := hy25.ext x26
 have hp26 := hp25.ext x26
 have hq26 := hq25.ext x26
 have ht26 := ht25.ext x26
 have hu26 := hu25.ext x26
 have hm26 := hm25.ext x26
 have hl26 := hl25.ext x26
 have hps26 := hps.ext x26
 have hrv26 := hrv.ext x26
 clear hxx25 hz25 hy25 hp25 hq25 ht25 hu25 hm25 hl25 hps hrv hr25
 refine_lift NS (fun hc => ?_) (fun hc => ?_)
 all_goals first
  | exact absurd b2 ‹_›
  | skip
 refine aB (enters_of Tryz.func23 rfl rfl) rfl rfl (iR hu26 hy26 rfl rfl) ?_; intro w27 x27; refine aA ?_
 have hl27 := hl26.ext x27
 have hps27 := hps26.ext x27
 have hrv27 := hrv26.ext x27
 clear hu26 hy26 hp26 hq26 ht26 hm26 hl26 hps26 hrv26
 refine_lift NS (fun hc => ?_) (fun hc => ?_)
 all_goals first
  | exact absurd b3 ‹_›
  | skip
 have hsm := OF rv l yH yH w27 hrv27 hl27
 rw [decide_eq_true rfl] at hsm
 refine aB (enters_of Tryz.func13 rfl rfl) rfl rfl (hsm) ?_; intro w28 x28; refine aA ?_
 refine_lift dA ?_
 go_ret
 exact ⟨rfl, hx25.trans ((x26.trans x27).trans x28)⟩
end Go.Proofs.X
