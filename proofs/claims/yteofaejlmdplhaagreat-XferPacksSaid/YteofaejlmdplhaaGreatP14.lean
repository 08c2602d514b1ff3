/- Laws and walks that the proof of the statement is made of (part 14). -/
import Derived.Test.YteofaejlmdplhaaGreatP13
set_option linter.unusedSimpArgs false
set_option linter.unusedVariables false
namespace Go.Proofs.X
open Go.RowKit
set_option maxRecDepth 100000
theorem mP (r : Rec) (w : World) : Calls Tryz.prog 61 #[.agg #[aH r.name, .int .i64 r.kind, .int .i64 r.ttl, aH r.data]] w (bC w (.bool (aS r))) := by
 go_enter Tryz.func61, Tryz.ntmps61
 refine_lift gT fun _ _ => ?_
 refine aT (vs := [aH r.name, .int .i64 r.kind, .int .i64 r.ttl, aH r.data]) rfl rfl ?_
 intro p w1 x1 hp
 refine aA ?_
 refine_lift aP ?_
 go_ret
 exact ⟨rfl, x1⟩
theorem BD (a b : Rec) (w : World) : Calls Tryz.prog 90 #[.agg #[aH a.name, .int .i64 a.kind, .int .i64 a.ttl, aH a.data], .agg #[aH b.name, .int .i64 b.kind, .int .i64 b.ttl, aH b.data]] w (bC w (.int .i64 (tP a b))) := by
 go_enter Tryz.func90, Tryz.ntmps90
 refine_lift gT fun _ _ => ?_
 refine aT (vs := [aH a.name, .int .i64 a.kind, .int .i64 a.ttl, aH a.data]) rfl rfl ?_
 intro p w1 x1 hp
 refine aA ?_
 refine aT (vs := [aH b.name, .int .i64 b.kind, .int .i64 b.ttl, aH b.data]) rfl rfl ?_
 intro q w2 x2 hq
 refine aA ?_
 refine_lift gO fun _ _ _ _ => ?_
 have hp2 := hp.ext x2
 refine bE (by decide +kernel) (by decide +kernel) ?_
 refine_lift dN ?_
 refine bY (enters_of Tryz.func61 rfl rfl) rfl rfl (fun w' _ => mP a w') ?_
 refine aA ?_
 refine_lift dN ?_
 refine bY (enters_of Tryz.func61 rfl rfl) rfl rfl (fun w' _ => mP b w') ?_
 refine aA ?_
 refine_lift dN ?_
 refine eY (fun w' _ => Runs.eqlB (a := aS a) (b := aS b) rfl rfl (by decide +kernel)) ?_
 refine aA ?_
 refine_lift dN ?_
 intro w3 x3
 have hp3 := hp2.ext x3
 cases ha : aS a <;> cases hb : aS b
 ·have e : tP a b = 0 := by simp [tP, ha, hb]
  refine_lift fG fun _ => ?_
  go_ret
  exact ⟨by rw [e]; rfl, (x1.trans x2).trans x3⟩
 ·have e : tP a b = 1 := by simp [tP, ha, hb]
  refine_lift kT fun _ _ _ => ?_
  refine aB (enters_of Tryz.func61 rfl rfl) rfl rfl (mP a _) ?_; intro w4 x4; refine aA ?_
  rw [ha]
  refine_lift aP ?_
  go_ret
  exact ⟨by rw [e]; rfl, ((x1.trans x2).trans x3).trans x4⟩
 ·have e : tP a b = -1 := by simp [tP, ha, hb]
  refine_lift kT fun _ _ _ => ?_
  refine aB (enters_of Tryz.func61 rfl rfl) rfl rfl (mP a _) ?_; intro w4 x4; refine aA ?_
  rw [ha]
  refine_lift aP ?_
  go_ret
  exact ⟨by rw [e]; rfl, ((x1.trans x2).trans x3).trans x4⟩
 ·have e : tP a b = 0 := by simp [tP, ha, hb]
  refine_lift fG fun _ => ?_
  go_ret
  exact ⟨by rw [e]; rfl, (x1.trans x2).trans x3⟩
section
variable {P : Program} {w w' : World} {d : Option Nat} {ty : TypeId} {ps : String} {af : Array Edge} {g : Option (Nat × Bool)}
theorem Runs.pred {t u : TypeId} {x y : Operand} {a : Act} {m : Nat} (hx : a.eval x = .int .i64 ((m + 1 : Nat) : Int)) (hy : a.eval y = .int .i64 1) (h : m < 4611686018427387904) :
 Runs P (Oper.mk d (.binOp .sub t x y u) ty ps af g) a w (.int .i64 (m : Nat)) := by
 have h1 := Runs.sub (P := P) (w := w) (d := d) (ty := ty) (ps := ps) (af := af) (g := g) (t := t) (u := u) hx hy (by omega)
 rwa [show ((m + 1 : Nat) : Int) - 1 = (m : Nat) by omega] at h1
end
section
variable {P : Program} {w w' : World} {d : Option Nat} {ty : TypeId} {ps : String} {af : Array Edge} {g : Option (Nat × Bool)}
theorem Runs.addN {t u : TypeId} {x y : Operand} {a : Act} {m n : Nat} (hx : a.eval x = .int .i64 (m : Nat)) (hy : a.eval y = .int .i64 (n : Nat)) (h : m + n < 4611686018427387904) :
 Runs P (Oper.mk d (.binOp .add t x y u) ty ps af g) a w (.int .i64 ((m + n : Nat) : Int)) := by
 have h1 := Runs.add (P := P) (w := w) (d := d) (ty := ty) (ps := ps) (af := af) (g := g) (t := t) (u := u) hx hy (by omega)
 rwa [show (m : Int) + (n : Int) = ((m + n : Nat) : Int) by omega] at h1
theorem Runs.add0 {t u : TypeId} {x y : Operand} {a : Act} {m : Nat} (hx : a.eval x = .int .i64 (m : Nat)) (hy : a.eval y = .int .i64 ((0 : Nat) : Int)) (h : m < 4611686018427387904) :
 Runs P (Oper.mk d (.binOp .add t x y u) ty ps af g) a w (.int .i64 (m : Nat)) := Runs.addN (n := 0) hx hy h
end
section
variable {P : Program} {ops : Array Oper} {rest : List Oper} {ts : List Value} {df : List Deferred} {ty : TypeId} {ps : String} {af : Array Edge} {g : Option (Nat × Bool)} {tys : Array TypeId}
theorem oI {w0 : World} {QQ : Act → Prop} {f : FuncId} {m d : Nat} {caps : Array Value} {xs : List Operand} {vs : List Value} {v : Value} (he : Enters P f) (hw : Region.wanted (Oper.mk (some d) (.call ⟨.value (.tmp m), xs.toArray, tys⟩) ty ps af g) (yielded ops ts.toArray) = true)
 (hm : ts.getD m undef = .func (.func f) #[] caps) (hxs : xs.map (Act.mk ts.toArray df).eval = vs) (hc : ∀ w, Ext w0 w → Calls P f (vs.toArray ++ caps) w (bC w v)) (h : wpQuiet P ops (Ext w0) QQ rest (Act.mk (ts.set d v).toArray df)) :
 wpQuiet P ops (Ext w0) QQ (Oper.mk (some d) (.call ⟨.value (.tmp m), xs.toArray, tys⟩) ty ps af g :: rest) (Act.mk ts.toArray df) := by
 subst hxs
 unfold wpQuiet
 rw [if_pos hw]
 refine ⟨v, fun w hx => ?_, by simpa [Act.put] using h⟩
 have e1 : (Act.mk ts.toArray df).eval (.tmp m) = .func (.func f) #[] caps := by rw [eM]; exact hm
 have hr : (execOp (Act.mk ts.toArray df).eval (Oper.mk (some d) (.call ⟨.value (.tmp m), xs.toArray, tys⟩) ty ps af g)).run P w = .ok (.enter f ((xs.map (Act.mk ts.toArray df).eval).toArray ++ caps)) w := by
  have h1 := he ((xs.map (Act.mk ts.toArray df).eval).toArray ++ caps) w
  simpa [execOp, resolve, e1, Deferred.ofValue, invoke] using h1
 unfold Oper.quietAt
 rw [hr]
 exact ⟨rfl, (hc w hx).mono fun e w' ⟨h1, h2⟩ => ⟨h1, hx.trans h2⟩⟩
end
def NM (D : List Rec) (i j : Nat) : List Rec := (D.set i (D.getD j bM)).set j (D.getD i bM)
theorem fS (D : List Rec) (i : Nat) (r : Rec) : (aC D).set i r.cells = aC (D.set i r) := by
 unfold aC; rw [List.map_set]
theorem oL {D : List Rec} {i : Nat} (h : i < D.length) : (aC D)[i]? = some (D.getD i bM).cells := by
 rw [aC, List.getElem?_map, List.getElem?_eq_getElem h, List.getD_eq_getElem?_getD, List.getElem?_eq_getElem h]
 rfl
theorem Rec.cells1 (r : Rec) : ∀ u ∈ r.cells, u.oneCell' = true := by
 intro u hu
 simp only [Rec.cells, List.mem_cons, List.not_mem_nil, or_false] at hu
 rcases hu with rfl | rfl | rfl | rfl <;> rfl
set_option maxHeartbeats 4000000 in
theorem GY {B : Nat} (v : Value) (D : List Rec) (i j : Nat) (f : Value) (w : World) (ho : Own B 4 47 w v (aC D)) (hi : i < D.length) (hj : j < D.length) (hl : D.length ≤ 1000000) :
 Calls Tryz.prog 239 #[v, .int .i64 i, .int .i64 j, .int .i64 1, f] w fun e w' => e = .returned (.tuple #[]) ∧ Own B 4 47 w' v (aC (NM D i j)) ∧ Mv v.ownBlock w w' := by
 go_enter Tryz.func239, Tryz.ntmps239
 refine_lift fG ?_; intro _
 go_loopw [10] (fun a wr => ∃ k : Nat, k ≤ 1 ∧ a = .int .i64 k ∧ Own B 4 47 wr v (aC (if k = 0 then D else NM D i j)) ∧ Mv v.ownBlock w wr) (fun a _ => 1 - (intOf a).toNat)
 case atStart => exact ⟨0, Nat.zero_le _, rfl, ho, Mv.refl _ _⟩
 case round =>
  obtain ⟨k, hk, rfl, ho1, m1⟩ := hrel
  by_cases hk0 : k = 0
  ·subst hk0
   rw [if_pos rfl] at ho1
   have hs := ho1.sl
   have hlen := aG D
   have hei : Pts wr (bU v (i * 4)) [aH (D.getD i bM).name, .int .i64 (D.getD i bM).kind, .int .i64 (D.getD i bM).ttl, aH (D.getD i bM).data] := hs.elem (oL hi)
   have hej : Pts wr (bU v (j * 4)) [aH (D.getD j bM).name, .int .i64 (D.getD j bM).kind, .int .i64 (D.getD j bM).ttl, aH (D.getD j bM).data] := hs.elem (oL hj)
   refine_lift gO ?_; intro _ _ _ _
   refine bT 21 (Ext wr) (by decide +kernel) ?_
   intro w1 x1 _
   refine ⟨x1, ?_⟩
   refine iB 0 ?_; refine iB 1 ?_; refine iB 2 ?_
   refine jL 3 rfl (fun _ => Runs.add0 (m := i) rfl rfl (by omega)) ?_; refine aA ?_
   refine iB 4 ?_; refine iB 5 ?_; refine iB 6 ?_
   refine jL 7 rfl (fun _ => Runs.add0 (m := j) rfl rfl (by omega)) ?_; refine aA ?_
   refine iB 8 ?_; refine iB 9 ?_; refine iB 10 ?_
   refine jL 11 rfl (fun _ => Runs.add0 (m := j) rfl rfl (by omega)) ?_; refine aA ?_
   refine dR 12 ?_; refine dR 13 ?_
   refine iB 14 ?_; refine iB 15 ?_; refine iB 16 ?_
   refine jL 17 rfl (fun _ => Runs.add0 (m := i) rfl rfl (by omega)) ?_; refine aA ?_
   refine dR 18 ?_; refine dR 19 ?_
   refine jL 20 rfl (fun _ => Runs.idxW (n := i) rfl hs (by omega) (by decide +kernel)) ?_; refine aA ?_
   have ho2 := ho1.ext x1
   refine bL (i := 21) (by decide +kernel) rfl rfl ?_
   refine eT (i := i) (f := (D.getD j bM).cells) rfl rfl rfl ho2 (by omega) rfl rfl (Rec.cells1 _) (by decide +kernel) ?_
   intro w2 o2 m2
   refine aK ⟨bV rfl, ?_⟩
   refine jL 22 rfl (fun _ => Runs.idxW (n := j) rfl hs (by omega) (by decide +kernel)) ?_; refine aA ?_
   refine bL (i := 23) (by decide +kernel) rfl rfl ?_
   refine eT (i := j) (f := (D.getD i bM).cells) rfl rfl rfl o2 (by rw [List.length_set]; omega) rfl rfl (Rec.cells1 _) (by decide +kernel) ?_
   intro w3 o3 m3
   refine aK ⟨bV rfl, ?_⟩
   refine cN (by decide +kernel) ?_
   rw [fS, fS] at o3
   refine_lift aP ?_
   exact ⟨⟨1, Nat.le_refl _, by go_num, by rw [if_neg (by omega)]; exact o3, ((m1.trans (x1.mv _)).trans m2).trans m3⟩, by simp [intOf]⟩
  ·have : k = 1 := by omega
   subst this
   rw [if_neg hk0] at ho1
   refine_lift fG fun _ => ?_
   go_end0
   exact ⟨rfl, ho1, m1⟩
theorem BE {x : Option Rec} {os : List Rec} {q i j : Nat} (h : Sx x os q) (hi : i < oT x os) (hj : j < oT x os) : decide (tP ((iN x os q).getD i bM) ((iN x os q).getD j bM) < 0) = (decide (i = q) && !decide (j = q)) := by
 obtain ⟨r, h1, h2⟩ := GW h hi
 obtain ⟨s, h3, h4⟩ := GW h hj
 rw [NL, List.getD_eq_getElem?_getD, List.getD_eq_getElem?_getD, h1, h3]
 simp only [Option.getD_some, h2, h4]
theorem FP {x : Option Rec} {os : List Rec} {q : Nat} (h : Sx x os (q + 1)) (hq : q + 1 < oT x os) : NM (iN x os (q + 1)) (q + 1) q = iN x os q ∧ NM (iN x os (q + 1)) q (q + 1) = iN x os q := by
 obtain ⟨a, b, h1, h2, h3, h4⟩ := LL h hq
 unfold NM
 rw [List.getD_eq_getElem?_getD, List.getD_eq_getElem?_getD, h1, h2]
 exact ⟨h3, h4⟩
def kW (a b q : Nat) : Nat := if a ≤ q ∧ q < b then a else q
set_option maxHeartbeats 4000000 in
theorem tF {B : Nat} (v : Value) (x : Option Rec) (os : List Rec) (q a b : Nat) (w : World) (h : Sx x os q) (ho : Own B 4 47 w v (aC (iN x os q))) (hab : a ≤ b) (hb : b ≤ oT x os) (hl : oT x os ≤ 1000000) :
 Calls Tryz.prog 188 #[v, .int .i64 a, .int .i64 b, .func (.func 90) #[] #[]] w fun e w' => e = .returned (.tuple #[]) ∧ Own B 4 47 w' v (aC (iN x os (kW a b q))) ∧ Mv v.ownBlock w w' := by
 go_enter Tryz.func188, Tryz.ntmps188
 refine_lift fG ?_; intro _
 go_loopw [8, 9] (fun i _ wr => ∃ k : Nat, a + 1 ≤ k ∧ (k ≤ b ∨ k = a + 1) ∧ i = .int .i64 k ∧ Own B 4 47 wr v (aC (iN x os (kW a k q))) ∧ Mv v.ownBlock w wr) (fun i _ _ => b - (intOf i).toNat)
 case atStart =>
  refine ⟨a + 1, Nat.le_refl _, .inr rfl, by go_num, ?_, Mv.refl _ _⟩
  have : kW a (a + 1) q = q := by unfold kW; split <;> omega
  rw [this]; exact ho
 case round =>
  obtain ⟨k, hk, hk2, rfl, ho1, m1⟩ := hrel
  by_cases hlt : k < b
  ·refine_lift gO ?_; intro _ _ _ _
   have hq : Sx x os (kW a k q) := by
    unfold kW; split
    ·exact h.to (by omega) (by omega)
    ·exact h
   have hqk : kW a k q = q ∨ kW a k q = a := by unfold kW; split <;> simp
   obtain ⟨Q, hQe⟩ : ∃ Q, Q = kW a k q := ⟨_, rfl⟩
   rw [← hQe] at ho1 hq hqk
   go_loopw [9] (fun j w2 => ∃ m : Nat, a ≤ m ∧ m ≤ k ∧ (Q ≠ k → m = k) ∧ j = .int .i64 m ∧ Own B 4 47 w2 v (aC (iN x os (if Q = k then m else Q))) ∧ Mv v.ownBlock w w2) (fun j _ => (intOf j).toNat)
   case atStart =>
    have e : (if Q = k then k else Q) = Q := by split <;> omega
    exact ⟨k, by omega, Nat.le_refl _, fun _ => rfl, rfl, by rw [e]; exact ho1, m1⟩
   case round =>
    obtain ⟨m, hm1, hm2, hm3, rfl, ho2, m2⟩ := hrel
    refine_lift TN ?_; intro _ _ _ _ _
    refine bE (by decide +kernel) (by decide +kernel) ?_
    refine_lift dN ?_
    have hQk : Q = k → k < oT x os := fun _ => by omega
    obtain ⟨s, hs⟩ : ∃ s, s = (if Q = k then m else Q) := ⟨_, rfl⟩
    rw [← hs] at ho2
    have hS : Sx x os s := by
     rw [hs]; split
     ·rename_i e; exact hq.to (by omega) (by omega)
     ·exact hq
    have hDl := oH hS
    have hrl := aG (iN x os s)
    have hsl := ho2.sl
    by_cases hma : a < m
    ·obtain ⟨n, rfl⟩ : ∃ n, m = n + 1 := ⟨m - 1, by omega⟩
     have hcm := BE hS (i := n + 1) (j := n) (by omega) (by omega)
     have hl1 : n + 1 < (iN x os s).length := by omega
     have hl2 : n < (iN x os s).length := by omega
     have g1 := oL hl1
     have g2 := oL hl2
     generalize hA : (iN x os s).getD (n + 1) bM = A at *
     generalize hC : (iN x os s).getD n bM = C at *
     have he1 : Pts wr (bU v ((n + 1) * 4)) [aH A.name, .int .i64 A.kind, .int .i64 A.ttl, aH A.data] := hsl.elem g1
     have he2 : Pts wr (bU v (n * 4)) [aH C.name, .int .i64 C.kind, .int .i64 C.ttl, aH C.data] := hsl.elem g2
     rw [decide_eq_true (by omega : (a : Int) < ((n + 1 : Nat) : Int))]
     have he3 : Pts wr (bU v ((((n + 1 : Nat) : Int) - 1).toNat * 4)) [aH C.name, .int .i64 C.kind, .int .i64 C.ttl, aH C.data] := by
      rw [show (((n + 1 : Nat) : Int) - 1).toNat = n by omega]; exact he2
     refine_lift dN ?_
     refine oI (enters_of Tryz.func90 rfl rfl) rfl rfl rfl (fun w' _ => BD A C w') ?_
     refine aA ?_
     refine_lift dN ?_
     rw [hcm]
     refine_lift dN ?_
     intro w3 x3
     have ho3 := ho2.ext x3
     have hmv3 := (m2.trans (x3.mv _))
     by_cases hsm : n + 1 = s
     ·rw [decide_eq_true hsm, decide_eq_false (by omega : ¬ n = s)]
      simp only [Bool.not_false, Bool.and_true]
      refine_lift bS fun _ _ => ?_
      refine bT 15 (Ext w3) (by decide +kernel) ?_
      intro w4 x4 _
      refine ⟨x4, ?_⟩
      have hsl3 := ho3.sl
      refine iB 0 ?_; refine iB 1 ?_; refine iB 2 ?_; refine iB 3 ?_
      refine jL 4 rfl (fun _ => Runs.pred (m := n) rfl rfl (by omega)) ?_; refine aA ?_
      refine iB 5 ?_; refine iB 6 ?_
      refine jL 7 rfl (fun _ => Runs.pred (m := n) rfl rfl (by omega)) ?_; refine aA ?_
      refine dR 8 ?_; refine dR 9 ?_
      refine iB 10 ?_; refine iB 11 ?_
      refine dR 12 ?_; refine dR 13 ?_
      refine jL 14 rfl (fun _ => Runs.idxW (n := n + 1) rfl hsl3 (by omega) (by decide +kernel)) ?_; refine aA ?_
      refine bL (i := 15) (by decide +kernel) rfl rfl ?_
      refine eT (i := n + 1) (f := C.cells) rfl rfl rfl (ho3.ext x4) (by omega) rfl rfl (Rec.cells1 _) (by decide +kernel) ?_
      intro w5 o5 m5
      refine aK ⟨bV rfl, ?_⟩
      refine jL 16 rfl (fun _ => Runs.idxW (n := n) rfl hsl3 (by omega) (by decide +kernel)) ?_; refine aA ?_
      refine bL (i := 17) (by decide +kernel) rfl rfl ?_
      refine eT (i := n) (f := A.cells) rfl rfl rfl o5 (by rw [List.length_set]; omega) rfl rfl (Rec.cells1 _) (by decide +kernel) ?_
      intro w6 o6 m6
      refine aK ⟨bV rfl, ?_⟩
      refine cN (by decide +kernel) ?_
      rw [fS, fS] at o6
      subst hsm
      have hsw := (FP hS (by omega)).1
      unfold NM at hsw
      rw [hA, hC] at hsw
      rw [hsw] at o6
      have hQ : Q = k := by
       by_cases e : Q = k
       ·exact e
       ·rw [if_neg e] at hs; have := hm3 e; omega
      refine_lift aP ?_
      refine ⟨⟨n, by omega, by omega, fun e => absurd hQ e, by go_num, by rw [if_pos hQ]; exact o6, ((hmv3.trans (x4.mv _)).trans m5).trans m6⟩, by simp [intOf]⟩
     ·rw [decide_eq_false hsm]
      simp only [Bool.false_and]
      have hQ : Q ≠ k := by
       intro e
       rw [if_pos e] at hs
       exact hsm hs.symm
      rw [if_neg hQ] at hs
      have hm := hm3 hQ
      have e : kW a (k + 1) q = s := by
       rw [hs, hQe]
       unfold kW at hQe ⊢
       split at hQe <;> split <;> omega
      refine_lift aP ?_
      refine ⟨⟨k + 1, by omega, .inl (by omega), rfl, by rw [e]; exact ho3, hmv3⟩, by simp [intOf]; omega⟩
    ·have hma' : m = a := by omega
     subst hma'
     have hQ : Q = k := by
      by_cases e : Q = k
      ·exact e
      ·have := hm3 e; omega
     rw [if_pos hQ] at hs
     have e : kW m (k + 1) q = s := by
      rw [hs]
      unfold kW at hQe ⊢
      split at hQe <;> split <;> omega
     rw [decide_eq_false (by omega : ¬ ((m : Int) < (m : Int)))]
     refine_lift dN ?_
     intro w3 x3
     have ho3 := ho2.ext x3
     have hmv3 := (m2.trans (x3.mv _))
     refine_lift aP ?_
     refine ⟨⟨k + 1, by omega, .inl (by omega), rfl, by rw [e]; exact ho3, hmv3⟩, by simp [intOf]; omega⟩
  ·refine_lift fG fun _ => ?_
   go_end0
   have e : kW a k q = kW a b q := by
    rcases hk2 with hk2 | hk2
    ·rw [show k = b by omega]
    ·unfold kW
     split <;> split <;> omega
   exact ⟨rfl, by rw [← e]; exact ho1, m1⟩
def OI (f : FuncId) (l : List Rec) (p : Rec → Bool) : Prop := ∀ r ∈ l, ∀ w', Calls Tryz.prog f #[.agg #[aH r.name, .int .i64 r.kind, .int .i64 r.ttl, aH r.data]] w' (bC w' (.bool (p r)))
set_option maxHeartbeats 3000000 in
theorem rC (v : Value) (l : List Rec) (f : FuncId) (p : Rec → Bool) (w : World) (hv : Sl 4 w v (aC l)) (he : Enters Tryz.prog f) (hf : OI f l p) : Calls Tryz.prog 107 #[v, .func (.func f) #[] #[]] w (bC w (.int .i64 (mG p l))) := by
 have hle := hv.le
 have hlen := aG l
 go_enter Tryz.func107, Tryz.ntmps107
 refine_lift bS fun _ _ => ?_
 go_loopw [5, 8] (fun _ i wr => ∃ k : Nat, k ≤ l.length ∧ i = .int .i64 k ∧ Ext w wr ∧ (l.take k).any p = false) (fun _ i _ => l.length - (intOf i).toNat)
 case atStart => exact ⟨0, Nat.zero_le _, rfl, Ext.refl _, rfl⟩
 case round =>
  obtain ⟨k, hk, rfl, hx, hall⟩ := hrel
  have hv2 := hv.ext hx
  by_cases hlt : k < l.length
  ·have hpe := hv2.elem (dI hlt)
   refine_lift nX ?_; intro _ _ _ _ _ _
   refine eF he rfl rfl rfl (hf _ (List.getElem_mem hlt) _) ?_
   rintro e w2 ⟨rfl, x2⟩
   refine ⟨_, rfl, ?_⟩
   refine aA ?_
   cases hp : p l[k] with
   | true =>
    refine_lift aP ?_
    go_ret
    exact ⟨by rw [rU hlt hall hp]; rfl, hx.trans x2⟩
   | false =>
    refine_lift aP ?_
    exact ⟨⟨k + 1, by omega, by go_num, hx.trans x2, fR hlt hall hp⟩, by simp [intOf]; omega⟩
  ·have : k = l.length := by omega
   subst this
   rw [List.take_length] at hall
   refine_lift fG fun _ => ?_
   go_ret
   exact ⟨by rw [rV hall]; rfl, hx⟩
theorem jE (v : Value) (l : List Rec) (f : FuncId) (p : Rec → Bool) (w : World) (hv : Sl 4 w v (aC l)) (he : Enters Tryz.prog f) (hf : OI f l p) : Calls Tryz.prog 58 #[v, .func (.func f) #[] #[]] w (bC w (.bool (l.any p))) := by
 go_enter Tryz.func58, Tryz.ntmps58
 refine_lift bS fun _ _ => ?_
 refine aB (enters_of Tryz.func107 rfl rfl) rfl rfl (rC v l f p _ hv he hf) ?_; intro w1 x1; refine aA ?_
 refine_lift aP ?_
 go_ret
 exact ⟨by rw [← qU]; rfl, x1⟩
theorem FQ (r : Rec) (w : World) : Calls Tryz.prog 59 #[.agg #[aH r.name, .int .i64 r.kind, .int .i64 r.ttl, aH r.data]] w (bC w (.bool (!decide (aV r = 0)))) := by
 go_enter Tryz.func59, Tryz.ntmps59
 refine_lift gT fun _ _ => ?_
 refine aT (vs := [aH r.name, .int .i64 r.kind, .int .i64 r.ttl, aH r.data]) rfl rfl ?_
 intro p w1 x1 hp
 refine aA ?_
 refine_lift bS fun _ _ => ?_
 refine aB (enters_of Tryz.func60 rfl rfl) rfl rfl (RB r _) ?_; intro w2 x2; refine aA ?_
 refine_lift aP ?_
 go_ret
 exact ⟨rfl, x1.trans x2⟩
theorem DV : ∀ m : List Rec, mG aS m = -1 ∧ nextSoa m = m.length ∨ mG aS m = (nextSoa m : Int) ∧ nextSoa m < m.length
 | [] => .inl ⟨rfl, rfl⟩
 | r :: t => by
   unfold mG nextSoa
   rw [List.findIdx?_cons]
   by_cases h : aS r = true
   ·rw [if_pos h, if_pos h]
    exact .inr ⟨rfl, by simp⟩
   ·rw [if_neg h, if_neg h]
    have ih := DV t
    unfold mG at ih
    cases hf : t.findIdx? aS with
    | none =>
     rw [hf] at ih
     rcases ih with ⟨_, h2⟩ | ⟨h1, _⟩
     ·exact .inl ⟨rfl, by rw [h2, List.length_cons]⟩
     ·exfalso
      simp only at h1
      omega
    | some i =>
     rw [hf] at ih
     simp only at ih
     rcases ih with ⟨h1, _⟩ | ⟨h1, h2⟩
     ·omega
     ·refine .inr ⟨?_, by simp; omega⟩
      simp only [Option.map_some]
      omega
theorem parts {v : Value} {l : List Rec} {w : World} (hv : Sl 4 w v (aC l)) {n : Nat} (hn : n ≤ l.length) : Sl 4 w (cW v 4 0 n) (aC (l.take n)) ∧ Sl 4 w (cW v 4 n l.length) (aC (l.drop n)) := by
 have hlen := aG l
 have a := hv.cut (m := 0) (n := n) (by omega) (by omega)
 have b := hv.cut (m := n) (n := l.length) (by omega) (by omega)
 rw [← hlen, List.take_length, hlen] at b
 exact ⟨by simpa [aC, List.map_take] using a, by simpa [aC, List.map_drop] using b⟩
set_option maxHeartbeats 3000000 in
theorem LN (v : Value) (l : List Rec) (w : World) (hv : Sl 4 w v (aC l)) (hne : l ≠ []) (hl : l.length ≤ 1000000) : Calls Tryz.prog 167 #[v] w (bC w (.tuple #[cW v 4 0 (partN l), cW v 4 (partN l) l.length])) := by
 have hlen := aG l
 have hpos : 1 ≤ l.length := List.length_pos_iff.2 hne
 have hd1 := hv.cut (m := 1) (n := (aC l).length) (by omega) (Nat.le_refl _)
 rw [List.take_length, show (aC l).drop 1 = aC (l.drop 1) by simp [aC, List.map_drop]] at hd1
 go_enter Tryz.func167, Tryz.ntmps167
 refine_lift bS fun _ _ => ?_
 refine aB (enters_of Tryz.func107 rfl rfl) rfl rfl (rC _ (l.drop 1) _ aS w hd1 (enters_of Tryz.func61 rfl rfl) (fun r _ w' => mP r w')) ?_; intro w2 x2; refine aA ?_
 have hv2 := hv.ext x2
 have hq := fC hne
 have hpn : partN l = 1 + nextSoa (l.drop 1) := rfl
 rcases DV (l.drop 1) with ⟨h1, h2⟩ | ⟨h1, h2⟩
 ·rw [h1]
  have e : partN l = l.length := by rw [hpn, h2, List.length_drop]; omega
  refine_lift kT fun _ _ _ => ?_
  rw [show ((aC l).length : Int) = ((partN l : Nat) : Int) by rw [hlen, e]]
  refine bE (by decide +kernel) (by decide +kernel) ?_
  refine_lift dN ?_
  intro w3 x3
  refine_lift aP ?_
  go_ret2
  exact ⟨by rw [hlen]; rfl, x2.trans x3⟩
 ·rw [h1]
  refine_lift kT fun _ _ _ => ?_
  rw [show (1 : Int) + (nextSoa (l.drop 1) : Int) = ((partN l : Nat) : Int) by rw [hpn]; omega]
  refine bE (by decide +kernel) (by decide +kernel) ?_
  refine_lift dN ?_
  intro w3 x3
  refine_lift aP ?_
  go_ret2
  exact ⟨by rw [hlen]; rfl, x2.trans x3⟩
def DW (v : Value) : Nat := match v with | .slice _ n _ => n | _ => 0
theorem Sl.slLen {k : Nat} {w : World} {v : Value} {es : List (List Value)} (h : Sl k w v es) : DW v = es.length := by
 obtain ⟨a, cap, rfl, _⟩ := h
 rfl
def ZEU (B : Nat) (q : ZE) (r : Value) (w' : World) : Prop := ∃ y, r = .tuple #[.agg #[aH q.o, y], .int .i64 q.e] ∧ SetsO B w' y q.l
theorem ZEU.bad {B : Nat} {e : Int} {w' : World} : ZEU B (ZE.bad e) (.tuple #[.agg aZ.toArray, .int .i64 e]) w' := ⟨.slice none 0 0, rfl, SetsO.nil _ _⟩
theorem zW {l : List Rec} (h : l ≠ []) : (aC l)[0]? = some [aH (cC l).name, .int .i64 (cC l).kind, .int .i64 (cC l).ttl, aH (cC l).data] := by
 cases l with
 | nil => exact absurd rfl h
 | cons r t => rfl
theorem qE {l : List Rec} (h : l ≠ []) : cC l ∈ l := by
 cases l with
 | nil => exact absurd rfl h
 | cons r t => exact List.mem_cons_self
section
variable {P : Program} {a : Act} {w : World} {Q : Exit → Act → World → Prop}
theorem xZ {c body : Code} (l : Nat) (J : Act → World → Prop) (μ : Act → World → Nat) (hf : findLabel c l = some (Code.skip.seq body))
 (pass : ∀ a w, J a w → body.wp P (Exit.jump l (fun a' w' => J a' w' ∧ μ a' w' < μ a w) Q) a w)
 (first : (∀ a w, J a w → body.wp P (Exit.jump l J Q) a w) → c.wp P (Exit.jump l J Q) a w) : (Code.scope c).wp P Q a w :=
 wp_scope_jumps l J μ hf (first fun a w h => wp_mono (pass a w h) (by intro e a' w' hq; cases e <;> first | exact hq | exact ⟨hq.1, hq.2.1⟩)) (fun a w h => by
  have h' := pass a w h
  apply wp_seq_k
  intro K hK
  apply wp_skip
  exact hK _ _ h')
end
set_option maxHeartbeats 8000000 in
theorem IK (o : List UInt8) (v : Value) (l : List RSet) (rv : Value) (rs : List Rec) (w : World) (hv : SetsAt w v l) (hr : Sl 4 w rv (aC rs)) (bl : ∀ s ∈ l, s.data.length ≤ 1000000) (dl : ∀ s ∈ l, ∀ d ∈ s.data, d.length ≤ 1000000) (h1 : (aL l).length ≤ 5000) (h2 : rs.length ≤ 5000) (dn : ∀ q ∈ rs, q.data.length ≤ 1000000) (hne : rs ≠ []) :
 Calls Tryz.prog 111 #[.agg #[aH o, v], rv] w (jK w (ZEU w.heap.size (oS o l rs))) := by
 go_enter Tryz.func111, Tryz.ntmps111
 refine_lift gT fun _ _ => ?_
 refine dL (vs := [aH o, v]) rfl rfl ?_
 intro w1 x1 s1 hb1
 refine aA ?_
 refine aF (z := aZ) rfl (by decide +kernel) ?_
 intro w2 x2 s2 hb2
 refine aA ?_
 refine_lift aP ?_
 generalize hb1e : w.heap.size = b1 at *
 generalize hb2e : w1.heap.size = b2 at *
 refine xZ 0 (fun a' wr => ∃ (rs' : List Rec) (l' : List RSet) (o' : List UInt8) (v' rv' u6 u7 u8 u9 u10 u11 u12 u13 u14 u15 u16 u17 u18 u19 u20 u21 u22 u23 u24 u25 u26 u27 u28 u29 u30 u31 u32 u33 u34 u35 u36 u37 u38 u39 u40 u41 u42 u43 u44 u45 u46 u47 u48 u49 u50 u51 : Value), a' = Act.mk [.agg #[aH o, v], rv', .pointer (some ⟨b1, 0, none⟩), undef, .pointer (some ⟨b2, 0, none⟩), .int .i64 0, u6, u7, u8, u9, u10, u11, u12, u13, u14, u15, u16, u17, u18, u19, u20, u21, u22, u23, u24, u25, u26, u27, u28, u29, u30, u31, u32, u33, u34, u35, u36, u37, u38, u39, u40, u41, u42, u43, u44, u45, u46, u47, u48, u49, u50, u51].toArray [] ∧
  Sl 4 w rv' (aC rs') ∧ wr.heap[b1]? = some (.cells [aH o', v'].toArray 25 (0, 0)) ∧ wr.heap[b2]? = some (.cells aZ.toArray 25 (0, 0)) ∧ SetsAt wr v' l' ∧ (rs' ≠ [] ∨ SetsO w2.heap.size wr v' l') ∧ oS o l rs = oS o' l' rs' ∧ Ext w wr ∧ w2.heap.size ≤ wr.heap.size ∧ (∀ q ∈ rs', q ∈ rs) ∧ rs'.length ≤ 5000 ∧ (∀ s ∈ l', s.data.length ≤ 1000000) ∧ (∀ s ∈ l', ∀ d ∈ s.data, d.length ≤ 1000000) ∧ (aL l').length ≤ 5000)
  (fun a' _ => DW (a'.tmps.getD 1 undef)) rfl ?_ ?_
 ·rintro a' wr ⟨rs', l', o', v', rv', u6, u7, u8, u9, u10, u11, u12, u13, u14, u15, u16, u17, u18, u19, u20, u21, u22, u23, u24, u25, u26, u27, u28, u29, u30, u31, u32, u33, u34, u35, u36, u37, u38, u39, u40, u41, u42, u43, u44, u45, u46, u47, u48, u49, u50, u51, rfl, hs0, hz, hy, hv', hown, hch, hx, hsz, hmem, hlen, bl', dl', h1'⟩
  have hpz := aE (cs := [aH o', v']) hz
  have hrl := aG rs'
  have hs := hs0.ext hx
  by_cases he : rs' = []
  ·subst he
   have hO : SetsO w2.heap.size wr v' l' := by
    rcases hown with h | h
    ·exact absurd rfl h
    ·exact h
   have hv1' : v'.oneCell' = true := by obtain ⟨_, hq, _⟩ := hv'.sl; exact hq.one
   refine_lift nX ?_; intro _ _ _ _ _ _
   refine aD (v := .agg #[aH o', v']) rfl rfl rfl hy (show aO Tryz.prog 25 2 = true by decide +kernel) rfl (cX hv1') ?_
   intro w3 p3
   refine_lift aP ?_
   simp only [Exit.inBlock, Exit.then, Exit.jump]
   have hb2lt : b2 < w2.heap.size := by omega
   have x3 : Ext w w3 := hx.move p3.mv (by rintro k ⟨⟩; omega)
   have hO3 := hO.put p3 hb2lt
   refine bodyPost_ret (aJ (cs := [aH o', v']) rfl rfl p3.this (show cY Tryz.prog 25 2 = true by decide +kernel)) rfl ⟨_, rfl, x3, ?_⟩
   rw [hch, DQ]
   exact ⟨v', rfl, hO3.weaken (by omega)⟩
  ·have he0 : ¬ ((aC rs').length : Int) = 0 := by
    have := List.length_pos_iff.2 he
    omega
   refine_lift gO ?_; intro _ _ _ _
   all_goals first
    | (exact absurd ‹((aC rs').length : Int) = 0› he0)
    | skip
   have hpn := fC he
   obtain ⟨hg0, hsv0⟩ := parts hs0 hpn.2
   refine aB (enters_of Tryz.func167 rfl rfl) rfl rfl (LN rv' rs' _ hs he (by omega)) ?_; intro w3 x3; refine aA ?_
   generalize cW rv' 4 0 (partN rs') = gv at *
   generalize cW rv' 4 (partN rs') rs'.length = sv at *
   have hg := hg0.ext (hx.trans x3)
   have hsv := hsv0.ext (hx.trans x3)
   refine_lift tK (fun _ _ _ => ?_) (fun _ _ _ _ _ => ?_)
   ·have hre : rs'.drop (partN rs') = [] := by
     have h0 : ((aC (rs'.drop (partN rs'))).length : Int) = 0 := by assumption
     rw [aG] at h0
     exact List.eq_nil_of_length_eq_zero (by omega)
    refine aU (v := .agg aZ.toArray) rfl (Runs.build0 (by kernel_rfl)) ?_
    refine aA ?_
    refine aD (v := .agg aZ.toArray) rfl rfl rfl (x3.at hy) (show aO Tryz.prog 25 2 = true by decide +kernel) rfl (by decide +kernel) ?_
    intro w4 p4
    refine_lift aP ?_
    simp only [Exit.inBlock, Exit.then, Exit.jump]
    have x4 : Ext w w4 := (hx.trans x3).move p4.mv (by rintro k ⟨⟩; omega)
    refine bodyPost_ret (aJ (cs := aZ) rfl rfl p4.this (by decide +kernel)) rfl ⟨_, rfl, x4, ?_⟩
    rw [hch, rY _ _ he, if_pos hre]
    exact ZEU.bad
   ·have hre : rs'.drop (partN rs') ≠ [] := by
     intro e
     have h0 : ¬ ((aC (rs'.drop (partN rs'))).length : Int) = 0 := by assumption
     rw [e] at h0
     exact h0 rfl
    obtain ⟨hc0, htv0⟩ := parts hsv0 (fC hre).2
    refine aB (enters_of Tryz.func167 rfl rfl) rfl rfl (LN sv _ _ hsv hre (by rw [List.length_drop]; omega)) ?_; intro w4 x4; refine aA ?_
    generalize cW sv 4 0 (partN (rs'.drop (partN rs'))) = cv at *
    generalize cW sv 4 (partN (rs'.drop (partN rs'))) (rs'.drop (partN rs')).length = tv at *
    have hc := hc0.ext (hx.trans (x3.trans x4))
    have htv := htv0
    refine_lift bS fun _ _ => ?_
    have hy4 := (x3.trans x4).at hy
    have hz4 := (x3.trans x4).at hz
    have hv4 := hv'.ext (x3.trans x4)
    have hg4 := hg.ext x4
    have hx4 := hx.trans (x3.trans x4)
    have hpz4 := aE (cs := [aH o', v']) hz4
    obtain ⟨gone, hgone⟩ : ∃ gone, gone = rs'.take (partN rs') := ⟨_, rfl⟩
    obtain ⟨rest, hrest⟩ : ∃ rest, rest = rs'.drop (partN rs') := ⟨_, rfl⟩
    obtain ⟨come, hcome⟩ : ∃ come, come = rest.take (partN rest) := ⟨_, rfl⟩
    obtain ⟨tail, htail⟩ : ∃ tail, tail = rest.drop (partN rest) := ⟨_, rfl⟩
    have hstep := rY o' l' he
    rw [← hgone, ← hrest] at hstep
    rw [← hcome, ← htail] at hstep
    rw [← hgone] at hg4
    rw [← hrest, ← hcome] at hc
    rw [← hrest, ← htail] at htv
    rw [← hrest] at hre
    have hgne : gone ≠ [] := by
     intro e
     have h0 := congrArg List.length e
     have := fC he
     rw [hgone, List.length_take, List.length_nil] at h0
     omega
    have hcne : come ≠ [] := by
     intro e
     have h0 := congrArg List.length e
     have := fC hre
     rw [hcome, List.length_take, List.length_nil] at h0
     omega
    have hmg : ∀ q ∈ gone, q ∈ rs := fun q hq => hmem q (List.mem_of_mem_take (hgone ▸ hq))
    have hmr : ∀ q ∈ rest, q ∈ rs := fun q hq => hmem q (List.mem_of_mem_drop (hrest ▸ hq))
    have hmc : ∀ q ∈ come, q ∈ rs := fun q hq => hmr q (List.mem_of_mem_take (hcome ▸ hq))
    have hmt : ∀ q ∈ tail, q ∈ rs := fun q hq => hmr q (List.mem_of_mem_drop (htail ▸ hq))
    have hln : rest.length ≤ rs'.length ∧ come.length ≤ rest.length ∧ tail.length < rest.length := by
     have h3 := fC hre
     rw [hcome, htail, List.length_take, List.length_drop]
     refine ⟨?_, by omega, by omega⟩
     rw [hrest, List.length_drop]; omega
    have hgd := dn _ (hmg _ (qE hgne))
    have hcd := dn _ (hmc _ (qE hcne))
    have pg : Pts w4 (bU gv (0 * 4)) _ := hg4.elem (zW hgne)
    have pc : Pts w4 (bU cv (0 * 4)) _ := hc.elem (zW hcne)
    have hgl : 0 < (aC gone).length := by rw [aG]; exact List.length_pos_iff.2 hgne
    have hcl : 0 < (aC come).length := by rw [aG]; exact List.length_pos_iff.2 hcne
    refine bT 16 (Ext w4) (by decide +kernel) ?_
    intro w5 x5 _
    refine ⟨x5, ?_⟩
    refine dR 0 ?_
    refine iB 1 ?_
    refine jL 2 rfl (fun _ => Runs.idxW (n := 0) rfl hg4 hgl (by decide +kernel)) ?_; refine aA ?_
    refine dR 3 ?_
    refine iB 5 ?_
    refine jL 6 rfl (fun _ => Runs.idxW (n := 0) rfl hc hcl (by decide +kernel)) ?_; refine aA ?_
    refine dR 7 ?_
    refine iB 9 ?_; refine iB 10 ?_
    refine bL (i := 4) (by decide +kernel) rfl rfl ?_
    refine aB (enters_of Tryz.func64 rfl rfl) rfl rfl (qD (cC gone) _ (by omega)) ?_; intro w6 x6; refine aA ?_
    have x56 := x5.trans x6
    refine aK ⟨cQ x56, ?_⟩
    refine bL (i := 8) (by decide +kernel) rfl rfl ?_
    refine aB (enters_of Tryz.func64 rfl rfl) rfl rfl (qD (cC come) _ (by omega)) ?_; intro w7 x7; refine aA ?_
    have x7 := x56.trans x7
    refine aK ⟨cQ x7, ?_⟩
    refine jL 11 (v := .agg #[.int .i64 (kP (cC gone)), .int .i64 (kP (cC come)), gv, cv]) rfl (fun _ => Runs.build rfl (by obtain ⟨_, _, _, rfl⟩ := hg4.slf; obtain ⟨_, _, _, rfl⟩ := hc.slf; kernel_rfl)) ?_; refine aA ?_
    refine bL (i := 12) (by decide +kernel) rfl rfl ?_
    have hD : DelA (iC gone come) (.agg #[.int .i64 (kP (cC gone)), .int .i64 (kP (cC come)), gv, cv]) w7 := ⟨gv, cv, rfl, hg4.ext x7, hc.ext x7⟩
    refine aI (enters_of Tryz.func168 rfl rfl) rfl rfl (NK o' v' l' w7 (hv4.ext x7) hD bl' dl' h1' (by show come.length ≤ 5000; omega) (fun q hq => dn q (hmc q hq))) ?_
    rintro _ w8 x8 ⟨y, rfl, hO⟩
    refine aA ?_
    refine aK ⟨cQ (x7.trans x8), ?_⟩
    refine iB 13 ?_; refine iB 14 ?_; refine iB 15 ?_
    refine bL (i := 16) (by decide +kernel) rfl rfl ?_
    have hy1 : y.oneCell' = true := by obtain ⟨_, hq, _⟩ := hO.sets.sl; exact hq.one
    have hx8 := hx4.trans (x7.trans x8)
    have hz8 := (x7.trans x8).at hz4
    have hy8 := (x7.trans x8).at hy4
    have hsz8 := hx8.size
    have hsz7 := (hx4.trans x7).size
    have hw7 : w2.heap.size ≤ w7.heap.size := Nat.le_trans hsz ((x3.trans x4).trans x7).size
    refine aD (v := .agg #[aH (xS o' l' (iC gone come)), y]) rfl rfl rfl hz8 (show aO Tryz.prog 25 2 = true by decide +kernel) rfl (cX hy1) ?_
    intro w9 p9
    refine aK ⟨bV rfl, ?_⟩
    refine iB 17 ?_
    refine cN (by decide +kernel) ?_
    have x9 : Ext w w9 := hx8.move p9.mv (by rintro k ⟨⟩; omega)
    have hO9 := hO.put p9 (by omega)
    have hy9 := p9.mv.at hy8 (by rintro ⟨⟩; omega)
    by_cases e0 : kE o' l' (iC gone come) = 0
    ·rw [if_neg hre, if_pos e0] at hstep
     obtain ⟨z1, z2⟩ := DR e0
     obtain ⟨j1, j2, j3, j4⟩ := nO z1
     refine_lift kT fun _ _ _ => ?_
     go_step3
     simp only [Exit.inBlock, Exit.then, Exit.jump]
     refine ⟨rfl, ⟨tail, _, _, y, tv, _, _, _, _, _, _, _, _, _, _, _, _, _, _, _, _, _, _, _, _, _, _, _, _, _, _, _, _, _, _, _, _, _, _, _, _, _, _, _, _, _, _, _, _, _, _, rfl, htv, p9.this, hy9, hO9.sets, .inr (hO9.weaken hw7), hch.trans hstep, x9, by have := p9.size; have := x8.size; omega, hmt, by omega, fun s hs => by have := j2 s hs; omega, fun s hs d hd => by have := j3 s hs d hd; omega, by omega⟩, ?_⟩
     show DW tv < DW rv'
     rw [htv.slLen, hs0.slLen, aG, aG]
     omega
    ·rw [if_neg hre, if_neg e0] at hstep
     refine_lift QP (fun _ _ _ _ => ?_) (fun _ _ _ _ => ?_)
     all_goals
      refine aU (v := .agg aZ.toArray) rfl (Runs.build0 (by kernel_rfl)) ?_
      refine aA ?_
      refine_lift aP ?_
      refine aD (v := .agg aZ.toArray) rfl rfl rfl hy9 (show aO Tryz.prog 25 2 = true by decide +kernel) rfl (by decide +kernel) ?_
      intro w10 p10
      refine_lift aP ?_
      simp only [Exit.inBlock, Exit.then, Exit.jump]
      have x10 : Ext w w10 := x9.move p10.mv (by rintro k ⟨⟩; omega)
      refine bodyPost_ret (aJ (cs := aZ) rfl rfl p10.this (by decide +kernel)) rfl ⟨_, rfl, x10, ?_⟩
      rw [hch, hstep]
     ·rw [if_pos (by assumption)]; exact ZEU.bad
     ·rw [if_neg (by assumption)]; exact ZEU.bad
 ·intro hp
  refine_lift kT ?_; intro _ _ _
  go_step3
  (first | ((with_reducible refine cI ?_); go_step) | fail)
  (first | ((with_reducible refine cI ?_); go_step) | fail)
  refine hp _ _ ?_
  exact ⟨rs, l, o, v, rv, _, _, _, _, _, _, _, _, _, _, _, _, _, _, _, _, _, _, _, _, _, _, _, _, _, _, _, _, _, _, _, _, _, _, _, _, _, _, _, _, _, _, _, _, _, _, rfl, hr, x2.at hb1, hb2, hv.ext (x1.trans x2), .inl hne, rfl, x1.trans x2, Nat.le_refl _, fun q hq => hq, h2, bl, dl, h1⟩
section
variable {P : Program} {w w' : World} {d : Option Nat} {ty : TypeId} {ps : String} {af : Array Edge} {g : Option (Nat × Bool)} {a : Act}
theorem Runs.toU {s t : TypeId} {x : Operand} {n : Nat} (hx : a.eval x = .int .i64 (n : Nat)) (hu : kZ P s .i64 = true) (ht : kZ P t .u64 = true) (h : n < 4611686018427387904) :
 Runs P (Oper.mk d (.convert s t x) ty ps af g) a w (.int .u64 (n : Nat)) := Runs.convI hx hu ht (IntWalk.u64_in _ (by omega))
theorem Runs.ofU {s t : TypeId} {x : Operand} {n : Nat} (hx : a.eval x = .int .u64 (n : Nat)) (hu : kZ P s .u64 = true) (ht : kZ P t .i64 = true) (h : n < 4611686018427387904) :
 Runs P (Oper.mk d (.convert s t x) ty ps af g) a w (.int .i64 (n : Nat)) := Runs.convI hx hu ht (IntWalk.i64_in _ (by omega))
theorem Runs.shrU {t u : TypeId} {x y : Operand} {m : Nat} (hx : a.eval x = .int .u64 (m : Nat)) (hy : a.eval y = .int .u64 1) :
 Runs P (Oper.mk d (.binOp .shr t x y u) ty ps af g) a w (.int .u64 ((m / 2 : Nat) : Int)) := by
 have e : min (1 : Int).toNat IntKind.u64.bits = 1 := by decide
 constructor; simp only [execOp, hx, hy, eqGuard, binOp, shift_shr_any _ _ _ _ (by decide : (0 : Int) ≤ 1), e, Int.pow_one]; simp
theorem Runs.subE {t u : TypeId} {x y : Operand} {m n : Nat} (k : Nat) (hx : a.eval x = .int .i64 (m : Nat)) (hy : a.eval y = .int .i64 (n : Nat)) (h : m = n + k) (hm : m < 4611686018427387904) :
 Runs P (Oper.mk d (.binOp .sub t x y u) ty ps af g) a w (.int .i64 (k : Nat)) := by
 have h1 := Runs.sub (P := P) (w := w) (d := d) (ty := ty) (ps := ps) (af := af) (g := g) (t := t) (u := u) hx hy (by omega)
 rwa [show (m : Int) - (n : Int) = (k : Int) by omega] at h1
end
set_option maxHeartbeats 4000000 in
theorem LO {B : Nat} (v : Value) (x : Option Rec) (os : List Rec) (s m : Nat) (f : Value) (w : World) (h : Sx x os m) (ho : Own B 4 47 w v (aC (iN x os m))) (hs : s < m) (hm : m < oT x os) (hl : oT x os ≤ 1000000) :
 Calls Tryz.prog 224 #[v, .int .i64 s, .int .i64 m, .int .i64 (m + 1 : Nat), f] w fun e w' => e = .returned (.tuple #[]) ∧ Own B 4 47 w' v (aC (iN x os s)) ∧ Mv v.ownBlock w w' := by
 have hD := oH h
 have hrot := LM h hm hs
 generalize hDe : iN x os m = D at *
 go_enter Tryz.func224, Tryz.ntmps224
 refine_lift rF ?_; intro _ _ _
 ((with_reducible refine bJ ?_); (first | (refine fY ?_; refine iI ?_) | (refine iH ?_; refine jG ?_; (with_reducible refine bJ ?_); refine fY ?_; refine iI ?_)))
 ((with_reducible refine bJ ?_); (first | (refine fY ?_; refine iI ?_) | (refine iH ?_; refine jG ?_; (with_reducible refine bJ ?_); refine fY ?_; refine iI ?_)))
 refine aN (Runs.subE (m - s) rfl rfl (by omega) (by omega)) ?_
 refine aA ?_
 ((with_reducible refine bJ ?_); (first | (refine fY ?_; refine iI ?_) | (refine iH ?_; refine jG ?_; (with_reducible refine bJ ?_); refine fY ?_; refine iI ?_)))
 refine_lift gT fun _ _ => ?_
 ((with_reducible refine bJ ?_); (first | (refine fY ?_; refine iI ?_) | (refine iH ?_; refine jG ?_; (with_reducible refine bJ ?_); refine fY ?_; refine iI ?_)))
 ((with_reducible refine bJ ?_); (first | (refine fY ?_; refine iI ?_) | (refine iH ?_; refine jG ?_; (with_reducible refine bJ ?_); refine fY ?_; refine iI ?_)))
 refine aN (Runs.subE 1 rfl rfl (by omega) (by omega)) ?_
 refine aA ?_
 refine_lift QM fun _ _ => ?_
 go_loopw [10, 11] (fun i j wr => ∃ t : Nat, t < m - s ∧ i = .int .i64 ((m - s - t : Nat) : Int) ∧ j = .int .i64 ((1 : Nat) : Int) ∧ Own B 4 47 wr v (aC (oU D s m t)) ∧ Mv v.ownBlock w wr) (fun i _ _ => (intOf i).toNat)
 case atStart => exact ⟨0, by omega, rfl, rfl, ho, Mv.refl _ _⟩
 case round =>
  obtain ⟨t, ht, rfl, rfl, ho1, m1⟩ := hrel
  have hrl := wO D s m t
  obtain ⟨i, hi⟩ : ∃ i, i = m - s - t := ⟨_, rfl⟩
  rw [← hi]
  by_cases h1 : i = 1
  ·subst h1
   refine_lift aP ?_
   rw [show (m : Int) - ((1 : Nat) : Int) = ((s + t : Nat) : Int) by omega]
   refine bB (enters_of Tryz.func239 rfl rfl) rfl rfl (GY v _ (s + t) m f wr ho1 (by omega) (by omega) (by omega)) ?_
   rintro e w4 ⟨rfl, o4, m4⟩
   refine ⟨_, rfl, ?_⟩
   refine aA ?_
   refine_lift aP ?_
   go_end0
   have e : NM (oU D s m t) (s + t) m = oU D s m (m - s) := by
    rw [show m - s = t + 1 by omega]; rfl
   rw [e, hrot] at o4
   exact ⟨rfl, o4, m1.trans m4⟩
  ·have e1 : (!decide ((i : Int) = ((1 : Nat) : Int))) = true := by simp; omega
   (repeat' first | ((with_reducible refine cI ?_); go_step) | ((with_reducible refine bJ ?_); first | refine fD ?_ | (refine cZ ?_ ?_ <;> intro hc)) | fail)
   all_goals first
    | (exfalso
       have hh := ‹(!decide ((i : Int) = ((1 : Nat) : Int))) = false›
       rw [e1] at hh
       cases hh
       done)
    | skip
   rw [show (m : Int) - (i : Int) = ((s + t : Nat) : Int) by omega]
   refine bB (enters_of Tryz.func239 rfl rfl) rfl rfl (GY v _ (s + t) m f wr ho1 (by omega) (by omega) (by omega)) ?_
   rintro e w4 ⟨rfl, o4, m4⟩
   refine ⟨_, rfl, ?_⟩
   refine aA ?_
   refine_lift aP ?_
   refine ⟨⟨t + 1, by omega, by rw [show ((m - s - (t + 1) : Nat) : Int) = (i : Int) - 1 by omega]; rfl, rfl, o4, m1.trans m4⟩, by simp [intOf]; omega⟩
theorem pI {α : Type} {l : List α} {x : α} (h : x ∈ l.dropLast) : x ∈ l := by rw [List.dropLast_eq_take] at h; exact List.mem_of_mem_take h
theorem ZEU.cell {B : Nat} {q : ZE} {r : Value} {w : World} (h : ZEU B q r w) : ∃ y, r = .tuple #[.agg #[aH q.o, y], .int .i64 q.e] ∧ SetsO B w y q.l ∧ y.oneCell' = true := by
 obtain ⟨y, rfl, hy⟩ := h
 obtain ⟨_, hq, _⟩ := hy.sets.sl
 exact ⟨y, rfl, hy, hq.one⟩
theorem LP {l : List Rec} {i : Nat} (h : i < l.length) : (aC l)[i]? = some [aH (l.getD i bM).name, .int .i64 (l.getD i bM).kind, .int .i64 (l.getD i bM).ttl, aH (l.getD i bM).data] := oL h
set_option maxHeartbeats 8000000 in
theorem PO (oo : List UInt8) (v : Value) (lo : List RSet) (og : List UInt8) (lv : Value) (l : List Rec) (w : World) (hv : SetsAt w v lo) (hl : Sl 4 w lv (aC l)) (bl : ∀ s ∈ lo, s.data.length ≤ 1000000) (dl : ∀ s ∈ lo, ∀ d ∈ s.data, d.length ≤ 1000000) (h1 : (aL lo).length ≤ 5000) (h2 : l.length ≤ 5000) (h3 : 3 ≤ l.length) (dn : ∀ q ∈ l, q.data.length ≤ 1000000) :
 Calls Tryz.prog 63 #[.agg #[aH oo, v], aH og, lv] w (jK w (ZEU w.heap.size (iA oo lo og l))) := by
 have hrl := aG l
 have hpe : Pts w (bU lv (1 * 4)) _ := hl.elem (LP (i := 1) (by omega))
 go_enter Tryz.func63, Tryz.ntmps63
 refine_lift gT fun _ _ => ?_
 refine aT (vs := [aH oo, v]) rfl rfl ?_
 intro p w1 x1 hp
 refine aA ?_
 refine aF (z := aZ) rfl (by decide +kernel) ?_
 intro w2 x2 s2 hb2
 have hx2 := x1.trans x2
 have hsz2 := x1.size
 generalize hbe : w1.heap.size = b at *
 refine aA ?_
 ((with_reducible refine bJ ?_); (first | (refine fY ?_; refine iI ?_) | (refine iH ?_; refine jG ?_; (with_reducible refine bJ ?_); refine fY ?_; refine iI ?_)))
 refine_lift gT fun _ _ => ?_
 ((with_reducible refine bJ ?_); (first | (refine fY ?_; refine iI ?_) | (refine iH ?_; refine jG ?_; (with_reducible refine bJ ?_); refine fY ?_; refine iI ?_)))
 ((with_reducible refine bJ ?_); (first | (refine fY ?_; refine iI ?_) | (refine iH ?_; refine jG ?_; (with_reducible refine bJ ?_); refine fY ?_; refine iI ?_)))
 rw [hrl]
 refine aN (Runs.subE (m := l.length) (n := 1) (l.length - 1) rfl rfl (by omega) (by omega)) ?_
 refine aA ?_
 refine_lift gO fun _ _ _ _ => ?_
 refine aB (enters_of Tryz.func61 rfl rfl) rfl rfl (mP (l.getD 1 bM) _) ?_; intro w3 x3; refine aA ?_
 have hx3 := hx2.trans x3
 have hp3 := hp.ext (x2.trans x3)
 obtain ⟨hq1, hq2⟩ := parts hl (n := l.length - 1) (by omega)
 have hdl : l.take (l.length - 1) = l.dropLast := (List.dropLast_eq_take ..).symm
 cases hs : aS (l.getD 1 bM) with
 | false =>
  have ht : iA oo lo og l = ⟨gC og l.dropLast, eA og l.dropLast, dF og l.dropLast⟩ := by rw [iA, if_pos hs]
  have hl3 := hl.ext hx3
  refine_lift bS fun _ _ => ?_
  rw [hdl] at hq1
  refine aI (enters_of Tryz.func36 rfl rfl) rfl rfl (FF og _ l.dropLast _ (hq1.ext hx3) (by rw [List.length_dropLast]; omega) (fun r hr => by have := dn r (pI hr); omega)) ?_
  rintro _ w4 x4 hU
  obtain ⟨y, rfl, hO, hy1⟩ := ZEU.cell (q := ⟨gC og l.dropLast, eA og l.dropLast, dF og l.dropLast⟩) hU
  refine aA ?_
  refine_lift aP ?_
  refine aD (v := .agg #[aH (eA og l.dropLast), y]) rfl rfl rfl ((x3.trans x4).at hb2) (show aO Tryz.prog 25 2 = true by decide +kernel) rfl (cX hy1) ?_
  intro w5 p5
  have hx4 := hx3.trans x4
  have x5 : Ext w w5 := hx4.move p5.mv (by rintro k ⟨⟩; omega)
  have hs3 := x3.size
  have hO5 := hO.put p5 (by omega)
  refine_lift aP ?_
  refine bodyPost_ret (aJ (cs := [aH (eA og l.dropLast), y]) rfl rfl p5.this (show cY Tryz.prog 25 2 = true by decide +kernel)) rfl ⟨_, rfl, x5, ?_⟩
  rw [ht]
  exact ⟨y, rfl, hO5.weaken (by have := hx3.size; omega)⟩
 | true =>
  have ht : iA oo lo og l = if lo = [] then ZE.bad 5 else oS oo lo (l.dropLast.drop 1) := by rw [iA, if_neg (by rw [hs]; exact fun e => Bool.noConfusion e)]
  obtain ⟨cv, hcv, hcl⟩ := (hv.ext hx3).sl
  have hb3 := x3.at hb2
  have hs3 := x3.size
  refine_lift CD (fun _ _ _ => ?_) (fun _ _ _ => ?_)
  ·have hlo : lo = [] := by
    have h0 : (cv.length : Int) = 0 := by assumption
    exact List.eq_nil_of_length_eq_zero (by omega)
   refine aU (v := .agg aZ.toArray) rfl (Runs.build0 (by kernel_rfl)) ?_
   refine aA ?_
   refine aD (v := .agg aZ.toArray) rfl rfl rfl hb3 (show aO Tryz.prog 25 2 = true by decide +kernel) rfl (by decide +kernel) ?_
   intro w4 p4
   refine_lift aP ?_
   have x4 : Ext w w4 := hx3.move p4.mv (by rintro k ⟨⟩; omega)
   refine bodyPost_ret (aJ (cs := aZ) rfl rfl p4.this (by decide +kernel)) rfl ⟨_, rfl, x4, ?_⟩
   rw [ht, if_pos hlo]
   exact ZEU.bad
  ·have hlo : lo ≠ [] := by
    rintro rfl
    have h0 : ¬ (cv.length : Int) = 0 := by assumption
    exact h0 (by rw [hcl]; rfl)
   have hcut := hl.cut (m := 1) (n := l.length - 1) (by omega) (by omega)
   have e1 : ((aC l).take (l.length - 1)).drop 1 = aC (l.dropLast.drop 1) := by rw [← hdl]; simp [aC, List.map_take, List.map_drop]
   rw [e1] at hcut
   refine bT 7 (Ext w3) (by decide +kernel) ?_
   intro w4 x4 _
   refine ⟨x4, ?_⟩
   have hl3 := hl.ext hx3
   refine dR 0 ?_
   refine iB 1 ?_; refine iB 2 ?_
   refine dR 3 ?_
   refine bL (i := 4) (by decide +kernel) rfl rfl ?_
   refine aI (enters_of Tryz.func111 rfl rfl) rfl rfl (IK oo v lo _ (l.dropLast.drop 1) w4 (hv.ext (hx3.trans x4)) (hcut.ext (hx3.trans x4)) bl dl h1 (by rw [List.length_drop, List.length_dropLast]; omega) (fun q hq => dn q (pI (List.mem_of_mem_drop hq))) (by
    intro e
    have := congrArg List.length e
    rw [List.length_drop, List.length_dropLast, List.length_nil] at this
    omega)) ?_
   rintro _ w5 x5 hU
   obtain ⟨y, rfl, hO, hy1⟩ := hU.cell
   refine aA ?_
   refine aK ⟨cQ (x4.trans x5), ?_⟩
   refine iB 5 ?_; refine iB 6 ?_
   refine bL (i := 7) (by decide +kernel) rfl rfl ?_
   have hx5 := hx3.trans (x4.trans x5)
   have hs5 := hx3.size
   have hs6 := x4.size
   refine aD (v := .agg #[aH (oS oo lo (l.dropLast.drop 1)).o, y]) rfl rfl rfl ((x4.trans x5).at hb3) (show aO Tryz.prog 25 2 = true by decide +kernel) rfl (cX hy1) ?_
   intro w6 p6
   refine aK ⟨bV rfl, ?_⟩
   refine iB 8 ?_
   refine cN (by decide +kernel) ?_
   have x6 : Ext w w6 := hx5.move p6.mv (by rintro k ⟨⟩; omega)
   have hO6 := hO.put p6 (by omega)
   refine_lift aP ?_
   refine bodyPost_ret (aJ (cs := [aH (oS oo lo (l.dropLast.drop 1)).o, y]) rfl rfl p6.this (show cY Tryz.prog 25 2 = true by decide +kernel)) rfl ⟨_, rfl, x6, ?_⟩
   rw [ht, if_neg hlo]
   exact ⟨y, rfl, hO6.weaken (by omega)⟩
end Go.Proofs.X
set_option linter.unusedSimpArgs false
set_option linter.unusedVariables false
namespace Go.Proofs.X
open Go.RowKit
end Go.Proofs.X
set_option linter.unusedSimpArgs false
set_option linter.unusedVariables false
namespace Go.Proofs.X
open Go.RowKit
end Go.Proofs.X
set_option linter.unusedSimpArgs false
set_option linter.unusedVariables false
namespace Go.Proofs.X
open Go.RowKit
set_option maxRecDepth 100000
theorem NN {oo : List UInt8} {lo : List RSet} {og : List UInt8} {l : List Rec} (h : (iA oo lo og l).e = 0) (hl : 2 < l.length) : ZoneOk (iA oo lo og l).o (iA oo lo og l).l := by
 unfold iA at h ⊢
 split at h
 ·rename_i d1
  rw [if_pos d1]
  exact rZ h
 ·rename_i d1
  rw [if_neg d1]
  split at h
  ·cases h
  ·rename_i d2
   rw [if_neg d2]
   exact (vZ _ _ (Nat.le_refl _) oo lo h (by
    intro e
    have := congrArg List.length e
    simp at this
    omega)).1
set_option maxHeartbeats 16000000 in
theorem sG (oo : List UInt8) (v : Value) (lo : List RSet) (og : List UInt8) (lv : Value) (l : List Rec) (w : World) (hv : SetsAt w v lo) (hl : Sl 4 w lv (aC l)) (bl : ∀ s ∈ lo, s.data.length ≤ 1000000) (dl : ∀ s ∈ lo, ∀ d ∈ s.data, d.length ≤ 1000000) (h1 : (aL lo).length ≤ 5000) (h2 : l.length ≤ 5000) (dn : ∀ q ∈ l, q.data.length ≤ 1000000) :
 Calls Tryz.prog 21 #[.agg #[aH oo, v], aH og, lv] w (jK w (ZEU w.heap.size (eB oo lo og l))) := by
 have hrl := aG l
 go_enter Tryz.func21, Tryz.ntmps21
 refine_lift gT fun _ _ => ?_
 refine aT (vs := [aH oo, v]) rfl rfl ?_
 intro p w1 x1 hp
 refine aA ?_
 refine aF (z := aZ) rfl (by decide +kernel) ?_
 intro w2 x2 s2 hb2
 have hx2 := x1.trans x2
 have hsz2 := x1.size
 generalize hbe : w1.heap.size = b at *
 refine aA ?_
 refine_lift gO fun _ _ _ _ => ?_
 rw [hrl]
 refine aB (enters_of Tryz.func57 rfl rfl) rfl rfl ((show Calls Tryz.prog 57 #[aH og] w2 (bC w2 (.int .i64 (eC og))) from QI og w2)) ?_; intro w3 x3; refine aA ?_
 have hx3 := hx2.trans x3
 have hb3 := x3.at hb2
 have hs3 := x3.size
 have hl3 := hl.ext hx3
 have hp3 := hp.ext (x2.trans x3)
 by_cases c1 : eC og = 0
 ·rw [c1]
  refine_lift aP ?_
  refine aB (enters_of Tryz.func58 rfl rfl) rfl rfl (jE lv l _ (fun r => !decide (aV r = 0)) _ hl3 (enters_of Tryz.func59 rfl rfl) (fun r _ w' => FQ r w')) ?_; intro w4 x4; refine aA ?_
  have hx4 := hx3.trans x4
  have hb4 := x4.at hb3
  have hs4 := x4.size
  have hp4 := hp3.ext x4
  cases hany : l.any (fun r => !decide (aV r = 0)) with
  | true =>
   have hE : eB oo lo og l = ZE.bad 1 := by rw [eB, if_pos (.inr hany)]
   refine_lift bS fun _ _ => ?_
   refine aU (v := .agg aZ.toArray) rfl (Runs.build0 (by kernel_rfl)) ?_; refine aA ?_; refine_lift aP ?_; refine aD (v := .agg aZ.toArray) rfl rfl rfl (hb4) (show aO Tryz.prog 25 2 = true by decide +kernel) rfl (by decide +kernel) ?_; intro wz pz; refine_lift aP ?_; refine bodyPost_ret (aJ (cs := aZ) rfl rfl pz.this (by decide +kernel)) rfl ⟨_, rfl, Ext.move (hx4) pz.mv (by rintro k ⟨⟩; omega), ?_⟩; rw [hE]
   exact ZEU.bad
  | false =>
   have q1 : ¬ (eC og ≠ 0 ∨ l.any (fun r => !decide (aV r = 0)) = true) := by
    rintro (e | e)
    ·exact e c1
    ·rw [hany] at e; cases e
   by_cases hl0 : l = []
   ·have hE : eB oo lo og l = ZE.bad 2 := by rw [eB, if_neg q1, if_pos hl0]
    have hn0 : l.length = 0 := by rw [hl0]; rfl
    rw [hn0]
    refine_lift bS fun _ _ => ?_
    all_goals first
     | (exfalso; omega)
     | skip
    refine aU (v := .agg aZ.toArray) rfl (Runs.build0 (by kernel_rfl)) ?_; refine aA ?_; refine_lift aP ?_; refine aD (v := .agg aZ.toArray) rfl rfl rfl (hb4) (show aO Tryz.prog 25 2 = true by decide +kernel) rfl (by decide +kernel) ?_; intro wz pz; refine_lift aP ?_; refine bodyPost_ret (aJ (cs := aZ) rfl rfl pz.this (by decide +kernel)) rfl ⟨_, rfl, Ext.move (hx4) pz.mv (by rintro k ⟨⟩; omega), ?_⟩; rw [hE]
    exact ZEU.bad
   ·have hln : 1 ≤ l.length := List.length_pos_iff.2 hl0
    have hh0 : l.getD 0 bM = cC l := by
     cases l with
     | nil => exact absurd rfl hl0
     | cons r t => rfl
    have hl4 := hl3.ext x4
    have hpt : Pts w (bU lv (0 * 4)) _ := hl.elem (LP (i := 0) (by omega))
    rw [hh0, Nat.zero_mul] at hpt
    have hpt4 := hpt.ext hx4
    rw [show (l.length : Int) - 1 = ((l.length - 1 : Nat) : Int) by omega]
    obtain ⟨last, hlast⟩ : ∃ n, n = l.length - 1 := ⟨_, rfl⟩
    rw [← hlast]
    refine_lift CD (fun hc _ _ => ?_) (fun _ _ hc => ?_)
    all_goals first
     | (exfalso; omega)
     | skip
    refine aB (enters_of Tryz.func61 rfl rfl) rfl rfl (mP (cC l) _) ?_; intro w5 x5; refine aA ?_
    have hx5 := hx4.trans x5
    have hb5 := x5.at hb4
    have hs5 := x5.size
    have hp5 := hp4.ext x5
    have hpt5 := hpt4.ext x5
    cases hsoa : aS (cC l) with
    | false =>
     have hE : eB oo lo og l = ZE.bad 2 := by rw [eB, if_neg q1, if_neg hl0, if_pos (.inl hsoa)]
     refine_lift bS fun _ _ => ?_
     refine aU (v := .agg aZ.toArray) rfl (Runs.build0 (by kernel_rfl)) ?_; refine aA ?_; refine_lift aP ?_; refine aD (v := .agg aZ.toArray) rfl rfl rfl (hb5) (show aO Tryz.prog 25 2 = true by decide +kernel) rfl (by decide +kernel) ?_; intro wz pz; refine_lift aP ?_; refine bodyPost_ret (aJ (cs := aZ) rfl rfl pz.this (by decide +kernel)) rfl ⟨_, rfl, Ext.move (hx5) pz.mv (by rintro k ⟨⟩; omega), ?_⟩; rw [hE]
     exact ZEU.bad
    | true =>
     have hl5 := hl4.ext x5
     refine_lift aP ?_
     refine aB (enters_of Tryz.func62 rfl rfl) rfl rfl (MI (cC l).name _) ?_; intro w6 x6; refine aA ?_
     refine_lift aP ?_
     refine aB (enters_of Tryz.func62 rfl rfl) rfl rfl (MI og _) ?_; intro w7 x7; refine aA ?_
     have x57 := x6.trans x7
     have hx7 := hx5.trans x57
     have hb7 := x57.at hb5
     have hs7 := x57.size
     have hp7 := hp5.ext x57
     have hpt7 := hpt5.ext x57
     have hl7 := hl5.ext x57
     clear hpt hpt4 hpt5 hl3 hl4 hl5 hp3 hp4 hp5 hp
     by_cases hfo : fold (cC l).name = fold og
     ·have q2 : ¬ (aS (cC l) = false ∨ fold (cC l).name ≠ fold og) := by
       rintro (e | e)
       ·rw [hsoa] at e; cases e
       ·exact e hfo
      have hfo' : (!decide (fold (cC l).name = fold og)) = false := by simp [hfo]
      refine_lift NZ (fun _ _ _ _ => ?_) (fun _ _ _ _ => ?_) (fun _ _ _ => ?_)
      ·exfalso
       have hh := ‹(!decide (fold (cC l).name = fold og)) = true›
       rw [hfo'] at hh
       cases hh
      ·have hl1 : l.length = 1 := by
        have : (last : Int) = 0 := by assumption
        omega
       have hE : eB oo lo og l = ZE.bad 5 := by rw [eB, if_neg q1, if_neg hl0, if_neg q2, if_pos hl1]
       refine aU (v := .agg aZ.toArray) rfl (Runs.build0 (by kernel_rfl)) ?_; refine aA ?_; refine_lift aP ?_; refine aD (v := .agg aZ.toArray) rfl rfl rfl (hb7) (show aO Tryz.prog 25 2 = true by decide +kernel) rfl (by decide +kernel) ?_; intro wz pz; refine_lift aP ?_; refine bodyPost_ret (aJ (cs := aZ) rfl rfl pz.this (by decide +kernel)) rfl ⟨_, rfl, Ext.move (hx7) pz.mv (by rintro k ⟨⟩; omega), ?_⟩; rw [hE]
       exact ZEU.bad
      ·have hl1 : ¬ l.length = 1 := by
        have : ¬ (last : Int) = 0 := by assumption
        omega
       have hpl : Pts w (bU lv (last * 4)) _ := hl.elem (LP (i := last) (by omega))
       have hpl7 := hpl.ext hx7
       refine bE (by decide +kernel) (by decide +kernel) ?_
       by_cases hl2 : last = 1
       ·have hE : eB oo lo og l = ZE.bad 3 := by rw [eB, if_neg q1, if_neg hl0, if_neg q2, if_neg hl1, if_pos (.inl (by omega))]
        refine_lift dN ?_
        rw [decide_eq_true (by omega : (last : Int) = 1)]
        refine_lift dN ?_
        intro w8 x8
        have hb8 := x8.at hb7
        have hs8 := x8.size
        refine_lift bS fun _ _ => ?_
        refine aU (v := .agg aZ.toArray) rfl (Runs.build0 (by kernel_rfl)) ?_; refine aA ?_; refine_lift aP ?_; refine aD (v := .agg aZ.toArray) rfl rfl rfl (hb8) (show aO Tryz.prog 25 2 = true by decide +kernel) rfl (by decide +kernel) ?_; intro wz pz; refine_lift aP ?_; refine bodyPost_ret (aJ (cs := aZ) rfl rfl pz.this (by decide +kernel)) rfl ⟨_, rfl, Ext.move (hx7.trans x8) pz.mv (by rintro k ⟨⟩; omega), ?_⟩; rw [hE]
        exact ZEU.bad
       ·refine_lift dN ?_
        rw [decide_eq_false (by omega : ¬ (last : Int) = 1)]
        refine_lift dN ?_
        refine eY (fun w' _ => by exact Runs.neqRec (r := l.getD last bM) (q := cC l) rfl rfl) ?_
        refine aA ?_
        refine_lift dN ?_
        intro w8 x8
        have hx8 := hx7.trans x8
        have hb8 := x8.at hb7
        have hs8 := x8.size
        have hp8 := hp7.ext x8
        have hpt8 := hpt7.ext x8
        clear hpl hpl7 hpt7 hp7
        by_cases heq : l.getD last bM = cC l
        ·have q3 : ¬ (l.length = 2 ∨ l.getD (l.length - 1) bM ≠ cC l) := by
          rw [← hlast]
          rintro (e | e)
          ·omega
          ·exact e heq
         have heq' : (!decide (l.getD last bM = cC l)) = false := by rw [decide_eq_true heq]; rfl
         rw [heq']
         refine_lift bS fun _ _ => ?_
         refine aI (enters_of Tryz.func63 rfl rfl) rfl rfl (PO oo v lo og lv l w8 (hv.ext hx8) (hl.ext hx8) bl dl h1 h2 (by omega) dn) ?_
         rintro _ w9 x9 hU
         obtain ⟨y, rfl, hO, hy1⟩ := hU.cell
         have hok := NN (oo := oo) (lo := lo) (og := og) (l := l)
         have hI : eB oo lo og l = (let q := iA oo lo og l
          if q.e ≠ 0 then ZE.bad q.e else if (bD q.o q.l).serial ≠ kP (cC l) then ZE.bad 2 else if lo ≠ [] ∧ dQ (bD q.o q.l).serial (bD oo lo).serial = false then ZE.bad 7 else q) := by
          rw [eB, if_neg q1, if_neg hl0, if_neg q2, if_neg hl1, if_neg q3]
         generalize iA oo lo og l = q at *
         simp only at hI
         refine aA ?_
         refine_lift aP ?_
         refine aF (z := aZ) rfl (by decide +kernel) ?_
         intro w10 x10 s10 hb10
         refine aA ?_
         refine aD (v := .agg #[aH q.o, y]) rfl rfl rfl hb10 (show aO Tryz.prog 25 2 = true by decide +kernel) rfl (cX hy1) ?_
         intro w11 p11
         have x11 : Ext w9 w11 := x10.move p11.mv (by rintro k ⟨⟩; omega)
         have hpz := aE (cs := [aH q.o, y]) p11.this
         have x8b := x9.trans x11
         have hx11 := hx8.trans x8b
         have hb11 := x8b.at hb8
         have hs11 := x8b.size
         have hp11 := hp8.ext x8b
         have hpt11 := hpt8.ext x8b
         clear hb10 x10 hp8 hpt8
         by_cases he : q.e = 0
         ·have he' : (!decide (q.e = 0)) = false := by simp [he]
          have hz := hok he (by omega)
          obtain ⟨zl, zb, zd, zr⟩ := nO hz
          rw [if_neg (by simp [he])] at hI
          refine_lift tK (fun _ _ _ => ?_) (fun _ _ _ _ _ => ?_)
          ·exfalso
           have hh := ‹(!decide (q.e = 0)) = true›
           rw [he'] at hh
           cases hh
          have hO11 := hO.ext x11
          refine aB (enters_of Tryz.func31 rfl rfl) rfl rfl (qV q.o y q.l _ hO11.sets (fun s hs => by have := zb s hs; omega) (fun s hs d hd => by have := zd s hs d hd; omega)) ?_; intro w12 x12; refine aA ?_
          refine_lift aP ?_
          refine aF (z := aX) rfl (by decide +kernel) ?_
          intro w13 x13 s13 h13
          refine aA ?_
          refine aD (v := .agg (bD q.o q.l).cells.toArray) rfl rfl rfl h13 (show aO Tryz.prog 67 7 = true by decide +kernel) rfl (dS _) ?_
          intro w14 p14
          have x14 : Ext w12 w14 := x13.move p14.mv (by rintro k ⟨⟩; exact Nat.le_refl _)
          have ha14 := aE (cs := (bD q.o q.l).cells) p14.this
          have x1114 := x12.trans x14
          have hp14 := hp11.ext x1114
          clear h13 x13
          refine_lift bS fun _ _ => ?_
          refine aB (enters_of Tryz.func31 rfl rfl) rfl rfl (qV oo v lo _ (hv.ext (hx11.trans x1114)) bl (fun s hs d hd => by have := dl s hs d hd; omega)) ?_; intro w15 x15; refine aA ?_
          refine_lift aP ?_
          refine aF (z := aX) rfl (by decide +kernel) ?_
          intro w16 x16 s16 h16
          refine aA ?_
          refine aD (v := .agg (bD oo lo).cells.toArray) rfl rfl rfl h16 (show aO Tryz.prog 67 7 = true by decide +kernel) rfl (dS _) ?_
          intro w17 p17
          have x17 : Ext w15 w17 := x16.move p17.mv (by rintro k ⟨⟩; exact Nat.le_refl _)
          have hb17 := aE (cs := (bD oo lo).cells) p17.this
          have x1417 := x15.trans x17
          have x1117 := x1114.trans x1417
          have ha17 := ha14.ext x1417
          have hx17 := hx11.trans x1117
          have hb17' := x1117.at hb11
          have hs17 := x1117.size
          have hp17 := hp14.ext x1417
          have hpz17 := hpz.ext x1117
          have hpt17 := hpt11.ext x1117
          have hO17 := hO11.ext x1117
          have hl17 := hl.ext hx17
          clear h16 x16 hp11 hp14 hpz hpt11 ha14
          have qa : Pts w17 (bG (.pointer (some ⟨w12.heap.size, 0, none⟩)) 2) [.int .i64 (bD q.o q.l).serial, .int .i64 (bD q.o q.l).refresh, .int .i64 (bD q.o q.l).retry, .int .i64 (bD q.o q.l).expire, .int .i64 (bD q.o q.l).minimum] := ha17.part 2
          have qb : Pts w17 (bG (.pointer (some ⟨w15.heap.size, 0, none⟩)) 2) [.int .i64 (bD oo lo).serial, .int .i64 (bD oo lo).refresh, .int .i64 (bD oo lo).retry, .int .i64 (bD oo lo).expire, .int .i64 (bD oo lo).minimum] := hb17.part 2
          have hgd := dn _ (qE hl0)
          refine_lift gO fun _ _ _ _ => ?_
          refine bE (by decide +kernel) (by decide +kernel) ?_
          refine_lift dN ?_
          refine bY (enters_of Tryz.func64 rfl rfl) rfl rfl (fun w' _ => qD (cC l) w' (by omega)) ?_
          refine aA ?_
          refine_lift dN ?_
          intro w18 x18
          have hx18 := hx17.trans x18
          have hb18 := x18.at hb17'
          have hs18 := x18.size
          by_cases hser : (bD q.o q.l).serial = kP (cC l)
          ·have hser' : (!decide ((bD q.o q.l).serial = kP (cC l))) = false := by simp [hser]
           rw [if_neg (by simp [hser])] at hI
           rw [hser']
           have qa18 := qa.ext x18
           have qb18 := qb.ext x18
           have hp18 := hp17.ext x18
           have hpz18 := hpz17.ext x18
           obtain ⟨cv, hcv, hcl⟩ := (hv.ext hx18).sl
           clear qa qb hp17 hpz17 hpt17 ha17 hb17
           refine_lift CD (fun hc _ _ => ?_) (fun _ _ hc => ?_)
           ·have hlo : lo ≠ [] := by
             rintro rfl
             have h0 : 0 < (cv.length : Int) := by assumption
             rw [hcl] at h0
             simp at h0
            refine aB (enters_of Tryz.func45 rfl rfl) rfl rfl (GL _ _ _) ?_; intro w19 x19; refine aA ?_
            have hb19 := x19.at hb18
            have hs19 := x19.size
            have hpz19 := hpz18.ext x19
            cases hlt : dQ (bD q.o q.l).serial (bD oo lo).serial with
            | false =>
             rw [if_pos ⟨hlo, hlt⟩] at hI
             refine_lift bS fun _ _ => ?_
             refine aU (v := .agg aZ.toArray) rfl (Runs.build0 (by kernel_rfl)) ?_; refine aA ?_; refine_lift aP ?_; refine aD (v := .agg aZ.toArray) rfl rfl rfl (hb19) (show aO Tryz.prog 25 2 = true by decide +kernel) rfl (by decide +kernel) ?_; intro wz pz; refine_lift aP ?_; refine bodyPost_ret (aJ (cs := aZ) rfl rfl pz.this (by decide +kernel)) rfl ⟨_, rfl, Ext.move (hx18.trans x19) pz.mv (by rintro k ⟨⟩; omega), ?_⟩; rw [hI]
             exact ZEU.bad
            | true =>
             rw [if_neg (by rintro ⟨_, e⟩; rw [hlt] at e; cases e)] at hI
             refine_lift bS fun _ _ => ?_
             refine aD (v := .agg #[aH q.o, y]) rfl rfl rfl (hb19) (show aO Tryz.prog 25 2 = true by decide +kernel) rfl (cX hy1) ?_
             intro wz pz
             refine_lift aP ?_
             have xz : Ext w wz := Ext.move (hx18.trans x19) pz.mv (by rintro k ⟨⟩; omega)
             have hOz := (hO17.ext (x18.trans x19)).put pz (by omega)
             refine bodyPost_ret (aJ (cs := [aH q.o, y]) rfl rfl pz.this (show cY Tryz.prog 25 2 = true by decide +kernel)) rfl ⟨_, rfl, xz, ?_⟩
             rw [hI]
             exact ⟨y, by rw [he]; rfl, hOz.weaken (by have := hx8.size; omega)⟩
           ·have hlo : lo = [] := by
             have h0 : ¬ 0 < (cv.length : Int) := by assumption
             exact List.eq_nil_of_length_eq_zero (by omega)
            rw [if_neg (by rintro ⟨e, _⟩; exact e hlo)] at hI
            refine aD (v := .agg #[aH q.o, y]) rfl rfl rfl (hb18) (show aO Tryz.prog 25 2 = true by decide +kernel) rfl (cX hy1) ?_
            intro wz pz
            refine_lift aP ?_
            have xz : Ext w wz := Ext.move (hx18) pz.mv (by rintro k ⟨⟩; omega)
            have hOz := (hO17.ext x18).put pz (by omega)
            refine bodyPost_ret (aJ (cs := [aH q.o, y]) rfl rfl pz.this (show cY Tryz.prog 25 2 = true by decide +kernel)) rfl ⟨_, rfl, xz, ?_⟩
            rw [hI]
            exact ⟨y, by rw [he]; rfl, hOz.weaken (by have := hx8.size; omega)⟩
          ·have hser' : (!decide ((bD q.o q.l).serial = kP (cC l))) = true := by simp [hser]
           rw [if_pos hser] at hI
           rw [hser']
           refine_lift bS fun _ _ => ?_
           refine aU (v := .agg aZ.toArray) rfl (Runs.build0 (by kernel_rfl)) ?_; refine aA ?_; refine_lift aP ?_; refine aD (v := .agg aZ.toArray) rfl rfl rfl (hb18) (show aO Tryz.prog 25 2 = true by decide +kernel) rfl (by decide +kernel) ?_; intro wz pz; refine_lift aP ?_; refine bodyPost_ret (aJ (cs := aZ) rfl rfl pz.this (by decide +kernel)) rfl ⟨_, rfl, Ext.move (hx18) pz.mv (by rintro k ⟨⟩; omega), ?_⟩; rw [hI]
           exact ZEU.bad
         ·have he' : (!decide (q.e = 0)) = true := by simp [he]
          rw [if_pos he] at hI
          refine_lift tK (fun _ _ _ => ?_) (fun _ _ _ _ _ => ?_)
          all_goals first
           | (exfalso
              have hh := ‹(!decide (q.e = 0)) = false›
              rw [he'] at hh
              cases hh
              done)
           | skip
          refine aU (v := .agg aZ.toArray) rfl (Runs.build0 (by kernel_rfl)) ?_; refine aA ?_; refine_lift aP ?_; refine aD (v := .agg aZ.toArray) rfl rfl rfl (hb11) (show aO Tryz.prog 25 2 = true by decide +kernel) rfl (by decide +kernel) ?_; intro wz pz; refine_lift aP ?_; refine bodyPost_ret (aJ (cs := aZ) rfl rfl pz.this (by decide +kernel)) rfl ⟨_, rfl, Ext.move (hx11) pz.mv (by rintro k ⟨⟩; omega), ?_⟩; rw [hI]
          exact ZEU.bad
        ·have hE : eB oo lo og l = ZE.bad 3 := by rw [eB, if_neg q1, if_neg hl0, if_neg q2, if_neg hl1, if_pos (.inr (by rw [← hlast]; exact heq))]
         have heq' : (!decide (l.getD last bM = cC l)) = true := by rw [decide_eq_false heq]; rfl
         rw [heq']
         refine_lift bS fun _ _ => ?_
         refine aU (v := .agg aZ.toArray) rfl (Runs.build0 (by kernel_rfl)) ?_; refine aA ?_; refine_lift aP ?_; refine aD (v := .agg aZ.toArray) rfl rfl rfl (hb8) (show aO Tryz.prog 25 2 = true by decide +kernel) rfl (by decide +kernel) ?_; intro wz pz; refine_lift aP ?_; refine bodyPost_ret (aJ (cs := aZ) rfl rfl pz.this (by decide +kernel)) rfl ⟨_, rfl, Ext.move (hx8) pz.mv (by rintro k ⟨⟩; omega), ?_⟩; rw [hE]
         exact ZEU.bad
     ·have hE : eB oo lo og l = ZE.bad 2 := by rw [eB, if_neg q1, if_neg hl0, if_pos (.inr hfo)]
      have hfo' : (!decide (fold (cC l).name = fold og)) = true := by simp [hfo]
      refine_lift NZ (fun _ _ _ _ => ?_) (fun _ _ _ _ => ?_) (fun _ _ _ => ?_)
      all_goals first
       | (exfalso
          have hh := ‹(!decide (fold (cC l).name = fold og)) = false›
          rw [hfo'] at hh
          cases hh
          done)
       | skip
      refine aU (v := .agg aZ.toArray) rfl (Runs.build0 (by kernel_rfl)) ?_; refine aA ?_; refine_lift aP ?_; refine aD (v := .agg aZ.toArray) rfl rfl rfl (hb7) (show aO Tryz.prog 25 2 = true by decide +kernel) rfl (by decide +kernel) ?_; intro wz pz; refine_lift aP ?_; refine bodyPost_ret (aJ (cs := aZ) rfl rfl pz.this (by decide +kernel)) rfl ⟨_, rfl, Ext.move (hx7) pz.mv (by rintro k ⟨⟩; omega), ?_⟩; rw [hE]
      exact ZEU.bad
 ·have hE : eB oo lo og l = ZE.bad 1 := by rw [eB, if_pos (.inl c1)]
  have c1' : (!decide (eC og = 0)) = true := by simp [c1]
  refine_lift rQ (fun hc _ _ => ?_) (fun hc => ?_)
  all_goals first
   | (exfalso
      have hh := ‹(!decide (eC og = 0)) = false›
      rw [c1'] at hh
      cases hh
      done)
   | skip
  refine aU (v := .agg aZ.toArray) rfl (Runs.build0 (by kernel_rfl)) ?_; refine aA ?_; refine_lift aP ?_; refine aD (v := .agg aZ.toArray) rfl rfl rfl (hb3) (show aO Tryz.prog 25 2 = true by decide +kernel) rfl (by decide +kernel) ?_; intro wz pz; refine_lift aP ?_; refine bodyPost_ret (aJ (cs := aZ) rfl rfl pz.this (by decide +kernel)) rfl ⟨_, rfl, Ext.move (hx3) pz.mv (by rintro k ⟨⟩; omega), ?_⟩; rw [hE]
  exact ZEU.bad
theorem SecOk.withZ {s : SecR} (h : SecOk s) {l : List Rec} (he : (s.inst l).e = 0) : SecOk (s.withZ (s.inst l)) := by
 obtain ⟨a, b, _⟩ := h.inst (l := l) he
 refine ⟨h.og, h.retry, ?_⟩
 intro o l' e
 simp only [SecR.withZ, Option.some.injEq, Prod.mk.injEq] at e
 obtain ⟨rfl, rfl⟩ := e
 exact ⟨a, b⟩
structure OpR where
 op : Int
 n : Int
 now : Int
 l : List Rec
end Go.Proofs.X
