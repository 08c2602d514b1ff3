/- Laws and walks that the proof of the statement is made of (part 3). -/
import Derived.Test.YtcabalnocddidaaGreatP2
set_option linter.unusedSimpArgs false
set_option linter.unusedVariables false
namespace Go.Proofs.X
open Go.RowKit
set_option maxRecDepth 100000
theorem zB {b : UInt8} (h : 65 ≤ b.toNat) (h2 : b.toNat ≤ 90) : IntKind.wrap .u8 (IntKind.wrap .u8 ((b.toNat : Int) - 65) + 97) = ((kZ b).toNat : Int) := by
 rw [kZ, if_pos ⟨h, h2⟩]
 rw [UInt8.toNat_add]
 simp only [IntKind.wrap, IntKind.bits, IntKind.signed]
 have : (32 : UInt8).toNat = 32 := rfl
 rw [this]
 simp
 omega
theorem nP (l : List UInt8) (k : Nat) (b : UInt8) (h : l[k]? = some b) : (aZ l)[k]? = some [.int .u8 (b.toNat : Nat)] := by simp [aZ, h]
theorem nQ (l : List UInt8) (k : Nat) (b : UInt8) : (aZ l).set k [.int .u8 (b.toNat : Nat)] = aZ (l.set k b) := by simp [aZ, List.map_set]
theorem FG (l : List UInt8) (w : World) (hl : l.length ≤ 254) : Calls Tryz.prog 106 #[aF l] w (bS w (aF (low l))) := by
 go_enter Tryz.func106, Tryz.ntmps106
 refine_lift eJ fun _ _ => ?_
 refine kV (e := 5) (l := l) rfl rfl (by decide +kernel) (by decide +kernel) (by omega) ?_
 intro v w1 x1 o1
 refine aA ?_
 have sl := o1.sl
 refine_lift eJ fun _ _ => ?_
 clear sl
 have hlb : (aZ l).length = l.length := by simp [aZ]
 rw [hlb]
 go_loopw [10] (fun i wr => ∃ k : Nat, k ≤ l.length ∧ i = .int .i64 k ∧ Ext w wr ∧ Own w.heap.size 1 5 wr v (aZ (fM l k))) (fun i _ => l.length - (intOf i).toNat)
 case atStart => exact ⟨0, Nat.zero_le _, rfl, x1, by simpa [pC] using o1⟩
 case round =>
  obtain ⟨k, hk, rfl, hx, ho⟩ := hrel
  have hsl := ho.sl
  have hlen : (aZ (fM l k)).length = l.length := by simp [aZ, hU]
  by_cases hlt : k < l.length
  ·have hp := hsl.elem (nP _ _ _ (nL l k hlt))
   (repeat' first | ((with_reducible refine aJ ?_); go_step) | ((with_reducible refine aG ?_); first | refine gE ?_ | (refine aK ?_ ?_ <;> intro hc)) | fail)
   ·rename_i h1 h2
    refine fG (c := .int .u8 _) (i := k) rfl rfl rfl ho (by omega) (by decide +kernel) rfl ?_
    intro w2 o2 m2
    have hx2 := ho.mvx m2 hx (Nat.le_refl _)
    have e2 : (aZ (fM l k)).set k [Value.int .u8 (IntKind.u8.wrap (IntKind.u8.wrap (↑l[k].toNat - 65) + 97))] = aZ (fM l (k + 1)) := by
     rw [lA l k hlt, ← nQ, zB (by omega) (by omega)]
    rw [e2] at o2
    clear hx ho hsl hp
    refine_lift cI ?_
    exact ⟨⟨k + 1, by omega, rfl, hx2, o2⟩, by simp [intOf]; omega⟩
   ·refine ⟨⟨k + 1, by omega, rfl, hx, ?_⟩, by simp [intOf]; omega⟩
    rw [lB l k hlt (qK (by omega))]; exact ho
   ·refine ⟨⟨k + 1, by omega, rfl, hx, ?_⟩, by simp [intOf]; omega⟩
    rw [lB l k hlt (qK (by omega))]; exact ho
  ·have : k = l.length := by omega
   subst this
   rw [rM] at hsl
   refine_lift wN fun _ => ?_
   go_ret
   exact ⟨rfl, hx⟩
def qM (w : World) (b : Nat) : Nat := match w.cell? ⟨b, 0, none⟩ with | some (.string s) => s.size | _ => 0
theorem nR {w : World} {b : Nat} {l : List UInt8} {t : TypeId} {fr : Nat × Nat} (h : w.heap[b]? = some (.cells #[aF l] t fr)) : qM w b = l.length := by
 unfold qM
 rw [cell_of_row w b 0 _ t fr h]
 simp [aF, cQ, -ByteArray.size_data]
def uH (P : Program) (l b : Nat) (lp : Loop) (J : List (List UInt8) → World → Prop) (Jx : World → Prop) : Prop :=
 (∀ pre x rest W, pre.length < 254 → J pre W → W.heap[b]? = some (.cells #[aF rest] 29 (0, 0)) → RoundIn Fence.wide 0 P l lp.fn ((lp.params.zip #[aF x, .bool true]).foldl (fun tmps (t, a) => tmps.setIfInBounds t a) lp.tmps) lp.assign lp.body W
    fun e W' => e = .returned (.bool true) ∧ J (pre ++ [x]) W' ∧ W'.heap[b]? = some (.cells #[aF rest] 29 (0, 0))) ∧
 (∀ pre W, J pre W → RoundIn Fence.wide 0 P l lp.fn ((lp.params.zip #[aF [], .bool false]).foldl (fun tmps (t, a) => tmps.setIfInBounds t a) lp.tmps) lp.assign lp.body W fun e W' => e = .returned (.bool false) ∧ Jx W')
set_option maxHeartbeats 1000000 in
theorem FH (l b : Nat) (lp : Loop) (J : List (List UInt8) → World → Prop) (Jx : World → Prop) (hp : lp.params.size = 2) (hL : ∀ pre W, J pre W → W.heap[l]? = some (.loop lp))
 (hput : ∀ pre W W' o, J pre W → Put W W' b o → J pre W') (hy : uH Tryz.prog l b lp J Jx) (nm : List UInt8) (w : World) (h0 : J [] w) (hb : w.heap[b]? = some (.cells #[aF nm] 29 (0, 0))) (hlen : nm.length ≤ 254) :
 Calls Tryz.prog 208 #[.func (.yield l) #[] #[], .pointer (some ⟨b, 0, none⟩)] w fun e w' => e = .returned (.tuple #[]) ∧ match dG nm with | some ls => J ls w' | none => Jx w' := by
 go_enter Tryz.func208, Tryz.ntmps208
 iterate 2 go_step
 go_loopw [3] (fun _ wr => ∃ pre rest, J pre wr ∧ wr.heap[b]? = some (.cells #[aF rest] 29 (0, 0)) ∧ pre.length + rest.length ≤ 254 ∧ dG nm = (dG rest).map (pre ++ ·)) (fun _ wr => qM wr b)
 case atStart => exact ⟨[], nm, h0, hb, by simpa using hlen, by simp⟩
 case round =>
  obtain ⟨pre, rest, hJ, hbr, hrl, hpar⟩ := hrel
  have hc := aC (cs := [aF rest]) hbr
  cases rest with
  | nil =>
   refine_lift cI ?_
   refine bodyPost_end (results_none rfl _ _ _) rfl ⟨rfl, ?_⟩
   rw [hpar, kY]
   simpa using hJ
  | cons k t =>
   have hk : k.toNat < 256 := k.toNat_lt
   have hlt : t.length ≤ 253 := by simp only [List.length_cons] at hrl; omega
   have hfalse : (k.toNat < 1 ∨ 63 < k.toNat ∨ t.length < k.toNat) → dG nm = none := by
    intro h
    rw [hpar, eV, if_pos h]; rfl
   have htrue : ¬ (k.toNat < 1 ∨ 63 < k.toNat ∨ t.length < k.toNat) → dG nm = (dG (t.drop k.toNat)).map ((pre ++ [t.take k.toNat]) ++ ·) := by
    intro h
    rw [hpar, eV, if_neg h, Option.map_map]
    congr 1
    funext x
    simp
   have Hp := Lib.hid hpar
   clear hpar
   repeat' (first | (refine dD (id := 3) ?_) | (refine dD (id := 4) ?_) | ((with_reducible apply mZ); (rfl); exact rn; refine aA ?_) | (with_reducible (apply nB)) | ((with_reducible refine aG ?_); (first | (refine kW ?_; refine wU ?_) | (refine mL ?_; first | refine pB ?_ | refine uY ?_ | refine vB ?_ | refine uZ ?_ | ((first | refine uD ?_ ?_ | refine uE ?_ ?_) <;> intro hc)))) | ((fail_if_success (with_reducible refine aG ?_)); go_step))
   rotate_left
   ·refine nA (lp := lp) rfl rfl rfl (hL _ _ hJ) (by simp [hp]) (hy.1 _ _ _ _ (by simp only [List.length_cons] at hrl; omega) hJ hbr) ?_
    rintro e W' ⟨rfl, hJ', hb'⟩
    refine ⟨_, rfl, ?_⟩
    simp only [List.set_cons_succ, List.set_cons_zero]
    rw [show List.drop 1 (List.take (k.toNat + 1) (k :: t)) = t.take k.toNat by simp] at hJ'
    have hc2 := aC (cs := [aF (k :: t)]) hb'
    clear hJ
    have hlt2 : k.toNat ≤ t.length := by simp only [List.length_cons] at *; omega
    repeat' (first | (refine dD (id := 3) ?_) | (refine dD (id := 4) ?_) | ((with_reducible apply mZ); (rfl); exact rn; refine aA ?_) | (with_reducible (apply nB)) | ((with_reducible refine aG ?_); (first | (refine kW ?_; refine wU ?_) | (refine mL ?_; first | refine pB ?_ | refine uY ?_ | refine vB ?_ | refine uZ ?_ | ((first | refine uD ?_ ?_ | refine uE ?_ ?_) <;> intro hc)))) | ((fail_if_success (with_reducible refine aG ?_)); go_step))
    refine cM (v := aF (List.drop (k.toNat + 1) (k :: t))) rfl rfl rfl hb' (by decide +kernel) rfl ?_
    intro W2 hput2
    refine_lift cI ?_
    have hb2 := hput2.this
    have hJ2 := hput _ _ _ _ hJ' hput2
    have hd : List.drop (k.toNat + 1) (k :: t) = t.drop k.toNat := by simp
    go_roundw
    case rel => exact ⟨pre ++ [t.take k.toNat], t.drop k.toNat, hJ2, by rw [← hd]; exact hb2, by simp at hrl ⊢; omega, htrue (by omega)⟩
    case measure =>
     rw [nR hb2, nR hbr]
     simp; omega
   all_goals
    refine nA (lp := lp) rfl rfl rfl (hL _ _ hJ) (by simp [hp]) (hy.2 _ _ hJ) ?_
    rintro e W' ⟨rfl, hx⟩
    refine ⟨_, rfl, ?_⟩
    simp only [List.set_cons_succ, List.set_cons_zero]
    repeat' (first | (refine dD (id := 3) ?_) | (refine dD (id := 4) ?_) | ((with_reducible apply mZ); (rfl); exact rn; refine aA ?_) | (with_reducible (apply nB)) | ((with_reducible refine aG ?_); (first | (refine kW ?_; refine wU ?_) | (refine mL ?_; first | refine pB ?_ | refine uY ?_ | refine vB ?_ | refine uZ ?_ | ((first | refine uD ?_ ?_ | refine uE ?_ ?_) <;> intro hc)))) | ((fail_if_success (with_reducible refine aG ?_)); go_step))
    refine bodyPost_ret (results_none rfl _ _ _) rfl ⟨rfl, ?_⟩
    rw [hfalse (by simp only [List.length_cons] at *; omega)]
    exact hx
theorem FI (nm : List UInt8) (w : World) : Calls Tryz.prog 160 #[aF nm] w fun e w' => e = .returned (.func (.func 208) #[] #[.pointer (some ⟨w.heap.size, 0, none⟩)]) ∧ Ext w w' ∧ w'.heap.size = w.heap.size + 1 ∧ w'.heap[w.heap.size]? = some (.cells #[aF nm] 29 (0, 0)) := by
 go_enter Tryz.func160, Tryz.ntmps160
 refine_lift DE ?_; intro _ _ _
 refine cW (vs := [aF nm]) rfl rfl ?_
 intro w1 x1 s1 h1
 refine aA ?_
 refine_lift cI ?_
 go_ret
 exact ⟨rfl, x1, s1, h1⟩
def aI (ls : List (List UInt8)) : List (List Value) := ls.map fun x => [aF x]
structure CutMid (w : World) (s : Nat) (lp : Loop) (pre : List (List UInt8)) (W : World) : Prop where
 ext : Ext w W
 hs : w.heap.size = s
 c0 : W.heap[s]? = some (.cells #[.slice none 0 0] 57 (0, 0))
 c1 : W.heap[s + 1]? = some (.cells #[.bool false] 4 (0, 0))
 loc : ∃ v, W.heap[s + 2]? = some (.cells #[v] 57 (0, 0)) ∧ Own (s + 6) 1 9 W v (aI pre)
 df : W.heap[s + 4]? = some (.deferred (some []))
 lp : W.heap[s + 5]? = some (.loop lp)
 size : s + 6 ≤ W.heap.size
structure CutOut (w : World) (s : Nat) (lp : Loop) (W : World) : Prop where
 ext : Ext w W
 hs : w.heap.size = s
 c0 : W.heap[s]? = some (.cells #[.slice none 0 0] 57 (0, 0))
 c1 : W.heap[s + 1]? = some (.cells #[.bool false] 4 (0, 0))
 df : W.heap[s + 4]? = some (.deferred (some []))
 lp : W.heap[s + 5]? = some (.loop { lp with state := .done, pending := some .ret })
theorem CutMid.put {w : World} {s : Nat} {lp : Loop} {pre : List (List UInt8)} {W W' : World} (h : CutMid w s lp pre W) {o : Obj} (hp : Put W W' (s + 3) o) : CutMid w s lp pre W' := by
 have hm := hp.mv
 have ne : ∀ k, k ≠ s + 3 → some k ≠ some (s + 3) := fun k hk e => hk (Option.some.inj e)
 obtain ⟨v, hv, ho⟩ := h.loc
 refine ⟨h.ext.move hm (by rintro k ⟨⟩; have := h.hs; omega), h.hs, hm.at h.c0 (ne _ (by omega)), hm.at h.c1 (ne _ (by omega)), ⟨v, hm.at hv (ne _ (by omega)), ho.mv hm ?_⟩, hm.at h.df (ne _ (by omega)), hm.at h.lp (ne _ (by omega)), Nat.le_trans h.size hm.size⟩
 cases hb : v.ownBlock with
 | none => exact .inl rfl
 | some r => have := ho.block r hb; exact .inr (ne r (by omega))
set_option maxHeartbeats 1000000 in
theorem DF (nm : List UInt8) (w : World) : Calls Tryz.prog 104 #[aF nm] w (uT w fun v w' => match aU nm with
 | some ls => ∃ s, v = .tuple #[s, .bool true] ∧ Own w.heap.size 1 9 w' s (aI ls)
 | none => v = .tuple #[.slice none 0 0, .bool false]) := by
 refine jU Tryz.func104 rfl ?_
 simp only [Tryz.ntmps104, List.size_toArray, List.length_cons, List.length_nil, Nat.reduceAdd, Nat.reduceSub, Array.replicate_succ, Array.replicate_zero, List.push_toArray, List.append_toArray, List.nil_append, List.cons_append]
 refine_lift DE ?_; intro _ _ _
 refine aH (z := [.slice none 0 0]) rfl (by decide +kernel) ?_
 intro w1 x1 s1 h1
 refine aA ?_
 refine aH (z := [.bool false]) rfl (by decide +kernel) ?_
 intro w2 x2 s2 h2
 refine aA ?_
 rw [s1] at h2 ⊢
 have h1' := x2.at h1
 refine_lift DR (fun _ _ _ => ?_) (fun _ _ _ _ _ => ?_)
 ·rename_i hc
  refine cM (v := .slice none 0 0) rfl rfl rfl h1' (by decide +kernel) rfl ?_
  intro w3 p3
  have h23 := (p3.other _ (by omega)).trans h2
  refine cM (v := .bool false) rfl rfl rfl h23 (by decide +kernel) rfl ?_
  intro w4 p4
  have h14 := (p4.other _ (by omega)).trans p3.this
  refine_lift cI ?_
  refine nC (eT rfl rfl rfl h14 p4.this (by decide +kernel) (by decide +kernel)) ⟨_, rfl, ?_, ?_⟩
  ·exact ((x1.trans x2).move p3.mv (by rintro k ⟨⟩; omega)).move p4.mv (by rintro k ⟨⟩; omega)
  ·rw [aU, if_pos (by omega)]
 ·rename_i hc
  refine aH (z := [.slice none 0 0]) rfl (by decide +kernel) ?_
  intro w3 x3 s3 h3
  rw [s2, s1] at h3 s3 ⊢
  refine_lift sT fun _ _ _ _ => ?_
  refine aT (enters_of Tryz.func160 rfl rfl) rfl rfl (FI nm _) ?_
  rintro e w4 ⟨rfl, x4, s4, h4⟩
  refine ⟨_, rfl, ?_⟩
  rw [s3] at h4 s4
  refine aA ?_
  refine_lift EK ?_
  simp only [s3]
  have e4 : w4.heap.size = w.heap.size + 4 := by omega
  generalize hs : w.heap.size = s at *
  have g0 : w4.heap[s]? = _ := x4.at (x3.at h1')
  have g1 : w4.heap[s + 1]? = _ := x4.at (x3.at h2)
  have g2 : w4.heap[s + 2]? = _ := x4.at h3
  have g3 : w4.heap[s + 3]? = _ := h4
  have gx : Ext w w4 := ((x1.trans x2).trans x3).trans x4
  clear h1 h2 h1' h3 h4 x1 x2 x3 x4 s1 s2 s3 s4
  refine mK (caps := #[.pointer (some ⟨s + 3, 0, none⟩)]) rfl (enters_of Tryz.func208 rfl rfl) e4 ?_
  intro fn W lp hlp xW k4 k5 sW
  have hJ : CutMid w s lp [] W := ⟨gx.trans xW, hs, xW.at g0, xW.at g1, ⟨_, xW.at g2, Own.nil _ _ _ _⟩, k4, k5, by omega⟩
  have gb := xW.at g3
  have hrdy : lp.state = .ready ∧ lp.pending = none := by subst hlp; exact ⟨rfl, rfl⟩
  have hlab : aU nm = dG nm := by rw [aU, if_neg (by omega)]
  have hy : uH Tryz.prog (s + 5) (s + 3) lp (CutMid w s lp) (CutOut w s lp) := by
   constructor
   ·intro pre x rest W hpre hM hb
    subst hlp
    simp only [List.zip_toArray, List.zip_cons_cons, List.zip_nil_right, List.foldl_toArray', List.foldl_cons, List.foldl_nil, List.setIfInBounds_toArray, List.set_cons_succ, List.set_cons_zero, List.foldl_toArray, List.size_toArray, List.zip_toArray, List.length_cons, List.length_nil]
    have m0 := hM.c0
    have m1 := hM.c1
    obtain ⟨v, m2, mo⟩ := hM.loc
    have md := hM.df
    have ml := hM.lp
    have mx := hM.ext
    have ms := hM.size
    clear hM hJ gb xW k4 k5 sW g0 g1 g2 g3
    refine rI ?_
    repeat' (first | refine eA (by rfl) (by intro _ _ h; exact h) ?_ | ((with_reducible refine aG ?_); (first | (refine kW ?_; refine wU ?_) | (refine mL ?_; first | refine pB ?_ | refine uY ?_ | refine vB ?_ | refine uZ ?_ | ((first | refine uD ?_ ?_ | refine uE ?_ ?_) <;> intro hc)))) | ((fail_if_success (with_reducible refine aG ?_)); first | go_step | gi_step))
    refine ⟨_, ml, rfl, ?_⟩
    intro w2 p2
    have n0 := p2.at m0 (by omega)
    have n1 := p2.at m1 (by omega)
    have n2 := p2.at m2 (by omega)
    have no := mo.put p2 (by omega)
    have nb := p2.at hb (by omega)
    have nd := p2.at md (by omega)
    have nl := p2.this
    have nx := mx.move p2.mv (by rintro k ⟨⟩; omega)
    have ns : s + 6 ≤ w2.heap.size := Nat.le_trans ms p2.mv.size
    clear m0 m1 m2 mo hb md ml mx ms p2
    have hp2 := aC (cs := [v]) n2
    repeat' (first | refine eA (by rfl) (by intro _ _ h; exact h) ?_ | ((with_reducible refine aG ?_); (first | (refine kW ?_; refine wU ?_) | (refine mL ?_; first | refine pB ?_ | refine uY ?_ | refine vB ?_ | refine uZ ?_ | ((first | refine uD ?_ ?_ | refine uE ?_ ?_) <;> intro hc)))) | ((fail_if_success (with_reducible refine aG ?_)); first | go_step | gi_step))
    refine bY (xs := [aF x]) (k := 1) (e := 9) (bytes := 16) rfl rfl rfl (by intro y hy; simp at hy; subst hy; rfl) (by decide +kernel) (by simp) ?_
    intro v' w3 x3 s3 sl3 _
    refine aA ?_
    refine jA (B := s + 6) (k := 1) (e := 9) (bytes := 16) (x := v') rfl (no.ext x3) rfl sl3 (by decide +kernel) (by simp [aF, Value.cells]; rfl) (by have := x3.size; omega) (by simp [aI]; omega) (by simp [aI]; omega) ?_
    intro v2 w4 o4 mv4
    refine aA ?_
    have hv : Mv v.ownBlock w3 w4 := mv4
    have no3 := no.ext x3
    have q2 := no3.mvs hv (x3.at n2) (by omega)
    refine cM (v := v2) rfl rfl rfl q2 (by decide +kernel) o4.one ?_
    intro w5 p5
    have q0 := p5.at (no3.mvs hv (x3.at n0) (by omega)) (by omega)
    have q1 := p5.at (no3.mvs hv (x3.at n1) (by omega)) (by omega)
    have q3 := p5.at (no3.mvs hv (x3.at nb) (by omega)) (by omega)
    have q4 := p5.at (no3.mvs hv (x3.at nd) (by omega)) (by omega)
    have q5 := p5.at (no3.mvs hv (x3.at nl) (by omega)) (by omega)
    have qx := (no3.mvx hv (nx.trans x3) (by omega)).move p5.mv (by rintro k ⟨⟩; omega)
    have qs : s + 6 ≤ w5.heap.size := by have := x3.size; have := hv.size; have := p5.mv.size; omega
    have qo := o4.put p5 (by omega)
    have q2' := p5.this
    repeat' (first | refine eA (by rfl) (by intro _ _ h; exact h) ?_ | ((with_reducible refine aG ?_); (first | (refine kW ?_; refine wU ?_) | (refine mL ?_; first | refine pB ?_ | refine uY ?_ | refine vB ?_ | refine uZ ?_ | ((first | refine uD ?_ ?_ | refine uE ?_ ?_) <;> intro hc)))) | ((fail_if_success (with_reducible refine aG ?_)); first | go_step | gi_step))
    refine qH q5 fun w6 p6 => ⟨rfl, ⟨qx.move p6.mv (by rintro k ⟨⟩; omega), hs, p6.at q0 (by omega), p6.at q1 (by omega), ⟨v2, p6.at q2' (by omega), ?_⟩, p6.at q4 (by omega), p6.this, Nat.le_trans qs p6.mv.size⟩, p6.at q3 (by omega)⟩
    have := qo.put p6 (by omega)
    simpa [aI, aF, Value.cells] using this
   ·intro pre W hM
    subst hlp
    simp only [List.zip_toArray, List.zip_cons_cons, List.zip_nil_right, List.foldl_toArray', List.foldl_cons, List.foldl_nil, List.setIfInBounds_toArray, List.set_cons_succ, List.set_cons_zero, List.foldl_toArray, List.size_toArray, List.length_cons, List.length_nil]
    have m0 := hM.c0
    have m1 := hM.c1
    have md := hM.df
    have ml := hM.lp
    have mx := hM.ext
    clear hM hJ gb xW k4 k5 sW g0 g1 g2 g3
    refine rI ?_
    repeat' (first | refine eA (by rfl) (by intro _ _ h; exact h) ?_ | ((with_reducible refine aG ?_); (first | (refine kW ?_; refine wU ?_) | (refine mL ?_; first | refine pB ?_ | refine uY ?_ | refine vB ?_ | refine uZ ?_ | ((first | refine uD ?_ ?_ | refine uE ?_ ?_) <;> intro hc)))) | ((fail_if_success (with_reducible refine aG ?_)); first | go_step | gi_step))
    refine ⟨_, ml, rfl, ?_⟩
    intro w2 p2
    have n0 := p2.at m0 (by omega)
    have n1 := p2.at m1 (by omega)
    have nd := p2.at md (by omega)
    have nl := p2.this
    have nx := mx.move p2.mv (by rintro k ⟨⟩; omega)
    clear m0 m1 md ml mx p2
    repeat' (first | refine eA (by rfl) (by intro _ _ h; exact h) ?_ | ((with_reducible refine aG ?_); (first | (refine kW ?_; refine wU ?_) | (refine mL ?_; first | refine pB ?_ | refine uY ?_ | refine vB ?_ | refine uZ ?_ | ((first | refine uD ?_ ?_ | refine uE ?_ ?_) <;> intro hc)))) | ((fail_if_success (with_reducible refine aG ?_)); first | go_step | gi_step))
    refine cM (v := .slice none 0 0) rfl rfl rfl n0 (by decide +kernel) rfl ?_
    intro w3 p3
    refine cM (v := .bool false) rfl rfl rfl (p3.at n1 (by omega)) (by decide +kernel) rfl ?_
    intro w4 p4
    have q0 := p4.at p3.this (by omega)
    have q1 := p4.this
    have q4 := p4.at (p3.at nd (by omega)) (by omega)
    have q5 := p4.at (p3.at nl (by omega)) (by omega)
    have qx := (nx.move p3.mv (by rintro k ⟨⟩; omega)).move p4.mv (by rintro k ⟨⟩; omega)
    repeat' (first | refine eA (by rfl) (by intro _ _ h; exact h) ?_ | ((with_reducible refine aG ?_); (first | (refine kW ?_; refine wU ?_) | (refine mL ?_; first | refine pB ?_ | refine uY ?_ | refine vB ?_ | refine uZ ?_ | ((first | refine uD ?_ ?_ | refine uE ?_ ?_) <;> intro hc)))) | ((fail_if_success (with_reducible refine aG ?_)); first | go_step | gi_step))
    exact uV q5 fun w6 p6 => ⟨rfl, ⟨qx.move p6.mv (by rintro k ⟨⟩; omega), hs, p6.at q0 (by omega), p6.at q1 (by omega), p6.at q4 (by omega), p6.this⟩⟩
  refine (FH (s + 5) (s + 3) lp (CutMid w s lp) (CutOut w s lp) (by subst hlp; rfl) (fun _ _ h => h.lp) (fun _ _ _ _ h hp => h.put hp) hy nm W hJ gb (by omega)).mono ?_
  rintro e W' ⟨rfl, hR⟩
  refine ⟨⟨_, rfl⟩, ?_⟩
  clear hJ gb xW k4 k5 sW hy g0 g1 g2 g3
  cases hpn : dG nm with
  | some ls =>
   rw [hpn] at hR
   refine ⟨lp, hR.lp, by rw [hrdy.1]; simp, ?_⟩
   intro W2 hput
   rw [hrdy.2]
   clear hlp hrdy
   simp only
   have hm := hput.mv
   have ne : ∀ k, k ≠ s + 4 + 1 → some k ≠ some (s + 4 + 1) := fun k hk e => hk (Option.some.inj e)
   have f0 := hm.at hR.c0 (ne _ (by omega))
   have f1 := hm.at hR.c1 (ne _ (by omega))
   have fd := hm.at hR.df (ne _ (by omega))
   obtain ⟨v, f2, ho⟩ := hR.loc
   have fo : Own (s + 6) 1 9 W2 v (aI ls) := ho.put hput (by omega)
   have f2 := hm.at f2 (ne _ (by omega))
   have fx : Ext w W2 := hR.ext.move hm (by rintro k ⟨⟩; omega)
   have fs := Nat.le_trans hR.size hm.size
   clear hR hput hm
   have hp2 := aC (cs := [v]) f2
   refine_lift eJ fun _ _ => ?_
   refine cM (v := v) rfl rfl rfl f0 (by decide +kernel) fo.one ?_
   intro W3 p3
   refine cM (v := .bool true) rfl rfl rfl ((p3.other _ (by omega)).trans f1) (by decide +kernel) rfl ?_
   intro W4 p4
   have q0 := (p4.other _ (by omega)).trans p3.this
   have qd := (p4.other _ (by omega)).trans ((p3.other _ (by omega)).trans fd)
   have qx : Ext w W4 := (fx.move p3.mv (by rintro k ⟨⟩; omega)).move p4.mv (by rintro k ⟨⟩; omega)
   have qo : Own (s + 6) 1 9 W4 v (aI ls) := (fo.put p3 (by omega)).put p4 (by omega)
   have qf := (p4.this)
   refine_lift cI ?_
   refine lP qd fun W5 p5 => ⟨_, eT rfl rfl rfl (p5.at q0 (by omega)) (p5.at qf (by omega)) (by decide +kernel) (by decide +kernel), _, rfl, qx.move p5.mv (by rintro k ⟨⟩; omega), ?_⟩
   rw [hlab, hpn, hs]
   exact ⟨v, rfl, (qo.put p5 (by omega)).weaken (by omega)⟩
  | none =>
   rw [hpn] at hR
   refine ⟨_, hR.lp, by simp, ?_⟩
   intro W2 hput
   simp only
   have hm := hput.mv
   have ne : ∀ k, k ≠ s + 4 + 1 → some k ≠ some (s + 4 + 1) := fun k hk e => hk (Option.some.inj e)
   have f0 := hm.at hR.c0 (ne _ (by omega))
   have f1 := hm.at hR.c1 (ne _ (by omega))
   have fd := hm.at hR.df (ne _ (by omega))
   have fx : Ext w W2 := hR.ext.move hm (by rintro k ⟨⟩; omega)
   clear hlp hrdy
   refine_lift EK ?_
   refine lP fd fun W5 p5 => ⟨_, eT rfl rfl rfl (p5.at f0 (by omega)) (p5.at f1 (by omega)) (by decide +kernel) (by decide +kernel), _, rfl, fx.move p5.mv (by rintro k ⟨⟩; omega), ?_⟩
   rw [hlab, hpn]
open Go.RowKit Go.Proofs
theorem AI : (Tryz.prog.info? 231).map (·.size) = some 2 := by kernel_rfl
theorem CJ : liesAt Tryz.prog Tryz.prog.depth 231 (2 / Tryz.prog.cellsOf 231) 0 231 1 = true := by kernel_rfl
theorem AJ : (Tryz.prog.info? 5).map (fun i => (i.zero, i.size, i.bytes)) = some (some (.int .u8 0), 1, 1) := by kernel_rfl
set_option maxHeartbeats 1000000 in
set_option maxRecDepth 100000 in
theorem T.Builder_copyCheck_used (b : Nat) (w : World) (h0 : w.cell? ⟨b, 0, none⟩ = some (.pointer (some ⟨b, 0, none⟩))) :
 Calls Tryz.prog 209 #[.pointer (some ⟨b, 0, none⟩)] w fun e w' => e = .returned (.tuple #[]) ∧ w' = w := by
 obtain ⟨j, hj, _⟩ := Option.map_eq_some_iff.1 AI
 go_enter Tryz.func209, Tryz.ntmps209
 go_wp2
 rw [Lib.run_neq_ptr_same w _ Tryz.underlying229 hj]
 go_wp2
 go_end0
 exact ⟨rfl, rfl⟩
set_option maxHeartbeats 1000000 in
set_option maxRecDepth 100000 in
theorem T.Builder_copyCheck_fresh (b : Nat) (w : World) (h0 : w.cell? ⟨b, 0, none⟩ = some (.pointer none)) (hsh : w.shape? b = some (231, 2)) (hfz : w.frozen? ⟨b, 0, none⟩ = false) :
 Calls Tryz.prog 209 #[.pointer (some ⟨b, 0, none⟩)] w fun e w' => e = .returned (.tuple #[]) ∧ w' = w.setCell ⟨b, 0, none⟩ (.pointer (some ⟨b, 0, none⟩)) := by
 obtain ⟨j, hj, hjs⟩ := Option.map_eq_some_iff.1 AI
 go_enter Tryz.func209, Tryz.ntmps209
 go_wp2
 rw [Lib.run_to_unsafe w ⟨b, 0, none⟩ Tryz.underlying229 Tryz.underlying292 hj (by rw [hjs]; decide) hsh (Nat.zero_lt_succ 1)]
 simp only [Result.andThen]
 rw [Oper.upon_value]
 go_wp2
 rw [run_callFunc_extern Tryz.func255 (by kernel_rfl) (by kernel_rfl) (by kernel_rfl) (e := Extern.AbiNoEscape.same) (by kernel_rfl)]
 rw [Lib.run_noEscape]
 simp only [Result.andThen]
 rw [Oper.upon_value]
 go_wp2
 rw [Lib.run_from_unsafe w ⟨b, 0, none⟩ Tryz.underlying292 Tryz.underlying229 hj hsh CJ]
 simp only [Result.andThen]
 rw [Oper.upon_value]
 go_wp2
 go_end0
 exact ⟨rfl, rfl⟩
theorem T.Builder_copyCheck (B b : Nat) (bs : List Value) (w : World) (h : Lib.IsBuilder 231 5 B b bs w) :
 Calls Tryz.prog 209 #[.pointer (some ⟨b, 0, none⟩)] w fun e w' => e = .returned (.tuple #[]) ∧ (Lib.BuilderAt 231 5 B b (.pointer (some ⟨b, 0, none⟩)) bs w' ∧ Below B w w' ∧ w.drawn ≤ w'.drawn) := by
 rcases h with h | h
 ·refine (T.Builder_copyCheck_fresh b w h.cell0 h.shape h.frozen0).mono ?_
  rintro e w' ⟨rfl, rfl⟩
  exact ⟨rfl, h.used _, (Below.refl B w).setCell (p := ⟨b, 0, none⟩) h.1 _, Nat.le_refl _⟩
 ·refine (T.Builder_copyCheck_used b w h.cell0).mono ?_
  rintro e w' ⟨rfl, rfl⟩
  exact ⟨rfl, h, Below.refl B _, Nat.le_refl _⟩
set_option maxHeartbeats 2000000 in
set_option maxRecDepth 100000 in
theorem T.Builder_WriteByte (B b : Nat) (bs : List Value) (c : Int) (w : World) (h : Lib.IsBuilder 231 5 B b bs w) (hlen : bs.length + 1 ≤ 140737488355328) (hBw : B ≤ w.heap.size) :
 Calls Tryz.prog 162 #[.pointer (some ⟨b, 0, none⟩), .int .u8 c] w fun e w' => e = .returned .nilIface ∧ (Lib.BuilderAt 231 5 B b (.pointer (some ⟨b, 0, none⟩)) (bs ++ [.int .u8 c]) w' ∧ Below B w w' ∧ w.drawn ≤ w'.drawn) := by
 obtain ⟨i0, hi, hz0, hz1, hz2⟩ := info_parts AJ
 go_enter Tryz.func162, Tryz.ntmps162
 go_wp2_with (go_at_call 209; refine (T.Builder_copyCheck B b bs _ h).mono ?_)
 rintro e w1 ⟨rfl, h1, hb1, hd1⟩
 obtain ⟨hB, v, hbk, hown, hne⟩ := h1
 have c0 : w1.cell? ⟨b, 0, none⟩ = some (.pointer (some ⟨b, 0, none⟩)) := by rw [Lib.cell_of_heap hbk]; rfl
 have c1 : w1.cell? ⟨b, 1, none⟩ = some v := by rw [Lib.cell_of_heap hbk]; rfl
 go_wp2_with (at_builtin; refine tC rfl _ _ 66 rfl B 5 i0 (.int .u8 0) 1 1 Tryz.underlying66 hi hz0 hz1 hz2 rfl (by decide) _ _ _ rfl (hown.alloc _) ⟨w1.heap.size, 0, none⟩ 1 1 [.int .u8 c] rfl rfl ?c1 ?c2 ?c3 ?c4 ?c5 ?_)
 case c1 =>
  intro j u hj
  match j, hj with
  | 0, hj => simp at hj; subst hj; simp [Addr.add]
 case c2 => intro u hu; simp at hu; subst hu; rfl
 case c3 => unfold maxLen; omega
 case c4 => omega
 case c5 => have := hb1.size; simp; omega
 intro v' w2 hown' hgrow hd2
 have hlt : b < w1.heap.size := by
  rcases Nat.lt_or_ge b w1.heap.size with h' | h'
  ·exact h'
  ·simp [Array.getElem?_eq_none h'] at hbk
 have hb2 : w2.heap[b]? = some (.cells #[.pointer (some ⟨b, 0, none⟩), v] 231 (0, 0)) := by
  rw [hgrow.block b (by simp; omega) (fun e => hne e.symm), Lib.alloc_old w1 _ b hlt]
  exact hbk
 have d0 : w2.cell? ⟨b, 0, none⟩ = some (.pointer (some ⟨b, 0, none⟩)) := by rw [Lib.cell_of_heap hb2]; rfl
 have d1 : w2.cell? ⟨b, 1, none⟩ = some v := by rw [Lib.cell_of_heap hb2]; rfl
 have f1 : w2.frozen? ⟨b, 1, none⟩ = false := Lib.frozen_of_heap hb2 1
 obtain ⟨g, cap, rfl⟩ : ∃ g cap, v' = .slice (some ⟨g, 0, none⟩) (bs.length + 1) cap := by
  rcases hown'.2 with ⟨_, h0⟩ | ⟨g, cap, cur, hv, _⟩
  ·omega
  ·exact ⟨g, cap, hv⟩
 go_wp2
 go_ret
 refine ⟨rfl, ?_, ?_⟩
 ·exact Lib.BuilderAt.put (T := 231) (e := 5) hB hb2 (bs' := bs ++ [.int .u8 c]) (by simpa using hown') (by decide)
 ·exact ⟨((hb1.alloc (by have := hb1.size; omega) _).grown hgrow (by have := hb1.size; simp; omega) (fun k hk => (hown.lt k hk).1)).setCell (p := ⟨b, 1, none⟩) hB _, Nat.le_trans hd1 hd2⟩
set_option maxHeartbeats 2000000 in
set_option maxRecDepth 100000 in
theorem T.Builder_WriteString (B b : Nat) (bs : List Value) (s : ByteArray) (w : World) (h : Lib.IsBuilder 231 5 B b bs w) (hlen : bs.length + s.size ≤ 140737488355328) (hBw : B ≤ w.heap.size) :
 Calls Tryz.prog 163 #[.pointer (some ⟨b, 0, none⟩), .string s] w fun e w' => e = .returned (.tuple #[.int .i64 s.size, .nilIface]) ∧ (Lib.BuilderAt 231 5 B b (.pointer (some ⟨b, 0, none⟩)) (bs ++ Lib.strCells s) w' ∧ Below B w w' ∧ w.drawn ≤ w'.drawn) := by
 obtain ⟨i0, hi, hz0, hz1, hz2⟩ := info_parts AJ
 go_enter Tryz.func163, Tryz.ntmps163
 go_wp2_with (go_at_call 209; refine (T.Builder_copyCheck B b bs _ h).mono ?_)
 rintro e w1 ⟨rfl, h1, hb1, hd1⟩
 obtain ⟨hB, v, hbk, hown, hne⟩ := h1
 have c0 : w1.cell? ⟨b, 0, none⟩ = some (.pointer (some ⟨b, 0, none⟩)) := by rw [Lib.cell_of_heap hbk]; rfl
 have c1 : w1.cell? ⟨b, 1, none⟩ = some v := by rw [Lib.cell_of_heap hbk]; rfl
 go_wp2_with (at_builtin; refine rJ rfl _ _ 66 9 rfl B 5 i0 Tryz.underlying66 Tryz.underlying9 hi hz0 hz1 hz2 _ _ _ rfl hown s rfl ?c3 ?c4 ?c5 ?_)
 case c3 => unfold maxLen; omega
 case c4 => omega
 case c5 => have := hb1.size; omega
 intro v' w2 hown' hgrow hd2
 have hlt : b < w1.heap.size := by
  rcases Nat.lt_or_ge b w1.heap.size with h' | h'
  ·exact h'
  ·simp [Array.getElem?_eq_none h'] at hbk
 have hb2 : w2.heap[b]? = some (.cells #[.pointer (some ⟨b, 0, none⟩), v] 231 (0, 0)) := by
  rw [hgrow.block b hlt (fun e => hne e.symm)]
  exact hbk
 have d0 : w2.cell? ⟨b, 0, none⟩ = some (.pointer (some ⟨b, 0, none⟩)) := by rw [Lib.cell_of_heap hb2]; rfl
 have d1 : w2.cell? ⟨b, 1, none⟩ = some v := by rw [Lib.cell_of_heap hb2]; rfl
 have f1 : w2.frozen? ⟨b, 1, none⟩ = false := Lib.frozen_of_heap hb2 1
 obtain ⟨ao, n', cap, rfl⟩ : ∃ ao n' cap, v' = .slice ao n' cap := by
  rcases hown'.2 with ⟨hv, _⟩ | ⟨g, cap, cur, hv, _⟩
  ·exact ⟨_, _, _, hv⟩
  ·exact ⟨_, _, _, hv⟩
 go_wp2
 go_ret2
 refine ⟨rfl, ?_, ?_⟩
 ·exact Lib.BuilderAt.put (T := 231) (e := 5) hB hb2 (bs' := bs ++ Lib.strCells s) (by simpa [Lib.strCells_length] using hown') (by decide)
 ·exact ⟨(hb1.grown hgrow (by have := hb1.size; omega) (fun k hk => (hown.lt k hk).1)).setCell (p := ⟨b, 1, none⟩) hB _, Nat.le_trans hd1 hd2⟩
theorem Ext.heapEq {w w1 : World} (h : w1.heap = w.heap) {k : Nat} {o : Obj} (hk : w.heap[k]? = some o) : w1.heap[k]? = some o := by rw [h]; exact hk
theorem tF {w0 w : World} (h : Ext w0 w) {g n : Nat} (hg : w0.heap.size ≤ g) : Ext w0 (w.freeze ⟨g, 0, none⟩ n) := by
 unfold World.freeze
 split
 ·exact h
 ·refine ⟨h.os, h.tape, h.output, by simpa using h.size, fun k hk => ?_, h.drawn⟩
  have hne : g ≠ k := by omega
  simp only [Array.getElem?_modify]
  rw [if_neg hne]
  exact h.block k hk
set_option maxHeartbeats 1000000 in
theorem T.Builder_String (B b : Nat) (l : List UInt8) (w0 w : World) (h : Lib.IsBuilder 231 5 B b (Lib.byteCells l) w) (hx0 : Ext w0 w) (hB : w0.heap.size ≤ B) (hlen : l.length ≤ 9223372036854775807) :
 Calls Tryz.prog 164 #[.pointer (some ⟨b, 0, none⟩)] w fun e w' => e = .returned (aF l) ∧ Ext w0 w' := by
 obtain ⟨p, hbB, v, hbk, hown, hne⟩ : ∃ p, Lib.BuilderAt 231 5 B b p (Lib.byteCells l) w := by
  rcases h with h | h <;> exact ⟨_, h⟩
 go_enter Tryz.func164, Tryz.ntmps164
 refine_lift BX ?_; intro _ _ _
 refine cN (S := fun w' => Ext w0 w' ∧ w'.heap[b]? = some (.cells #[p, v] 231 (0, 0))) (by decide +kernel) ?_
 intro w1 x1 hh1
 have hS : Ext w0 w1 ∧ w1.heap[b]? = some (.cells #[p, v] 231 (0, 0)) := ⟨hx0.trans x1, Ext.heapEq hh1 hbk⟩
 have hsl' := (Own.sl (B := B) (k := 1) (e := 5) (es := aZ l) ⟨by rw [gY]; simpa [aZ, Lib.byteCells] using fF hown, by simp [aZ]⟩)
 ((with_reducible apply bI (i := 0)); (rfl); (rfl); (decide +kernel); (decide +kernel); (decide +kernel); (rfl); (exact hS); (intro w9 hS9; (have hp := aC (cs := [p, v]) hS9.2); exact rn); (exact fun _ _ _ h => h); (refine aA ?_)); ((with_reducible apply bI (i := 1)); (rfl); (rfl); (decide +kernel); (decide +kernel); (decide +kernel); (rfl); (exact hS); (intro w9 hS9; (have hp := aC (cs := [p, v]) hS9.2); exact rn); (exact fun _ _ _ h => h); (refine aA ?_)); ((with_reducible apply bI (i := 2)); (rfl); (rfl); (decide +kernel); (decide +kernel); (decide +kernel); (rfl); (exact hS); (intro w9 hS9; (have hp := aC (cs := [p, v]) hS9.2); exact rn); (exact fun _ _ _ h => h); (refine aA ?_)); ((with_reducible apply bI (i := 3)); (rfl); (rfl); (decide +kernel); (decide +kernel); (decide +kernel); (rfl); (exact hS); (intro w9 hS9; (have hp := aC (cs := [p, v]) hS9.2); exact rn); (exact fun _ _ _ h => h); (refine aA ?_)); ((with_reducible apply bI (i := 5)); (rfl); (rfl); (decide +kernel); (decide +kernel); (decide +kernel); (rfl); (exact hS); (intro w9 hS9; (have hp := aC (cs := [p, v]) hS9.2); exact rn); (exact fun _ _ _ h => h); (refine aA ?_)); ((with_reducible apply bI (i := 6)); (rfl); (rfl); (decide +kernel); (decide +kernel); (decide +kernel); (rfl); (exact hS); (intro w9 hS9; (have hp := aC (cs := [p, v]) hS9.2); exact rn); (exact fun _ _ _ h => h); (refine aA ?_)); ((with_reducible apply bI (i := 7)); (rfl); (rfl); (decide +kernel); (decide +kernel); (decide +kernel); (rfl); (exact hS); (intro w9 hS9; (have hp := aC (cs := [p, v]) hS9.2); exact rn); (exact fun _ _ _ h => h); (refine aA ?_)); ((with_reducible apply bI (i := 8)); (rfl); (rfl); (decide +kernel); (decide +kernel); (decide +kernel); (rfl); (exact hS); (intro w9 hS9; (have hp := aC (cs := [p, v]) hS9.2); exact rn); (exact fun _ _ _ h => h); (refine aA ?_))
 have hsz : ∀ w', (Sl 1 w' v (aZ l)) ∨ True := fun _ => .inr trivial
 refine bI (i := 9) (v := .int .i64 ((aZ l).length : Nat)) rfl rfl (by decide +kernel) (by decide +kernel) (by decide +kernel) rfl hS (fun w' _ => ?_) (fun _ _ _ h => h) ?_
 ·obtain ⟨ad, cap, h1, _⟩ := hsl'.out
  obtain ⟨e, i, ht, _⟩ := cV (P := Tryz.prog) (t := 66) (k := 1) (by decide +kernel)
  exact ⟨by simp [execOp, resolve, invoke, builtin, Act.eval, h1, Builtin.len_, run_underlying ht, goInt]⟩
 refine aA ?_
 have hlb : (aZ l).length = l.length := by simp [aZ]
 have hE : Ext w0 w1 := hx0.trans x1
 obtain ⟨q, w2, hr2, x2, hq⟩ : ∃ q w2, (Builtin.unsafeSliceData_ #[66] 266 #[v]).run Tryz.prog w1 = .ok (.pointer q) w2 ∧ Ext w1 w2 ∧ (l ≠ [] → ∃ g cur, q = some ⟨g, 0, none⟩ ∧ B ≤ g ∧ w2.heap[g]? = some (.cells cur 5 (0, 0)) ∧ l.length ≤ cur.size ∧ ∀ j x, l[j]? = some x → w2.cell? ⟨g, j, none⟩ = some (.int .u8 (x.toNat : Nat))) := by
  rcases hown.2 with ⟨rfl, h0⟩ | ⟨g, cap, cur, rfl, hbg, hg, hnc, hcm, hcs, htake⟩
  ·refine ⟨none, w1, rfl, Ext.refl _, fun hne => absurd (List.eq_nil_of_length_eq_zero ?_) hne⟩
   simpa [Lib.byteCells] using h0
  ·have hg1 : w1.heap[g]? = some (.cells cur 5 (0, 0)) := Ext.heapEq hh1 hg
   by_cases hc : cap = 0
   ·subst hc
    have hl0 : l = [] := List.eq_nil_of_length_eq_zero (by simpa [Lib.byteCells] using hnc)
    exact ⟨_, _, Lib.run_unsafeSliceData_zero w1 _ _ 5 Tryz.underlying266 ⟨g, 0, none⟩ _ (5, cur.size) (by simp [World.shape?, hg1]), Ext.alloc _ _, fun hne => absurd hl0 hne⟩
   ·refine ⟨_, w1, Lib.run_unsafeSliceData_row _ _ _ _ _ _ hc, Ext.refl _, fun _ => ⟨g, cur, rfl, hbg, hg1, ?_, fun j x hj => ?_⟩⟩
    ·have : l.length ≤ cap := by simpa [Lib.byteCells] using hnc
     omega
    ·rw [cell_of_row w1 g j cur 5 _ hg1]
     have := congrArg (·[j]?) htake
     have hjl : j < l.length := (List.getElem?_eq_some_iff.1 hj).1
     simp only [List.getElem?_take] at this
     rw [if_pos (by simpa [Lib.byteCells] using hjl)] at this
     rw [← Array.getElem?_toList, this]
     simp [Lib.byteCells, hj]
 refine bR (i := 4) (by decide +kernel) rfl rfl ?_
 refine mU rfl (w' := w2) (v := .pointer q) (by simp [execOp, resolve, invoke, builtin, cT, Act.eval, hr2]) ?_
 refine aA ?_
 have hb1 : b < w1.heap.size := (Array.getElem?_eq_some_iff.1 hS.2).1
 refine aQ ⟨⟨hE.trans x2, x2.at hS.2⟩, ?_⟩
 have hE2 : Ext w0 w2 := hE.trans x2
 obtain ⟨w3, hr3, x3, hb3⟩ : ∃ w3, (Builtin.unsafeString_ #[266, 3] 9 #[.pointer q, .int .i64 ((aZ l).length : Nat)]).run Tryz.prog w2 = .ok (aF l) w3 ∧ Ext w0 w3 ∧ w3.heap[b]? = some (.cells #[p, v] 231 (0, 0)) := by
  by_cases hl0 : l = []
  ·subst hl0
   exact ⟨w2, Lib.run_unsafeString_none w2 _ _ _ q, hE2, x2.at hS.2⟩
  ·obtain ⟨g, cur, rfl, hbg, hg2, hcl, hcell⟩ := hq hl0
   refine ⟨_, by rw [hlb]; exact Lib.run_unsafeString_row w2 266 3 9 5 Tryz.underlying266 (by decide +kernel) g cur.size (by simp [World.shape?, hg2]) l hl0 hcl hlen (fun j x hj => by rw [cB, Nat.zero_add]; exact hcell j x hj), tF hE2 (by omega), ?_⟩
   have hgb : g ≠ b := by
    rintro rfl
    rw [x2.at hS.2] at hg2
    simp at hg2
   unfold World.freeze
   split
   ·exact x2.at hS.2
   ·simp only [Array.getElem?_modify]
    rw [if_neg hgb]
    exact x2.at hS.2
 refine bR (i := 10) (by decide +kernel) rfl rfl ?_
 refine mU rfl (w' := w3) (v := aF l) (by rw [hlb] at hr3; simp [execOp, resolve, invoke, builtin, Act.eval, hlb, hr3]) ?_
 refine aA ?_
 refine aQ ⟨⟨x3, hb3⟩, ?_⟩
 refine bR (i := 11) (by decide +kernel) rfl rfl ?_
 refine_lift cI ?_
 refine ⟨⟨x3, hb3⟩, ?_⟩
 refine cK (by decide +kernel) ?_
 refine_lift cI ?_
 go_ret
 exact ⟨rfl, x3⟩
theorem gN (a b : List (List UInt8)) : enc (a ++ b) = enc a ++ enc b := by simp [enc]
theorem qN (x : List UInt8) : enc [x] = UInt8.ofNat x.length :: x := by simp [enc]
theorem nS {ls : List (List UInt8)} {x : List UInt8} (h : x ∈ ls) (hb : fL x = false) : gJ ls = none := by
 rw [gJ, if_neg]
 rintro ⟨h1, _⟩
 have := List.all_eq_true.1 h1 x h
 rw [hb] at this
 cases this
theorem pH {ls : List (List UInt8)} {k : Nat} (h : 254 < (enc (ls.take k)).length) : gJ ls = none := by
 rw [gJ, if_neg]
 rintro ⟨_, h2⟩
 have : enc ls = enc (ls.take k) ++ enc (ls.drop k) := by rw [← gN, List.take_append_drop]
 rw [this, List.length_append] at h2
 omega
theorem lC (a b : List UInt8) : Lib.byteCells (a ++ b) = Lib.byteCells a ++ Lib.byteCells b := by simp [Lib.byteCells]
theorem eD (a : List UInt8) : (Lib.byteCells a).length = a.length := by simp [Lib.byteCells]
set_option maxHeartbeats 1000000 in
theorem FJ (v : Value) (ls : List (List UInt8)) (w : World) (h : Sl 1 w v (aI ls)) (hl : ls.length ≤ 9223372036854775806) : Calls Tryz.prog 107 #[v] w (bS w (match gJ ls with | some n => .tuple #[aF n, .int .i64 0] | none => .tuple #[aF [], .int .i64 1])) := by
 go_enter Tryz.func107, Tryz.ntmps107
 refine_lift DE ?_; intro _ _ _
 refine_lift eJ fun _ _ => ?_
 refine aH (z := [.pointer none, .slice none 0 0]) rfl (by decide +kernel) ?_
 intro w1 x1 s1 h1
 refine aA ?_
 have hb : Lib.IsBuilder 231 5 w.heap.size w.heap.size (Lib.byteCells []) w1 := .inl ⟨Nat.le_refl _, .slice none 0 0, h1, World.ownsRow_nil _ _ _ _, by simp [Value.ownBlock]⟩
 have hs := h.ext x1
 refine_lift eJ fun _ _ => ?_
 clear hs
 have hlt : (aI ls).length = ls.length := by simp [aI]
 rw [hlt]
 go_loopw [9] (fun i wr => ∃ k : Nat, k ≤ ls.length ∧ i = .int .i64 k ∧ Ext w wr ∧ Lib.IsBuilder 231 5 w.heap.size w.heap.size (Lib.byteCells (enc (ls.take k))) wr ∧ (ls.take k).all fL = true ∧ (enc (ls.take k)).length ≤ 318) (fun i _ => ls.length - (intOf i).toNat)
 case atStart => exact ⟨0, Nat.zero_le _, rfl, x1, hb, rfl, by simp [enc]⟩
 case round =>
  obtain ⟨k, hk, rfl, hx, hbk, hall, h318⟩ := hrel
  have hsl := h.ext hx
  by_cases hlt : k < ls.length
  ·have hp := hsl.elem (e := [aF ls[k]]) (i := k) (by simp [aI, hlt])
   have hmem : ls[k] ∈ ls := List.getElem_mem hlt
   (repeat' first | ((with_reducible refine aJ ?_); go_step) | ((with_reducible refine aG ?_); first | refine gE ?_ | (refine aK ?_ ?_ <;> intro hc)) | fail)
   ·rename_i hc0 hc1 hc2
    refine aT (enters_of Tryz.func161 rfl rfl) rfl rfl (Tryz.Builder_Len _ _ _ _ hbk) ?_
    rintro e w2 ⟨rfl, rfl⟩
    refine ⟨_, rfl, ?_⟩
    refine aA ?_
    rw [eD]
    refine_lift AZ (fun _ _ _ => ?_) (fun _ => ?_)
    ·rename_i hc3
     go_ret2
     refine ⟨?_, hx⟩
     rw [pH (k := k) (by omega)]
     rfl
    ·rename_i hc3
     have h63 : ls[k].length ≤ 63 := by omega
     have e8 : IntKind.wrap .u8 ((ls[k].length : Nat) : Int) = ((ls[k].length : Nat) : Int) := by simp [IntKind.wrap, IntKind.bits, IntKind.signed]; omega
     rw [e8]
     refine aT (enters_of Tryz.func162 rfl rfl) rfl rfl (T.Builder_WriteByte _ _ _ _ _ hbk (by rw [eD]; omega) hx.size) ?_
     rintro e w3 ⟨rfl, hb3, bl3, dr3⟩
     refine ⟨_, rfl, ?_⟩
     refine aA ?_
     refine_lift cI ?_
     refine aT (enters_of Tryz.func163 rfl rfl) rfl rfl (T.Builder_WriteString _ _ _ _ _ (.inr hb3) (by rw [List.length_append, eD, cQ]; simp; omega) (Nat.le_trans hx.size bl3.size)) ?_
     rintro e w4 ⟨rfl, hb4, bl4, dr4⟩
     refine ⟨_, rfl, ?_⟩
     refine aA ?_
     have hx4 : Ext w w4 := hx.below' (bl3.trans bl4) (Nat.le_trans dr3 dr4)
     have hb5 : Lib.IsBuilder 231 5 w.heap.size w.heap.size (Lib.byteCells (enc (ls.take (k + 1)))) w4 := by
      rw [List.take_add_one, List.getElem?_eq_getElem hlt, Option.toList_some, gN, qN, lC]
      have e : Lib.byteCells (UInt8.ofNat ls[k].length :: ls[k]) = Value.int .u8 (ls[k].length : Nat) :: Lib.strCells ⟨ls[k].toArray⟩ := by
       have : (UInt8.ofNat ls[k].length).toNat = ls[k].length := by simp; omega
       simp [Lib.byteCells, Lib.strCells, this]
      rw [e]
      refine .inr ?_
      simpa using hb4
     have hall2 : (ls.take (k + 1)).all fL = true := by
      rw [List.take_add_one, List.getElem?_eq_getElem hlt, Option.toList_some, List.all_append, hall]
      have : ls[k].length ≠ 0 := fun e => hc2 (List.eq_nil_of_length_eq_zero e)
      simp [fL]; omega
     have h3182 : (enc (ls.take (k + 1))).length ≤ 318 := by
      rw [List.take_add_one, List.getElem?_eq_getElem hlt, Option.toList_some, gN, qN]
      simp; omega
     clear hbk hb3 hb4 bl3 bl4 hsl hp
     refine_lift cI ?_
     exact ⟨⟨k + 1, by omega, rfl, hx4, hb5, hall2, h3182⟩, by simp [intOf]; omega⟩
   ·go_ret2
    refine ⟨?_, hx⟩
    rw [nS hmem (by simp [fL]; omega)]
    rfl
   ·go_ret2
    refine ⟨?_, hx⟩
    rw [nS hmem (by simp [fL, hc])]
    rfl
  ·have : k = ls.length := by omega
   subst this
   rw [List.take_length] at hbk hall h318
   refine_lift EL fun _ _ _ _ _ => ?_
   refine aT (enters_of Tryz.func161 rfl rfl) rfl rfl (Tryz.Builder_Len _ _ _ _ hbk) ?_
   rintro e w2 ⟨rfl, rfl⟩
   refine ⟨_, rfl, ?_⟩
   refine aA ?_
   rw [eD]
   refine_lift AZ (fun _ _ _ => ?_) (fun _ => ?_)
   ·go_ret2
    refine ⟨?_, hx⟩
    rw [pH (k := ls.length) (by rw [List.take_length]; omega)]
    rfl
   ·refine aT (enters_of Tryz.func164 rfl rfl) rfl rfl (T.Builder_String _ _ _ w _ hbk hx (Nat.le_refl _) (by omega)) ?_
    rintro e w3 ⟨rfl, x3⟩
    refine ⟨_, rfl, ?_⟩
    refine aA ?_
    refine_lift cI ?_
    go_ret2
    refine ⟨?_, x3⟩
    rw [gJ, if_pos ⟨hall, by omega⟩]
    rfl
theorem jJ (l : List (List UInt8)) (k : Nat) (b : List UInt8) (h : l[k]? = some b) : (aI l)[k]? = some [aF b] := by simp [aI, h]
theorem nT (l : List (List UInt8)) (k : Nat) (b : List UInt8) : (aI l).set k [aF b] = aI (l.set k b) := by simp [aI, List.map_set]
theorem bA (l : List (List UInt8)) : (aI l).length = l.length := by simp [aI]
set_option maxHeartbeats 1000000 in
theorem uI (nm : List UInt8) (w : World) : Calls Tryz.prog 57 #[aF nm] w (bS w (aF (fold nm))) := by
 go_enter Tryz.func57, Tryz.ntmps57
 refine_lift eJ fun _ _ => ?_
 refine aO (enters_of Tryz.func104 rfl rfl) rfl rfl (DF nm _) ?_
 intro v w1 x1 hv
 cases hl : aU nm with
 | none =>
  rw [hl] at hv
  subst hv
  refine_lift cI ?_
  go_ret
  exact ⟨by simp [fold, hl], x1⟩
 | some ls =>
  rw [hl] at hv
  obtain ⟨s, rfl, hs⟩ := hv
  have hfit := eB hl
  have hlen := jE ls
  rw [hfit.2.1] at hlen
  have hsl := hs.sl
  refine_lift eJ fun _ _ => ?_
  clear hsl
  rw [bA]
  go_loopw [19] (fun i wr => ∃ k : Nat, k ≤ ls.length ∧ i = .int .i64 k ∧ Ext w wr ∧ Own w.heap.size 1 9 wr s (aI (jD low ls k))) (fun i _ => ls.length - (intOf i).toNat)
  case atStart => exact ⟨0, Nat.zero_le _, rfl, x1, by simpa [pD] using hs⟩
  case round =>
   obtain ⟨k, hk, rfl, hx, ho⟩ := hrel
   have hsl := ho.sl
   have hlen2 : (aI (jD low ls k)).length = ls.length := by rw [bA, lS]
   by_cases hlt : k < ls.length
   ·have hp := hsl.elem (jJ _ _ _ (rO low ls k hlt))
    have h254 : ls[k].length ≤ 254 := by have := jF (List.getElem_mem hlt); rw [hfit.2.1] at this; omega
    refine_lift sT ?_; intro _ _ _ _
    refine aB (enters_of Tryz.func106 rfl rfl) rfl rfl (FG _ _ h254) ?_
    intro w2 x2
    refine aA ?_
    have hsl := hsl.ext x2
    have ho := ho.ext x2
    have hx := hx.trans x2
    clear hp
    refine_lift cI ?_
    refine fG (c := aF (low ls[k])) (i := k) rfl rfl rfl ho (by omega) (by decide +kernel) rfl ?_
    intro w3 o3 m3
    have hx3 := ho.mvx m3 hx (Nat.le_refl _)
    rw [nT, ← pE low ls k hlt] at o3
    clear hx ho hsl
    refine_lift cI ?_
    exact ⟨⟨k + 1, by omega, rfl, hx3, o3⟩, by simp [intOf]; omega⟩
   ·have : k = ls.length := by omega
    subst this
    rw [rN] at hsl
    refine_lift BX fun _ _ _ => ?_
    refine aB (enters_of Tryz.func107 rfl rfl) rfl rfl (FJ _ _ _ hsl (by simp; omega)) ?_
    intro w2 x2
    refine aA ?_
    cases hj : gJ (ls.map low) with
    | none =>
     refine_lift cI ?_
     go_ret
     exact ⟨by simp [fold, hl, hj], hx.trans x2⟩
    | some n =>
     refine_lift cI ?_
     go_ret
     exact ⟨by simp [fold, hl, hj], hx.trans x2⟩
theorem wY {l : List UInt8} {i : Nat} (h : i < l.length) : l.drop i = l[i] :: l.drop (i + 1) := List.drop_eq_getElem_cons h
theorem wZ {l : List UInt8} {i : Nat} (h : i < l.length) : l.getD i 0 = l[i] := by simp [h]
theorem xA {l : List UInt8} {i : Nat} (h : i < l.length) : dG (l.drop i) = if (l.getD i 0).toNat < 1 ∨ 63 < (l.getD i 0).toNat ∨ l.length - i - 1 < (l.getD i 0).toNat then none else (dG (l.drop (i + 1 + (l.getD i 0).toNat))).map ((l.take (i + 1 + (l.getD i 0).toNat)).drop (i + 1) :: ·) := by
 rw [wY h, wZ h, eV]
 simp only [List.length_drop]
 rw [show l.length - (i + 1) = l.length - i - 1 by omega]
 congr 1
 rw [List.drop_drop, List.drop_take]
 rw [show i + 1 + l[i].toNat - (i + 1) = l[i].toNat by omega]
set_option maxHeartbeats 1000000 in
theorem BB (nm : List UInt8) (w : World) : Calls Tryz.prog 59 #[aF nm] w (uT w fun v w' => match aU nm with
 | none => v = .tuple #[.slice none 0 0, .bool false]
 | some ls => ∃ s, v = .tuple #[s, .bool true] ∧ Own w.heap.size 1 9 w' s (aI ls)) := by
 by_cases h254 : 254 < nm.length
 ·go_enter Tryz.func59, Tryz.ntmps59
  refine_lift wN fun _ => ?_
  go_ret2
  exact ⟨_, rfl, Ext.refl _, by simp [aU, h254]⟩
 ·have hlab : aU nm = dG nm := by rw [aU, if_neg h254]
  rw [hlab]
  go_enter Tryz.func59, Tryz.ntmps59
  refine_lift sT ?_; intro _ _ _ _
  have h0 : 0 ≤ nm.length := Nat.zero_le _
  go_loopw [4, 5, 6] (fun o a _ wr => ∃ (i : Nat) (pre : List (List UInt8)), i ≤ nm.length ∧ a = .int .i64 i ∧ Ext w wr ∧ Own w.heap.size 1 9 wr o (aI pre) ∧ pre.length ≤ i ∧ dG nm = (dG (nm.drop i)).map (pre ++ ·)) (fun _ a _ _ => nm.length - (intOf a).toNat)
  case atStart => exact ⟨0, [], Nat.zero_le _, rfl, Ext.refl _, Own.nil _ _ _ _, Nat.le_refl _, by simp⟩
  case round =>
   obtain ⟨i, pre, hi, rfl, hx, ho, hpl, hpar⟩ := hrel
   by_cases hlt : i < nm.length
   ·rw [xA hlt] at hpar
    have hb : (nm.getD i 0).toNat < 256 := UInt8.toNat_lt _
    (repeat' first | ((with_reducible refine aJ ?_); go_step) | ((with_reducible refine aG ?_); first | refine gE ?_ | (refine aK ?_ ?_ <;> intro hc)) | fail)
    rotate_left
    ·rw [if_neg (by omega), Option.map_map] at hpar
     refine CC [aF ((nm.take (i + 1 + (nm.getD i 0).toNat)).drop (i + 1))] hx ho (by rw [bA]; omega) ?_
     intro s2 v2 w1 w2 _ _ x2 o2
     refine aA ?_
     refine_lift cI ?_
     refine ⟨⟨i + 1 + (nm.getD i 0).toNat, pre ++ [(nm.take (i + 1 + (nm.getD i 0).toNat)).drop (i + 1)], by omega, by go_num, x2, ?_, by simp; omega, ?_⟩, by simp [intOf]; omega⟩
     ·simpa [aI] using o2
     ·rw [hpar]; congr 1; funext x; simp
    all_goals
     go_ret2
     exact ⟨_, rfl, hx, by rw [hpar, if_pos (by omega)]; rfl⟩
   ·have : i = nm.length := by omega
    subst this
    rw [List.drop_length, kY, Option.map_some, List.append_nil] at hpar
    refine_lift wN fun _ => ?_
    go_ret2
    exact ⟨_, rfl, hx, by rw [hpar]; exact ⟨_, rfl, ho⟩⟩
theorem vG {b : UInt8} (h : 65 ≤ b.toNat) (h2 : b.toNat ≤ 90) : IntKind.wrap .u8 ((b.toNat : Int) + 32) = ((kZ b).toNat : Int) := by
 rw [kZ, if_pos ⟨h, h2⟩]
 have : (b + 32).toNat = b.toNat + 32 := by rw [UInt8.toNat_add]; simp; omega
 rw [this]
 simp [IntKind.wrap, IntKind.bits, IntKind.signed]; omega
set_option maxHeartbeats 1000000 in
theorem xB (l : List UInt8) (w : World) (hl : l.length ≤ 4611686018427387904) : Calls Tryz.prog 60 #[aF l] w (bS w (aF (low l))) := by
 go_enter Tryz.func60, Tryz.ntmps60
 refine_lift eJ fun _ _ => ?_
 refine kV (e := 5) (l := l) rfl rfl (by decide +kernel) (by decide +kernel) (by omega) ?_
 intro v w1 x1 o1
 refine aA ?_
 have hlb : (aZ l).length = l.length := by simp [aZ]
 refine_lift eJ fun _ _ => ?_
 go_loopw [4] (fun i wr => ∃ k : Nat, k ≤ l.length ∧ i = .int .i64 k ∧ Ext w wr ∧ Own w.heap.size 1 5 wr v (aZ (fM l k))) (fun i _ => l.length - (intOf i).toNat)
 case atStart => exact ⟨0, Nat.zero_le _, rfl, x1, by simpa [pC] using o1⟩
 case round =>
  obtain ⟨k, hk, rfl, hx, ho⟩ := hrel
  have hsl := ho.sl
  have hlen : (aZ (fM l k)).length = l.length := by simp [aZ, hU]
  by_cases hlt : k < l.length
  ·have hp := hsl.elem (nP _ _ _ (nL l k hlt))
   (repeat' first | ((with_reducible refine aJ ?_); go_step) | ((with_reducible refine aG ?_); first | refine gE ?_ | (refine aK ?_ ?_ <;> intro hc)) | fail)
   ·refine fG (c := .int .u8 _) (i := k) rfl rfl rfl ho (by omega) (by decide +kernel) rfl ?_
    intro w2 o2 m2
    have hx2 := ho.mvx m2 hx (Nat.le_refl _)
    have e2 : (aZ (fM l k)).set k [Value.int .u8 (IntKind.u8.wrap (↑l[k].toNat + 32))] = aZ (fM l (k + 1)) := by
     rw [lA l k hlt, ← nQ, vG (by omega) (by omega)]
    rw [e2] at o2
    clear hx ho hsl hp
    refine_lift cI ?_
    exact ⟨⟨k + 1, by omega, by go_num, hx2, o2⟩, by simp [intOf]; omega⟩
   all_goals
    refine ⟨⟨k + 1, by omega, by go_num, hx, ?_⟩, by simp [intOf]; omega⟩
    rw [lB l k hlt (qK (by omega))]; exact ho
  ·have : k = l.length := by omega
   subst this
   rw [rM] at hsl hlen
   refine_lift wN fun _ => ?_
   go_ret
   exact ⟨rfl, hx⟩
theorem EM {B : Nat} {v : Value} {ls : List (List UInt8)} {w : World} (h : Own B 1 9 w v (aI ls)) : Calls Tryz.prog 166 #[v] w fun e w' => e = .returned (.tuple #[]) ∧ Own B 1 9 w' v (aI ls.reverse) ∧ Mv v.ownBlock w w' := by
 rcases h.form with ⟨rfl, h0⟩ | ⟨g, cap, rfl, hg, hB, hc, hm⟩
 ·have : ls = [] := by simpa [aI] using h0
  subst this
  refine (Tryz.slices_Reverse_string_empty none 0 w).mono ?_
  rintro e w' ⟨rfl, rfl⟩
  exact ⟨rfl, h, Mv.refl _ _⟩
 ·rw [bA] at h hm ⊢
  refine (Tryz.slices_Reverse_string g 0 cap ls w (Own.holds h) hm).mono ?_
  rintro e w' ⟨rfl, n, rfl⟩
  have := Own.putRow (ys := ls.reverse) h (by simp) n #[]
  rw [Sort.grow_empty] at this
  exact ⟨rfl, this.1, this.2⟩
theorem FK {B : Nat} {v : Value} {ls : List (List UInt8)} {w : World} (h : Own B 1 9 w v (aI ls)) (hl : ls.length < 4611686018427387904) : Calls Tryz.prog 152 #[v] w fun e w' => e = .returned (.tuple #[]) ∧ Own B 1 9 w' v (aI (ls.mergeSort fun x y => decide (x ≤ y))) ∧ Mv v.ownBlock w w' := by
 rcases h.form with ⟨rfl, h0⟩ | ⟨g, cap, rfl, hg, hB, hc, hm⟩
 ·have : ls = [] := by simpa [aI] using h0
  subst this
  refine (Tryz.slices_Sort_string_none none 0 w).mono ?_
  rintro e w' ⟨rfl, rfl⟩
  exact ⟨rfl, by simpa using h, Mv.refl _ _⟩
 ·rw [bA] at h hm ⊢
  refine (Tryz.slices_Sort_string g 0 cap ls w (Own.holds h) hg hl).mono ?_
  rintro e w' ⟨rfl, n, os, rfl⟩
  have := Own.putRow (ys := ls.mergeSort fun x y => decide (x ≤ y)) h (List.length_mergeSort _) n os
  exact ⟨rfl, this.1, this.2⟩
theorem tG (ls : List (List UInt8)) : (Lib.compact ls).length ≤ ls.length := by
 unfold Lib.compact Lib.compactUpTo
 rw [List.length_map]
 exact Nat.le_trans (List.length_filter_le _ _) (by simp)
theorem FL {B : Nat} {v : Value} {ls : List (List UInt8)} {w : World} (h : Own B 1 9 w v (aI ls)) : Calls Tryz.prog 153 #[v] w fun e w' => ∃ v', e = .returned v' ∧ Own B 1 9 w' v' (aI (Lib.compact ls)) ∧ Mv v.ownBlock w w' ∧ v'.ownBlock = v.ownBlock := by
 rcases h.form with ⟨rfl, h0⟩ | ⟨g, cap, rfl, hg, hB, hc, hm⟩
 ·have : ls = [] := by simpa [aI] using h0
  subst this
  refine (Tryz.slices_Compact_string_empty none 0 w).mono ?_
  rintro e w' ⟨rfl, rfl⟩
  exact ⟨_, rfl, h, Mv.refl _ _, rfl⟩
 ·rw [bA] at h hm hc ⊢
  refine (Tryz.slices_Compact_string g 0 cap ls w (Own.holds h) hm hc).mono ?_
  rintro e w' ⟨rfl, n, rfl⟩
  have hle := tG ls
  have := Own.putRow (ys := Lib.compact ls ++ List.replicate (ls.length - (Lib.compact ls).length) []) h (by simp; omega) n #[]
  rw [Sort.grow_empty] at this
  refine ⟨_, rfl, ?_, this.2, rfl⟩
  have h2 := this.1.short (m := (Lib.compact ls).length) (by simp)
  rw [List.map_append, List.take_left' (by simp)] at h2
  exact h2
theorem BY (nm : List UInt8) (w : World) : Calls Tryz.prog 109 #[aF nm] w (uT w fun v w' => match bT nm with
 | some ls => ∃ s, v = .tuple #[s, .bool true] ∧ Sl 1 w' s (aI ls) ∧ ls.length ≤ 254
 | none => ∃ s, v = .tuple #[s, .bool false]) := by
 go_enter Tryz.func109, Tryz.ntmps109
 refine_lift BX ?_; intro _ _ _
 refine aB (enters_of Tryz.func57 rfl rfl) rfl rfl (uI nm _) ?_
 intro w1 x1
 refine aA ?_
 refine aO (enters_of Tryz.func104 rfl rfl) rfl rfl (DF _ _) ?_
 intro v w2 x2 hv
 cases hl : aU (fold nm) with
 | none =>
  rw [hl] at hv
  subst hv
  refine_lift eJ fun _ _ => ?_
  refine aT (enters_of Tryz.func166 rfl rfl) rfl rfl (EM (ls := []) (Own.nil w2.heap.size 1 9 w2)) ?_
  rintro e w3 ⟨rfl, _, m3⟩
  refine ⟨_, rfl, ?_⟩
  refine_lift cI ?_
  go_ret2
  refine ⟨_, rfl, (x1.trans x2).move m3 (by rintro k ⟨⟩), ?_⟩
  simp [bT, hl]
 | some ls =>
  rw [hl] at hv
  obtain ⟨s, rfl, hs⟩ := hv
  refine_lift eJ fun _ _ => ?_
  refine aT (enters_of Tryz.func166 rfl rfl) rfl rfl (EM hs) ?_
  rintro e w3 ⟨rfl, o3, m3⟩
  refine ⟨_, rfl, ?_⟩
  refine_lift cI ?_
  go_ret2
  refine ⟨_, rfl, hs.mvx m3 (x1.trans x2) x1.size, ?_⟩
  have := eB hl
  simp only [bT, hl, Option.map_some]
  refine ⟨s, rfl, o3.sl, ?_⟩
  have h2 := jE ls
  rw [this.2.1] at h2
  simp; omega
theorem EN (a : List UInt8) (w : World) : Calls Tryz.prog 274 #[aF a] w (bS w (.bool false)) := by
 go_enter Tryz.func274, Tryz.ntmps274
 refine_lift cI ?_
 go_ret
 exact ⟨by simp, Ext.refl _⟩
theorem EO (a : List UInt8) (w : World) : Calls Tryz.prog 270 #[aF a] w (bS w (.bool false)) := by
 go_enter Tryz.func270, Tryz.ntmps270
 refine_lift cI ?_
 go_ret
 exact ⟨by simp, Ext.refl _⟩
theorem FM (a b : List UInt8) (w : World) : Calls Tryz.prog 251 #[aF a, aF b] w (bS w (.int .i64 (hX a b))) := by
 go_enter Tryz.func251, Tryz.ntmps251
 refine_lift eJ fun _ _ => ?_
 refine aB (enters_of Tryz.func274 rfl rfl) rfl rfl (EN _ _) ?_
 intro w1 x1
 refine_lift eJ fun _ _ => ?_
 refine aB (enters_of Tryz.func274 rfl rfl) rfl rfl (EN _ _) ?_
 intro w2 x2
 refine_lift AH (fun _ _ _ _ => ?_) (fun _ _ => ?_) (fun _ => ?_)
 ·rename_i h
  go_ret
  exact ⟨by simp [hX, h], x1.trans x2⟩
 ·have h := ‹Op.bytesLess a b = false›
  have h2 := ‹(!(Op.bytesLess a b || a == b)) = true›
  go_ret
  have h3 : a ≠ b := by intro e; subst e; simp at h2
  exact ⟨by simp [hX, h, h3], x1.trans x2⟩
 ·have h := ‹Op.bytesLess a b = false›
  have h2 := ‹(!(Op.bytesLess a b || a == b)) = false›
  go_ret
  rw [h] at h2
  have h3 : a = b := by simpa using h2
  subst h3
  exact ⟨by simp [hX, h], x1.trans x2⟩
theorem FN (a b : List UInt8) (w : World) : Calls Tryz.prog 275 #[aF a, aF b] w (bS w (.int .i64 (hX a b))) := by
 go_enter Tryz.func275, Tryz.ntmps275
 refine_lift eJ fun _ _ => ?_
 refine aB (enters_of Tryz.func270 rfl rfl) rfl rfl (EO _ _) ?_
 intro w1 x1
 refine_lift eJ fun _ _ => ?_
 refine aB (enters_of Tryz.func270 rfl rfl) rfl rfl (EO _ _) ?_
 intro w2 x2
 refine_lift AH (fun _ _ _ _ => ?_) (fun _ _ => ?_) (fun _ => ?_)
 ·rename_i h
  go_ret
  exact ⟨by simp [hX, h], x1.trans x2⟩
 ·have h := ‹Op.bytesLess a b = false›
  have h2 := ‹(!(Op.bytesLess a b || a == b)) = true›
  go_ret
  have h3 : a ≠ b := by intro e; subst e; simp at h2
  exact ⟨by simp [hX, h, h3], x1.trans x2⟩
 ·have h := ‹Op.bytesLess a b = false›
  have h2 := ‹(!(Op.bytesLess a b || a == b)) = false›
  go_ret
  rw [h] at h2
  have h3 : a = b := by simpa using h2
  subst h3
  exact ⟨by simp [hX, h], x1.trans x2⟩
theorem fY {l : List (List UInt8)} {k : Nat} (h : k < l.length) : (aI l)[k]? = some [aF l[k]] := jJ l k _ (List.getElem?_eq_getElem h)
theorem FO (u v : Value) (xs ys : List (List UInt8)) (w : World) (hu : Sl 1 w u (aI xs)) (hv : Sl 1 w v (aI ys)) : Calls Tryz.prog 252 #[u, v] w (bS w (.int .i64 (dQ xs ys))) := by
 have hxl := hu.le
 have hyl := hv.le
 have hxe := bA xs
 have hye := bA ys
 go_enter Tryz.func252, Tryz.ntmps252
 refine_lift eJ fun _ _ => ?_
 rw [hxe]
 go_loopw [11] (fun i wr => ∃ k : Nat, k ≤ xs.length ∧ k ≤ ys.length ∧ i = .int .i64 k ∧ Ext w wr ∧ dQ xs ys = dQ (xs.drop k) (ys.drop k)) (fun i _ => xs.length - (intOf i).toNat)
 case atStart => exact ⟨0, Nat.zero_le _, Nat.zero_le _, rfl, Ext.refl _, rfl⟩
 case round =>
  obtain ⟨k, hk, hk2, rfl, hx, hrec⟩ := hrel
  have hul := hu.ext hx
  have hvl := hv.ext hx
  by_cases hlt : k < xs.length
  ·have hp := hul.elem (fY hlt)
   have hd := List.drop_eq_getElem_cons hlt
   by_cases hlt2 : k < ys.length
   ·have hp2 := hvl.elem (fY hlt2)
    have hd2 := List.drop_eq_getElem_cons hlt2
    refine_lift FE ?_; intro _ _ _ _ _ _ _
    refine aB (enters_of Tryz.func275 rfl rfl) rfl rfl (FN _ _ _) ?_
    intro w2 x2
    have hx2 := hx.trans x2
    clear hx hul hvl hp hp2
    refine_lift CD (fun _ => ?_) (fun _ => ?_)
    ·rename_i hc
     go_ret
     refine ⟨?_, hx2⟩
     rw [hrec, hd, hd2, dQ, if_pos (by simpa using hc)]
     rfl
    ·rename_i hc
     refine ⟨⟨k + 1, by omega, by omega, rfl, hx2, ?_⟩, by simp [intOf]; omega⟩
     rw [hrec, hd, hd2, dQ, if_neg (by simpa using hc)]
   ·have : k = ys.length := by omega
    subst this
    refine_lift CH fun _ _ _ _ _ _ => ?_
    go_ret
    refine ⟨?_, hx⟩
    rw [hrec, hd, List.drop_length, dQ]
    rfl
  ·have : k = xs.length := by omega
   subst this
   refine_lift wX (fun _ _ => ?_) (fun _ _ _ _ => ?_)
   ·rename_i hc
    go_ret
    refine ⟨?_, hx⟩
    have hlt2 : xs.length < ys.length := by rw [hxe, hye] at hc; omega
    rw [hrec, List.drop_length, List.drop_eq_getElem_cons hlt2, dQ]
    rfl
   ·rename_i hc
    go_ret
    refine ⟨?_, hx⟩
    have hlt2 : xs.length = ys.length := by rw [hxe, hye] at hc; omega
    rw [hrec, List.drop_length, hlt2, List.drop_length, dQ]
    rfl
theorem FP (a b : List UInt8) (w : World) : Calls Tryz.prog 205 #[aF a, aF b] w (bS w (.int .i64 (gL a b))) := by
 go_enter Tryz.func205, Tryz.ntmps205
 refine_lift eJ fun _ _ => ?_
 refine aO (enters_of Tryz.func109 rfl rfl) rfl rfl (BY a _) ?_
 intro v w1 x1 hv
 cases ha : bT a with
 | none =>
  rw [ha] at hv
  obtain ⟨s, rfl⟩ := hv
  refine_lift eJ fun _ _ => ?_
  refine aO (enters_of Tryz.func109 rfl rfl) rfl rfl (BY b _) ?_
  intro v w2 x2 hv
  cases hb : bT b with
  | none =>
   rw [hb] at hv
   obtain ⟨s2, rfl⟩ := hv
   refine_lift sT fun _ _ _ _ => ?_
   refine aB (enters_of Tryz.func251 rfl rfl) rfl rfl (FM _ _ _) ?_
   intro w3 x3
   refine_lift cI ?_
   go_ret
   exact ⟨by simp [gL, ha, hb], (x1.trans x2).trans x3⟩
  | some ys =>
   rw [hb] at hv
   obtain ⟨s2, rfl, hs2, _⟩ := hv
   refine_lift cI ?_
   go_ret
   exact ⟨by simp [gL, ha, hb], x1.trans x2⟩
 | some xs =>
  rw [ha] at hv
  obtain ⟨s, rfl, hs, _⟩ := hv
  refine_lift eJ fun _ _ => ?_
  refine aO (enters_of Tryz.func109 rfl rfl) rfl rfl (BY b _) ?_
  intro v w2 x2 hv
  cases hb : bT b with
  | none =>
   rw [hb] at hv
   obtain ⟨s2, rfl⟩ := hv
   refine_lift cI ?_
   go_ret
   exact ⟨by simp [gL, ha, hb], x1.trans x2⟩
  | some ys =>
   rw [hb] at hv
   obtain ⟨s2, rfl, hs2, _⟩ := hv
   have hs := hs.ext x2
   refine_lift eJ fun _ _ => ?_
   refine aB (enters_of Tryz.func252 rfl rfl) rfl rfl (FO _ _ _ _ _ hs hs2) ?_
   intro w3 x3
   refine_lift cI ?_
   go_ret
   exact ⟨by simp [gL, ha, hb], (x1.trans x2).trans x3⟩
theorem DG (nm : List UInt8) (w : World) : Calls Tryz.prog 53 #[aF nm] w (bS w (.int .i64 (if (aU nm).isSome then 0 else 1))) := by
 go_enter Tryz.func53, Tryz.ntmps53
 refine_lift sT fun _ _ _ _ => ?_
 refine aO (enters_of Tryz.func104 rfl rfl) rfl rfl (DF nm _) ?_
 intro v w1 x1 hv
 cases hl : aU nm with
 | none =>
  rw [hl] at hv
  subst hv
  refine_lift cI ?_
  go_ret
  exact ⟨by simp [hl], x1⟩
 | some ls =>
  rw [hl] at hv
  obtain ⟨s, rfl, _⟩ := hv
  refine_lift cI ?_
  go_ret
  exact ⟨by simp [hl], x1⟩
theorem EP (nm : List UInt8) (w : World) (hl : nm.length ≤ 9223372036854775806) : Calls Tryz.prog 230 #[aF nm] w (bS w (if (aU nm).isSome = true then .tuple #[aF (nm ++ [0]), .int .i64 0] else .tuple #[aF [], .int .i64 1])) := by
 have h27 := fun w => DG nm w
 cases hls : aU nm with
 | none =>
  simp only [hls, Option.isSome_none, Bool.false_eq_true, if_false] at h27 ⊢
  go_enter Tryz.func230, Tryz.ntmps230
  refine_lift sT fun _ _ _ _ => ?_
  refine aB (enters_of Tryz.func53 rfl rfl) rfl rfl (h27 _) ?_
  intro w1 x1
  refine_lift wN fun _ => ?_
  go_ret2
  exact ⟨rfl, x1⟩
 | some ls =>
  simp only [hls, Option.isSome_some, if_true] at h27 ⊢
  go_enter Tryz.func230, Tryz.ntmps230
  refine_lift sT fun _ _ _ _ => ?_
  refine aB (enters_of Tryz.func53 rfl rfl) rfl rfl (h27 _) ?_
  intro w1 x1
  refine_lift cI ?_
  go_ret2
  exact ⟨rfl, x1⟩
theorem EQ (s : List UInt8) (w : World) (hl : s.length ≤ 9223372036854775807) : Calls Tryz.prog 157 #[aF s] w (bS w (.tuple #[aF ((fV s).getD []), .bool (fV s).isSome])) := by
 have h27 := fun w => DG (Lib.trimSuffix s [0]) w
 go_enter Tryz.func157, Tryz.ntmps157
 refine_lift eJ fun _ _ => ?_
 refine aT (vs := [aF s, aF [0]]) (enters_of Tryz.func207 rfl rfl) rfl rfl (Tryz.strings_CutSuffix ⟨s.toArray⟩ ⟨[0].toArray⟩ _ (by rw [cQ]; exact hl)) ?_
 rintro e w1 ⟨rfl, rfl⟩
 refine ⟨_, rfl, ?_⟩
 refine aA ?_
 cases hh : Lib.hasSuffix s [0] with
 | false =>
  refine_lift cI ?_
  go_ret2
  refine ⟨?_, Ext.refl _⟩
  simp only [fV, hh, Bool.false_eq_true, false_and, if_false]
  rfl
 | true =>
  cases hls : aU (Lib.trimSuffix s [0]) with
  | none =>
   simp only [hls, Option.isSome_none, Bool.false_eq_true, if_false] at h27
   refine_lift sT fun _ _ _ _ => ?_
   all_goals try (exact absurd ‹false = true› Bool.false_ne_true)
   refine aB (enters_of Tryz.func53 rfl rfl) rfl rfl (h27 _) ?_
   intro w2 x2
   refine_lift wN fun _ => ?_
   go_ret2
   refine ⟨?_, x2⟩
   simp only [fV, hh, hls, Option.isSome_none, Bool.false_eq_true, and_false, if_false]
   rfl
  | some ls =>
   simp only [hls, Option.isSome_some, if_true] at h27
   refine_lift sT fun _ _ _ _ => ?_
   all_goals try (exact absurd ‹false = true› Bool.false_ne_true)
   refine aB (enters_of Tryz.func53 rfl rfl) rfl rfl (h27 _) ?_
   intro w2 x2
   refine_lift cI ?_
   go_ret2
   refine ⟨?_, x2⟩
   simp only [fV, hh, hls, Option.isSome_some, and_self, if_true]
   rfl
theorem FQ (k : Int) (w : World) : Calls Tryz.prog 156 #[.int .i64 k] w (bS w (.int .i64 (eW k))) := by
 go_enter Tryz.func156, Tryz.ntmps156
 (repeat' first | ((with_reducible refine aJ ?_); go_step) | ((with_reducible refine aG ?_); first | refine gE ?_ | (refine aK ?_ ?_ <;> intro hc)) | fail)
 all_goals
  go_ret
  refine ⟨?_, Ext.refl _⟩
  simp [eW, *]
theorem FS (s : List UInt8) (w : World) (hl : s.length ≤ 4611686018427387904) : Calls Tryz.prog 165 #[aF s] w (bS w (.bool (qL s))) := by
 go_enter Tryz.func165, Tryz.ntmps165
 refine_lift eJ fun _ _ => ?_
 go_loopw [0] (fun s2 wr => wr = w ∧ ∃ r : List UInt8, s2 = aF r ∧ r.length ≤ s.length ∧ jI s = jI r) (fun s2 _ => sX s2)
 case atStart => exact ⟨rfl, s, rfl, Nat.le_refl _, rfl⟩
 case round =>
  obtain ⟨rfl, r, rfl, hr, hrec⟩ := hrel
  cases r with
  | nil =>
   refine_lift cI ?_
   go_ret
   refine ⟨?_, Ext.refl _⟩
   rw [qL, hrec]
   simp [jI, jH]
  | cons k t =>
   have hk : k.toNat < 256 := k.toNat_lt
   have hne : s ≠ [] := by intro e; subst e; simp at hr
   refine_lift wX (fun _ _ => ?_) (fun _ _ _ _ => ?_)
   ·have hc := ‹((k :: t).length : Int) < 1 + (k.toNat : Int)›
    go_ret
    refine ⟨?_, Ext.refl _⟩
    rw [qL, hrec, lT, if_pos (by simp at hc; omega)]
    simp
   ·have hc := ‹1 + (k.toNat : Int) ≤ ((k :: t).length : Int)›
    have e : (1 + (k.toNat : Int)).toNat = k.toNat + 1 := by omega
    rw [e, List.drop_succ_cons]
    refine ⟨⟨trivial, _, rfl, by simp at hr ⊢; omega, ?_⟩, by simp [sY]; omega⟩
    rw [hrec, lT, if_neg (by simp at hc; omega)]
theorem DU (k : Int) (d : List UInt8) (w : World) (hl : d.length ≤ 9223372036854775807) : Calls Tryz.prog 101 #[.int .i64 k, aF d] w (bS w (.tuple #[aF (bN k d).1, .int .i64 (bN k d).2])) := by
 go_enter Tryz.func101, Tryz.ntmps101
 refine_lift eJ fun _ _ => ?_
 refine aB (enters_of Tryz.func156 rfl rfl) rfl rfl (FQ _ _) ?_
 intro w1 x1
 refine_lift CE (fun _ _ => ?_) (fun _ _ _ _ => ?_) (fun _ => ?_)
 ·have hc := ‹eW k < 0›
  go_ret2
  refine ⟨?_, x1⟩
  rw [bN, if_pos hc]
  rfl
 ·have hc : ¬ eW k < 0 := by have := ‹0 ≤ eW k›; omega
  have hc2 := ‹(d.length : Int) < eW k›
  go_ret2
  refine ⟨?_, x1⟩
  rw [bN, if_neg hc, if_pos hc2]
  rfl
 ·have hc : ¬ eW k < 0 := by have := ‹0 ≤ eW k›; omega
  have hc2 : ¬ (d.length : Int) < eW k := by have := ‹eW k ≤ (d.length : Int)›; omega
  refine aB (enters_of Tryz.func157 rfl rfl) rfl rfl (EQ (d.drop (eW k).toNat) _ (by simp; omega)) ?_
  intro w2 x2
  cases hh : fV (d.drop (eW k).toNat) with
  | none =>
   simp only [hh, Option.isSome_none, Option.getD_none]
   refine_lift cI ?_
   go_ret2
   refine ⟨?_, x1.trans x2⟩
   rw [bN, if_neg hc, if_neg hc2, hh]
   rfl
  | some n =>
   simp only [hh, Option.isSome_some, Option.getD_some]
   refine_lift cI ?_
   go_ret2
   refine ⟨?_, x1.trans x2⟩
   rw [bN, if_neg hc, if_neg hc2, hh]
   rfl
theorem zC {s : List UInt8} {k : Nat} (h : k < s.length) : s.getD k 0 = s[k] := by simp [h]
theorem ER (s : List UInt8) (w : World) (hl : s.length ≤ 4611686018427387904) : Calls Tryz.prog 198 #[aF s] w (bS w (.tuple #[aF (bE s).1, aF (bE s).2.1, .bool (bE s).2.2])) := by
 go_enter Tryz.func198, Tryz.ntmps198
 refine_lift eJ fun _ _ => ?_
 go_loopw [5] (fun i wr => wr = w ∧ ∃ k : Nat, i = .int .i64 k ∧ k ≤ s.length + 256 ∧ fW s = k + fW (s.drop k)) (fun i _ => s.length + 256 - (intOf i).toNat)
 case atStart => exact ⟨rfl, 0, rfl, by omega, by simp⟩
 case round =>
  obtain ⟨rfl, k, rfl, hk, hrec⟩ := hrel
  by_cases hlt : k < s.length
  ·have hd := List.drop_eq_getElem_cons hlt
   have hb : (s.getD k 0).toNat < 256 := UInt8.toNat_lt _
   have hg := zC hlt
   refine_lift DO (fun hc _ _ _ _ => ?_) (fun hc _ => ?_)
   ·have hc := ‹(!decide (((s.getD k 0).toNat : Int) = 0)) = true›
    have hne : (s.getD k 0).toNat ≠ 0 := by simpa using hc
    go_roundw
    case rel =>
     refine ⟨trivial, k + (1 + (s.getD k 0).toNat), by congr 1, by omega, ?_⟩
     rw [hrec, hd, nO, ← hg, if_neg hne, List.drop_drop]
     rw [show k + 1 + (s.getD k 0).toNat = k + (1 + (s.getD k 0).toNat) by omega]
     omega
    case measure => simp only [intOf]; omega
   ·have hc := ‹(!decide (((s.getD k 0).toNat : Int) = 0)) = false›
    have hz : (s.getD k 0).toNat = 0 := by simpa using hc
    have hw : fW s = k := by rw [hrec, hd, nO, ← hg, if_pos hz]; rfl
    have hf : bE s = ((fV (s.take (k + 1))).getD [], s.drop (k + 1), (fV (s.take (k + 1))).isSome) := by
     rw [bE, hw, if_neg (by omega)]
    refine aB (enters_of Tryz.func157 rfl rfl) rfl rfl (EQ _ _ (by simp; omega)) ?_
    intro w2 x2
    refine aA ?_
    refine_lift eJ fun _ _ => ?_
    refine iX (by decide +kernel) (by decide +kernel) ?_
    repeat' (first | ((first | (with_reducible apply rK) | ((with_reducible apply wS); (rfl); (rfl); (with_reducible rfl))); (intro _ _; exact rn); (refine aA ?_)) | ((with_reducible apply pA); (rfl); (rfl); (first | (with_reducible exact (rfl : true = !false)) | (with_reducible exact (rfl : false = !true)) | (exact Bool.not_false.symm) | (exact Bool.not_true.symm)); (refine aA ?_)) | (with_reducible (apply uA)))
    intro w3 x3
    refine_lift cI ?_
    refine bodyPost_ret (results_tmp3 rfl _ _ _) rfl ⟨?_, x2.trans x3⟩
    rw [hf]
    rfl
  ·refine_lift sT fun hc _ _ _ => ?_
   refine bodyPost_ret (results_tmp3 rfl _ _ _) rfl ⟨?_, Ext.refl _⟩
   have hw : s.length ≤ fW s := by omega
   rw [bE, if_pos hw]
   rfl
theorem CK (r : List UInt8) (i : Nat) (p : Value) (w : World) (hp : Pts w p [aF r]) (hr : r.length = 20) (hi : i < 5) : Calls Tryz.prog 199 #[.int .i64 i, p] w (bS w (.int .i64 (numP r i 4 : Nat))) := by
 go_enter Tryz.func199, Tryz.ntmps199
 refine_lift eJ fun _ _ => ?_
 go_loopw [4, 6] (fun n j wr => wr = w ∧ ∃ k : Nat, k ≤ 4 ∧ j = .int .i64 k ∧ n = .int .i64 (numP r i k : Nat)) (fun _ j _ => 4 - (intOf j).toNat)
 case atStart => exact ⟨rfl, 0, by omega, rfl, rfl⟩
 case round =>
  obtain ⟨rfl, k, hk, rfl, rfl⟩ := hrel
  by_cases hlt : k < 4
  ·have hn := uF r i k
   have hn2 : numP r i k * 256 < 4294967296 := by
    have : 256 ^ k ≤ 256 ^ 3 := Nat.pow_le_pow_right (by omega) (by omega)
    omega
   have hb : (r.getD (4 * i + k) 0).toNat < 256 := UInt8.toNat_lt _
   have hb2 : (r.getD (4 * (i : Int) + (k : Int)).toNat 0).toNat < 256 := UInt8.toNat_lt _
   have e3 : (4 * (i : Int) + (k : Int)).toNat = 4 * i + k := by omega
   refine_lift wN fun _ => ?_
   refine ⟨⟨trivial, k + 1, by omega, rfl, ?_⟩, by simp [intOf]; omega⟩
   rw [numP]
  ·have : k = 4 := by omega
   subst this
   refine_lift wN fun _ => ?_
   go_ret
   exact ⟨rfl, Ext.refl _⟩
theorem rQ (n : Nat) : IntKind.wrap .u8 (n : Int) = ((UInt8.ofNat n).toNat : Nat) := by
 simp only [IntKind.wrap, IntKind.bits, IntKind.signed, UInt8.toNat_ofNat']
 simp
theorem ES {B : Nat} {v : Value} {l : List UInt8} {w : World} (n : Nat) (h : Own B 1 5 w v (aZ l)) (hB : B ≤ w.heap.size) (hn : n < 4294967296) (hl : l.length ≤ 1000000) : Calls Tryz.prog 231 #[v, .int .i64 n] w fun e w' => ∃ v', e = .returned v' ∧ Own B 1 5 w' v' (aZ (l ++ tE n)) ∧ Mv v.ownBlock w w' := by
 go_enter Tryz.func231, Tryz.ntmps231
 refine_lift BX ?_; intro _ _ _
 have e1 : IntKind.wrap .u8 ((n : Int) / 2 ^ Int.toNat 24) = ((UInt8.ofNat (n / 16777216)).toNat : Nat) := by
  rw [← rQ]; congr 1
 have e2 : IntKind.wrap .u8 ((n : Int) / 2 ^ Int.toNat 16) = ((UInt8.ofNat (n / 65536)).toNat : Nat) := by
  rw [← rQ]; congr 1
 have e3 : IntKind.wrap .u8 ((n : Int) / 2 ^ Int.toNat 8) = ((UInt8.ofNat (n / 256)).toNat : Nat) := by
  rw [← rQ]; congr 1
 have e4 : IntKind.wrap .u8 (n : Int) = ((UInt8.ofNat n).toNat : Nat) := rQ n
 rw [e1, e2, e3, e4]
 refine bY (xs := [.int .u8 ((UInt8.ofNat (n / 16777216)).toNat : Nat), .int .u8 ((UInt8.ofNat (n / 65536)).toNat : Nat), .int .u8 ((UInt8.ofNat (n / 256)).toNat : Nat), .int .u8 ((UInt8.ofNat n).toNat : Nat)]) (k := 1) (e := 5) (bytes := 1) rfl rfl rfl (by intro y hy; simp at hy; rcases hy with rfl | rfl | rfl | rfl <;> rfl) (by decide +kernel) (by simp) ?_
 intro v1 w1 x1 s1 sl1 _
 refine aA ?_
 have hll : (aZ l).length = l.length := by simp [aZ]
 refine jA (B := B) (k := 1) (e := 5) (bytes := 1) (x := v1) rfl (h.ext x1) rfl sl1 (by decide +kernel) (by simp [Value.cells, Value.oneCell']) (Nat.le_trans hB x1.size) (by rw [hll]; simp; omega) (by rw [hll]; simp; omega) ?_
 intro v2 w2 o2 m2
 refine aA ?_
 refine_lift cI ?_
 go_ret
 refine ⟨v2, rfl, ?_, (x1.mv _).trans m2⟩
 have : aZ (l ++ tE n) = aZ l ++ aZ (tE n) := by simp [aZ]
 rw [this]
 exact o2
structure RSet where
 name : List UInt8
 kind : Int
 ttl : Int
 data : List (List UInt8)
 deriving DecidableEq, Inhabited
structure SetAt (w : World) (cs : List Value) (s : RSet) : Prop where
 out : ∃ v, cs = [aF s.name, .int .i64 s.kind, .int .i64 s.ttl, v] ∧ Sl 1 w v (aI s.data)
theorem SetAt.ext {w w' : World} {cs : List Value} {s : RSet} (h : SetAt w cs s) (hx : Ext w w') : SetAt w' cs s := by
 obtain ⟨v, h1, h2⟩ := h
 exact ⟨v, h1, h2.ext hx⟩
theorem FT (v : Value) (a b : Int) (w : World) (h : Sl 1 w v [[.int .i64 a], [.int .i64 b]]) : Calls Tryz.prog 204 #[v] w (bS w (.int .i64 (if a ≠ 0 then a else b))) := by
 have h0 := h.elem (i := 0) rfl
 have h1 := h.elem (i := 1) rfl
 go_enter Tryz.func204, Tryz.ntmps204
 refine_lift eJ fun _ _ => ?_
 go_loopw [8] (fun i wr => wr = w ∧ ∃ k : Nat, i = .int .i64 k ∧ k ≤ 2 ∧ (1 ≤ k → a = 0) ∧ (2 ≤ k → b = 0)) (fun i _ => 2 - (intOf i).toNat)
 case atStart => exact ⟨rfl, 0, rfl, by omega, by omega, by omega⟩
 case round =>
  obtain ⟨rfl, k, rfl, hk, ha, hb⟩ := hrel
  have hk3 : k = 0 ∨ k = 1 ∨ k = 2 := by omega
  rcases hk3 with rfl | rfl | rfl
  ·refine_lift wX (fun _ _ => ?_) (fun _ _ _ _ => ?_)
   ·go_ret
    refine ⟨?_, Ext.refl _⟩
    have hne : a ≠ 0 := by simp at *; assumption
    rw [if_pos hne]
    rfl
   ·have h0 : a = 0 := by simp at *; assumption
    exact ⟨⟨trivial, 1, rfl, by omega, fun _ => h0, by omega⟩, by simp [intOf]⟩
  ·have ha := ha (by omega)
   refine_lift wX (fun _ _ => ?_) (fun _ _ _ _ => ?_)
   ·go_ret
    refine ⟨?_, Ext.refl _⟩
    rw [if_neg (by simpa using ha)]
    rfl
   ·have h0 : b = 0 := by simp at *; assumption
    exact ⟨⟨trivial, 2, rfl, by omega, fun _ => ha, fun _ => h0⟩, by simp [intOf]⟩
  ·have ha := ha (by omega)
   have hb := hb (by omega)
   refine_lift wN fun _ => ?_
   go_ret
   refine ⟨?_, Ext.refl _⟩
   rw [if_neg (by simpa using ha), hb]
   rfl
structure SetsAt (w : World) (v : Value) (l : List RSet) : Prop where
 out : ∃ css, Sl 4 w v css ∧ css.length = l.length ∧ ∀ (i : Nat) (s : RSet), l[i]? = some s → ∃ x, css[i]? = some [aF s.name, .int .i64 s.kind, .int .i64 s.ttl, x] ∧ Sl 1 w x (aI s.data)
theorem SetsAt.ext {w w' : World} {v : Value} {l : List RSet} (h : SetsAt w v l) (hx : Ext w w') : SetsAt w' v l := by
 obtain ⟨css, h1, h2, h3⟩ := h
 exact ⟨css, h1.ext hx, h2, fun i s hi => let ⟨x, a, b⟩ := h3 i s hi; ⟨x, a, b.ext hx⟩⟩
theorem SetsAt.elem {w : World} {v : Value} {l : List RSet} (h : SetsAt w v l) {i : Nat} {s : RSet} (hi : l[i]? = some s) : ∃ x, Pts w (cO v (i * 4)) [aF s.name, .int .i64 s.kind, .int .i64 s.ttl, x] ∧ Sl 1 w x (aI s.data) := by
 obtain ⟨css, h1, h2, h3⟩ := h
 obtain ⟨x, a, b⟩ := h3 i s hi
 exact ⟨x, h1.elem a, b⟩
theorem SetsAt.sl {w : World} {v : Value} {l : List RSet} (h : SetsAt w v l) : ∃ css : List (List Value), Sl 4 w v css ∧ css.length = l.length := by
 obtain ⟨css, h1, h2, h3⟩ := h
 exact ⟨css, h1, h2⟩
def Rec.cells (r : Rec) : List Value := [aF r.name, .int .i64 r.kind, .int .i64 r.ttl, aF r.data]
def aE (l : List Rec) : List (List Value) := l.map Rec.cells
theorem aM (l : List Rec) : (aE l).length = l.length := by simp [aE]
theorem cX {l : List Rec} {k : Nat} (h : k < l.length) : (aE l)[k]? = some [aF l[k].name, .int .i64 l[k].kind, .int .i64 l[k].ttl, aF l[k].data] := by simp [aE, h, Rec.cells]
theorem qO {α : Type} {a b : List α} {k : Nat} (h : a.take k = b.take k) (ha : k < a.length) (hb : k < b.length) (he : a[k] = b[k]) : a.take (k + 1) = b.take (k + 1) := by
 rw [List.take_add_one, List.take_add_one, List.getElem?_eq_getElem ha, List.getElem?_eq_getElem hb, h, he]
theorem xC {α : Type} {a b : List α} {k : Nat} (ha : k < a.length) (hb : k < b.length) (he : a[k] ≠ b[k]) : a ≠ b := by
 rintro rfl; exact he rfl
end Go.Proofs.X
