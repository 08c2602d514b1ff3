/- Laws and walks that the proof of the statement is made of (part 19). -/
import Derived.Test.YteofaejlmdplhaaGreatRows
import Derived.Test.YteofaejlmdplhaaGreatP18
set_option linter.unusedSimpArgs false
set_option linter.unusedVariables false
namespace Go.Proofs.X
open Go.RowKit
set_option maxRecDepth 100000
theorem nY (w : World) : Calls Tryz.prog 10 #[] w (bE w (.bool true)) := LI w
set_option maxHeartbeats 4000000 in
theorem AZ (o : List UInt8) (v : Value) (l : List RSet) (og : List UInt8) (lv : Value) (rs : List Rec) (w : World) (hv : SetsAt w v l) (hr : Sl 4 w lv (aD rs)) :
 Calls Tryz.prog 4 #[.agg #[aH o, v], aH og, lv] w (TO w) := by
 have hrl := aJ rs
 have hrle := hr.le
 go_enter Tryz.func4, Tryz.ntmps4
 refine_lift hY fun _ _ => ?_
 refine aZ (vs := [aH o, v]) rfl rfl ?_
 intro p w1 x1 hp
 refine aA ?_
 refine_lift OJ fun _ _ _ _ => ?_
 refine aB (enters_of Tryz.func9 rfl rfl) rfl rfl (OW o v l _ (hv.ext x1)) ?_; intro w2 x2; refine aA ?_
 have hx2 := x1.trans x2
 have hp2 := hp.ext x2
 cases hf : (decide ((o.length : Int) ≤ 300) && sU l) with
 | false =>
  refine_lift lJ fun _ _ => ?_
  refine aB (enters_of Tryz.func10 rfl rfl) rfl rfl (nY _) ?_; intro w3 x3; refine aA ?_
  refine_lift dR ?_
  go_ret
  exact ⟨rfl, hx2.trans x3⟩
 | true =>
  obtain ⟨fl, fb, fd, fo, fd2, fe⟩ := RA hf
  have hfd := SI hf
  have h1 : (aK l).length ≤ 5000 := by have := hfd.1; omega
  have dl := hfd.2.1
  clear hfd
  refine_lift QD (fun hc _ _ _ => ?_) (fun hc _ _ => ?_) (fun hc _ _ _ => ?_)
  all_goals first
   | ((first | have hq := ‹(300 : Int) < (og.length : Int)› | have hq := ‹(60 : Int) < ((aD rs).length : Int)›); refine aB (enters_of Tryz.func10 rfl rfl) rfl rfl (nY _) ?_; intro w3 x3; refine aA ?_; refine_lift dR ?_; go_ret; exact ⟨rfl, hx2.trans x3⟩; done)
   | skip
  have hrs : rs.length ≤ 60 := by omega
  go_loopw [7] (fun i wr => ∃ k : Nat, k ≤ rs.length ∧ i = .int .i64 k ∧ Ext w2 wr ∧ ∀ r ∈ rs.take k, r.data.length ≤ 300) (fun i _ => rs.length - (intOf i).toNat)
  case atStart => exact ⟨0, Nat.zero_le _, rfl, Ext.refl _, by simp⟩
  case round =>
   obtain ⟨k, hk, rfl, hx, hall⟩ := hrel
   have hx0 := hx2.trans hx
   have hr2 := hr.ext hx0
   have hp3 := hp2.ext hx
   by_cases hlt : k < rs.length
   ·have hpe := hr2.elem (cR hlt)
    (repeat' first | ((with_reducible refine cW ?_); go_step) | ((with_reducible refine bQ ?_); first | refine iU ?_ | (refine dH ?_ ?_ <;> intro hc)) | fail)
    all_goals first
     | ((first | have hq := ‹(300 : Int) < (rs[k].name.length : Int)› | have hq := ‹(300 : Int) < (rs[k].data.length : Int)›); refine aB (enters_of Tryz.func10 rfl rfl) rfl rfl (nY _) ?_; intro w3 x3; refine aA ?_; refine_lift dR ?_; go_ret; exact ⟨rfl, hx0.trans x3⟩; done)
     | skip
    refine ⟨⟨k + 1, by omega, by go_num, hx, fun r hr' => ?_⟩, by simp [intOf]; omega⟩
    rw [List.take_succ_eq_append_getElem hlt] at hr'
    rcases List.mem_append.1 hr' with h | h
    ·exact hall r h
    ·rw [List.mem_singleton.1 h]; omega
   ·have : k = rs.length := by omega
    subst this
    rw [List.take_length] at hall
    have dn : ∀ q ∈ rs, q.data.length ≤ 1000000 := fun q hq => by have := hall q hq; omega
    have hv3 := hv.ext hx0
    refine_lift RK fun _ _ _ => ?_
    refine aL (enters_of Tryz.func20 rfl rfl) rfl rfl (tH o v l _ hv3 (by omega) fb) ?_
    rintro _ w4 x4 ⟨y, rfl, hy⟩
    refine aA ?_
    refine_lift dR ?_
    have hy := hy.sets
    have hy1 : y.oneCell' = true := by obtain ⟨css, h, _⟩ := hy; exact h.one
    refine aG (z := aN) rfl (by decide +kernel) ?_
    intro w5 x5 s5 h5
    refine aA ?_
    refine aC (v := .agg #[aH o, y]) rfl rfl rfl h5 (show aO Tryz.prog 25 2 = true by decide +kernel) rfl (bM hy1) ?_
    intro w6 p6
    have x6 : Ext w4 w6 := x5.move p6.mv (by rintro k ⟨⟩; exact Nat.le_refl _)
    have hq6 := aE (cs := [aH o, y]) p6.this
    clear p6 h5 x5 s5
    have hx6 := hx0.trans (x4.trans x6)
    have hp6 := hp3.ext (x4.trans x6)
    have hv6 := hv3.ext (x4.trans x6)
    have hr6 := hr2.ext (x4.trans x6)
    have hy6 := hy.ext x6
    clear hp3 hv3 hr2 hx hy hp2 hx2
    refine_lift lJ fun _ _ => ?_
    have hA := nW o y l og lv rs _ hy6 hr6 fb dl h1 (by omega) dn
    have hB : ∀ w', SetsAt w' v l → Sl 4 w' lv (aD rs) → _ := fun w' a b => DO o v l og lv rs w' a b fb dl h1 (by omega) dn
    generalize cH o l og rs = Z at *
    refine aL (enters_of Tryz.func21 rfl rfl) rfl rfl hA ?_
    rintro _ w7 x7 ⟨a, rfl, ha⟩
    refine aA ?_
    refine_lift dR ?_
    have ha := ha.sets
    have ha1 : a.oneCell' = true := by obtain ⟨css, h, _⟩ := ha; exact h.one
    refine aG (z := aN) rfl (by decide +kernel) ?_
    intro w8 x8 s8 h8
    refine aA ?_
    refine aC (v := .agg #[aH Z.o, a]) rfl rfl rfl h8 (show aO Tryz.prog 25 2 = true by decide +kernel) rfl (bM ha1) ?_
    intro w9 p9
    have x9 : Ext w7 w9 := x8.move p9.mv (by rintro k ⟨⟩; exact Nat.le_refl _)
    have hq9 := aE (cs := [aH Z.o, a]) p9.this
    clear p9 h8 x8 s8
    have x79 := x7.trans x9
    have hx9 := hx6.trans x79
    have hp9 := hp6.ext x79
    have hv9 := hv.ext hx9
    have hr9 := hr.ext hx9
    have hy9 := hy6.ext x79
    have hk9 := hq6.ext x79
    have ha9 := ha.ext x9
    refine_lift lJ fun _ _ => ?_
    refine aL (enters_of Tryz.func22 rfl rfl) rfl rfl (hB _ hv9 hr9) ?_
    rintro _ w10 x10 ⟨b, rfl, hb⟩
    refine aA ?_
    refine_lift dR ?_
    have hb := hb.sets
    have hb1 : b.oneCell' = true := by obtain ⟨css, h, _⟩ := hb; exact h.one
    refine aG (z := aN) rfl (by decide +kernel) ?_
    intro w11 x11 s11 h11
    refine aA ?_
    refine aC (v := .agg #[aH Z.o, b]) rfl rfl rfl h11 (show aO Tryz.prog 25 2 = true by decide +kernel) rfl (bM hb1) ?_
    intro w12 p12
    have x12 : Ext w10 w12 := x11.move p12.mv (by rintro k ⟨⟩; exact Nat.le_refl _)
    have hq12 := aE (cs := [aH Z.o, b]) p12.this
    clear p12 h11 x11 s11
    have x912 := x10.trans x12
    have hx12 := hx9.trans x912
    have hp12 := hp9.ext x912
    have hv12 := hv9.ext x912
    have hy12 := hy9.ext x912
    have hk12 := hk9.ext x912
    have ha12 := ha9.ext x912
    have hqa12 := hq9.ext x912
    have hb12 := hb.ext x12
    clear hp9 hv9 hr9 hy9 hk9 ha9 hq9 hb hp6 hv6 hr6 hy6 hq6 ha hA hB hr hv
    refine_lift lJ fun _ _ => ?_
    refine aB (enters_of Tryz.func23 rfl rfl) rfl rfl (nS ha12 hb12 rfl rfl) ?_; intro w13 x13; refine aA ?_
    have hp13 := hp12.ext x13
    have hv13 := hv12.ext x13
    have hy13 := hy12.ext x13
    have hk13 := hk12.ext x13
    clear hp12 hv12 hy12 hk12 ha12 hqa12 hb12 hq12
    refine_lift dR ?_
    all_goals first
     | exact absurd (rfl : Z.e = Z.e) ‹_›
     | skip
    refine aB (enters_of Tryz.func23 rfl rfl) rfl rfl (nS hy13 hv13 rfl rfl) ?_; intro w14 x14; refine aA ?_
    clear hp13 hk13
    refine_lift dR ?_
    refine aB (enters_of Tryz.func10 rfl rfl) rfl rfl (nY _) ?_; intro w15 x15; refine aA ?_
    refine_lift dR ?_
    go_ret
    exact ⟨rfl, hx12.trans ((x13.trans x14).trans x15)⟩
open Go.ChangeShapes Go.WideShapes Go.ChangeAt Go.RowKit
set_option maxRecDepth 100000 in
theorem oH (os : Os) (started : os.Started) (H : Type) (eC : TypeId × Value → H) :
 ReturnsInHanded {} Tryz.checked os 4 .any (YteofaejlmdplhaaGreat.Rows.xferInstallsSpec.pre6 eC Tryz.prog Tryz.f4 YteofaejlmdplhaaGreat.Rows.xferInstallsRow.domain false) (YteofaejlmdplhaaGreat.Rows.xferInstallsSpec.post eC Tryz.prog Tryz.f4 false true false false) := by
 refine returnsInHanded_of_change (C := Tryz.checked) own started (by kernel_rfl) Tryz.func4
  (ChangeSpec.witness6 (eC := eC) (C := Tryz.checked) false ⟨#[], #[.agg #[aH [], .slice none 0 0], aH [], .slice none 0 0], []⟩ 8 (by kernel_rfl) (by kernel_rfl) (by kernel_rfl) (by kernel_rfl)) ?_
 intro W base args ds gs before hval0 hW hcnd _
 have hW' := hW
 obtain ⟨p, q, hA0, hV, rfl, hfz, hnd⟩ := hW
 have hA : DataW.TrodAll eC Tryz.prog W 0 (fun _ => true) true Tryz.f4.params.toList args.toList ds p := hA0
 have hval : ∀ (j : Nat) t v, Tryz.f4.params[j]? = some t → args[j]? = some v → Value.okWide Tryz.prog W .any base t v := hval0
 rw [Tryz.params4] at hA hval
 obtain ⟨v0, vs0, d0, ds0, p0, q0, hargs, rfl, rfl, h0, r0⟩ := trodAll_cons hA
 obtain ⟨v1, vs1, d1, ds1, p1, q1, rfl, rfl, rfl, h1, r1⟩ := trodAll_cons r0
 obtain ⟨v2, vs2, d2, ds2, p2, q2, rfl, rfl, rfl, h2, r2⟩ := trodAll_cons r1
 obtain ⟨rfl, rfl, rfl⟩ := trodAll_nil r2
 obtain rfl : args = #[v0, v1, v2] := by cases args; simp_all
 obtain ⟨rfl, rfl⟩ := trodVars_none hV
 have k0 := h0
 have k1 := h1
 have k2 := h2
 have lt0 : ∀ x ∈ p0, x.block < W.heap.size := by obtain ⟨m, hm⟩ := k0; exact DataW.trod_lt m _ _ _ hm
 have lt1 : ∀ x ∈ p1, x.block < W.heap.size := by obtain ⟨m, hm⟩ := k1; exact DataW.trod_lt m _ _ _ hm
 have lt2 : ∀ x ∈ p2, x.block < W.heap.size := by obtain ⟨m, hm⟩ := k2; exact DataW.trod_lt m _ _ _ hm
 obtain ⟨c0, rfl, z0⟩ := okWide_struct Tryz.underlying25 (hval 0 25 v0 rfl rfl)
 obtain ⟨o0, l0, w0, e0, g0⟩ : ∃ (o : List UInt8) (l : List RSet) (u : Value), c0 = #[aH o, u] ∧ SetsAt W u l := by
  obtain ⟨fuel, hf⟩ := h0
  exact HU hf
 subst e0
 obtain ⟨b1, rfl⟩ := okWide_string Tryz.underlying22 (hval 1 22 v1 rfl rfl)
 obtain ⟨n1, e1⟩ : ∃ n : List UInt8, Value.string b1 = aH n := ⟨b1.data.toList, by rw [aH, Array.toArray_toList]⟩
 obtain ⟨a2, len2, cap2, rfl⟩ := okWide_slice Tryz.underlying31 (hval 2 31 v2 rfl rfl)
 obtain ⟨l2, g2⟩ : ∃ l : List Rec, Sl 4 W (.slice a2 len2 cap2) (aD l) := by
  obtain ⟨fuel, hf⟩ := h2
  exact HV hf
 clear hA0 hval0
 have h9 := AZ o0 w0 l0 n1 _ l2 W g0 g2
 rw [← e1] at h9
 refine h9.mono fun e W' ⟨he, hx⟩ => ?_
 subst he
 have bel := hx.below
 exact ⟨_, rfl, _, _, _, [], _, [], hW', trodAll_mk1 (shut_bool Tryz.underlying4 _), (trodAll_cons_mk (Below.trod AO (by kernel_rfl) (of_decide_eq_true (by kernel_rfl)) k0 bel lt0) (trodAll_cons_mk (Below.trod AO (by kernel_rfl) (of_decide_eq_true (by kernel_rfl)) k1 bel lt1) (trodAll_cons_mk (Below.trod AO (by kernel_rfl) (of_decide_eq_true (by kernel_rfl)) k2 bel lt2) trodAll_mk0))), rfl, bel.frame _, fun h => by cases h⟩
theorem NA : Tryz.checked.prog.mayEnter = true := by kernel_rfl
theorem PO : (YteofaejlmdplhaaGreat.Rows.xferInstallsRow.lifted == Tryz.checked.prog.liftsFinal) = true := by kernel_rfl
theorem PP : (Tryz.checked.prog.make == some YteofaejlmdplhaaGreat.Rows.xferInstallsRow.make) = true := by kernel_rfl
theorem oI : joinedFacts Tryz.checked.prog 4 Tryz.f4 YteofaejlmdplhaaGreat.Rows.xferInstallsSpec YteofaejlmdplhaaGreat.Rows.xferInstallsRow = true := by
 unfold joinedFacts
 simp only [Bool.and_eq_true]
 repeat' (refine And.intro ?_ ?_)
 all_goals first | (with_reducible exact NA) | (with_reducible exact PO) | (with_reducible exact PP) | kernel_rfl
theorem xferInstalls_holds : YteofaejlmdplhaaGreat.Rows.XferInstallsSaid :=
 OpenClaim.holds_of_wide 4 Tryz.f4 rfl rfl rfl rfl rfl rfl rfl ⟨rfl, rfl, rfl, rfl, rfl⟩ rfl rfl rfl rfl rfl (by kernel_rfl) Tryz.func4 oI
  (of_decide_eq_true (by kernel_rfl)) (by unfold Func.isWrapper; first | (rw [if_pos (by decide +kernel)]; kernel_rfl) | (rw [if_neg (by decide +kernel)]; exact ⟨rfl, rfl⟩))
  (fun os started H eC _ => oH os started H eC)
end Go.Proofs.X
