/- Laws and walks that the proof of the statement is made of (part 12). -/
import Derived.Test.YtcabalnocddidaaGreatRows
import Derived.Test.YtcabalnocddidaaGreatP11
set_option linter.unusedSimpArgs false
set_option linter.unusedVariables false
namespace Go.Proofs.X
open Go.RowKit
set_option maxRecDepth 100000
def AK (k : Nat) : ActR := ⟨1, 1, dA k, 1, 0, [], []⟩
def BW : ActR := ⟨2, 0, [], 0, 2, [], []⟩
theorem uZ (k : Nat) (g : List Rec) (n : List UInt8) (hk : k ≤ 7) : (bH k g).follow n = ({ bH (k + 1) g with qn := n }, ⟨1, 1, n, 1, 0, [], []⟩) := by
 unfold TaskR.follow
 rw [if_neg (show ¬ (bH k g).chain = 8 by show ¬ (k : Int) = 8; omega)]
 unfold TaskR.on
 show (if (99 - (k : Int)) = 0 then _ else _) = _
 rw [if_neg (show ¬ (99 - (k : Int)) = 0 by omega)]
 simp only [bH, Prod.mk.injEq, TaskR.mk.injEq, and_true, true_and]
 omega
theorem sM (g : List Rec) (n : List UInt8) : ∃ t, (bH 8 g).follow n = (t, BW) := by
 unfold TaskR.follow
 rw [if_pos (show (bH 8 g).chain = 8 from rfl)]
 exact ⟨_, rfl⟩
theorem yO {k : Nat} (hk : k ≤ 8) (g : List Rec) : ∃ g' L, g'.length = g.length + 1 ∧ (k ≤ 7 → (bH k g).reply (dE k) = (bH (k + 1) g', AK (k + 1), L)) ∧ (k = 8 → ∃ t, (bH k g).reply (dE k) = (t, BW, L)) := by
 obtain ⟨hj, hf⟩ := wQ k (by omega)
 have hne : 1 ≤ ((bH k g).of (dE k).an (bH k g).qn 5).length := rE (t := bH k g) (m := dE k) (by show (bY (dA k) 1 (dE k) []).1 = 5; rw [hj])
 have hr : (bH k g).reply (dE k) = (((bH k (g ++ ((bH k g).of (dE k).an (bH k g).qn 5).take 1)).follow (dA (k + 1))).1, ((bH k (g ++ ((bH k g).of (dE k).an (bH k g).qn 5).take 1)).follow (dA (k + 1))).2, cF (((bH k g).of (dE k).an (bH k g).qn 5).take 1) (nK (dE k))) := by
  have hj' : bY (bH k g).qn (bH k g).qt (dE k) (bH k g).zone = (5, dA (k + 1)) := hj
  have hst : (bH k g).stop = none := rfl
  unfold TaskR.reply
  simp only [hst, hj', if_true, if_neg (show ¬ (5 : Int) = 1 by decide)]
  rfl
 refine ⟨g ++ ((bH k g).of (dE k).an (bH k g).qn 5).take 1, cF (((bH k g).of (dE k).an (bH k g).qn 5).take 1) (nK (dE k)), ?_, fun h => ?_, fun h => ?_⟩
 ·rw [List.length_append, List.length_take]; omega
 ·rw [hr, uZ k _ _ h]; rfl
 ·subst h
  obtain ⟨t, ht⟩ := sM (g ++ ((bH 8 g).of (dE 8).an (bH 8 g).qn 5).take 1) (dA 9)
  exact ⟨t, by rw [hr, ht]⟩
theorem CU {k : Nat} (hk : k ≤ 8) {g : List Rec} (hg : g.length = k) : TaskB (bH k g) 10 :=
 ⟨show 0 ≤ 99 - (k : Int) by omega, show 99 - (k : Int) ≤ 1000 by omega, show 0 ≤ (k : Int) by omega, show (k : Int) ≤ 8 by omega, show g.length ≤ 10 by omega, by intro a h; cases h⟩
theorem CV : eD [1, 97] 1 [1] 100 = 0 := by decide +kernel
theorem CW : (jU [1, 97] 1 [1] 100).on = (bH 0 [], AK 0) := by decide +kernel
theorem yP : ∀ k : Nat, k < 9 → IntKind.wrap .u8 (97 + (k : Int)) = ((UInt8.ofNat (97 + k)).toNat : Nat) := by decide +kernel
def BM (w0 w : World) (b c : Nat) (k : Nat) : Prop := (k ≤ 8 ∧ ∃ g : List Rec, g.length = k ∧ ActAt w0 w b c (bH k g, AK k)) ∨ (k = 9 ∧ ∃ t, ActAt w0 w b c (t, BW))
set_option maxHeartbeats 2000000 in
theorem vB (n : Int) (w : World) : Calls Tryz.prog 7 #[.int .i64 n] w (DI w) := by
 go_enter Tryz.func7, Tryz.ntmps7
 by_cases c1 : 1 ≤ n ∧ n ≤ 20
 ·obtain ⟨c1, c2⟩ := c1
  (repeat' first | ((with_reducible refine aJ ?_); go_step) | ((with_reducible refine aG ?_); first | refine aL ?_ | (refine aK ?_ ?_ <;> intro hc)) | fail)
  all_goals first
   | (exfalso; omega)
   | skip
  refine aY (v := .agg #[aE [1, 97], .int .i64 1]) (Runs.build rfl (by kernel_rfl)) ?_
  refine aA ?_
  refine bR (e := 3) (k := 1) (bytes := 8) (xs := [.int .i64 1]) rfl rfl rfl (by simp [Value.cells]) (by decide +kernel) (by simp) ?_
  intro v1 w1 x1 _ sl1 _
  refine aA ?_
  have sl1' : Sl 1 w1 v1 (aZ [1]) := sl1
  refine aR (enters_of Tryz.func24 rfl rfl) rfl rfl (wX [1, 97] 1 v1 [1] 100 _ sl1' (by decide)) ?_
  intro r w2 x2 hr
  unfold fG at hr
  rw [if_pos CV, CW] at hr
  obtain ⟨b, u2, rfl, ⟨a1, a2, rfl, oa1, oa2⟩, hT2⟩ := hr
  refine aA ?_
  (repeat' first | ((with_reducible refine aJ ?_); go_step) | ((with_reducible refine aG ?_); first | refine aL ?_ | (refine aK ?_ ?_ <;> intro hc)) | fail)
  refine aF (z := bX) rfl (by decide +kernel) ?_
  intro w3 x3 s3 h3
  refine aA ?_
  (repeat' first | ((with_reducible refine aJ ?_); go_step) | ((with_reducible refine aG ?_); first | refine aL ?_ | (refine aK ?_ ?_ <;> intro hc)) | fail)
  refine aD (v := .agg (bO (AK 0) a1 a2).toArray) rfl rfl rfl h3 (show aM Tryz.prog 33 7 = true by decide +kernel) rfl (dQ oa1.one oa2.one) ?_
  intro w4 p4
  have x4 : Ext w2 w4 := x3.move p4.mv (by rintro k ⟨⟩; exact Nat.le_refl _)
  have hA4 : ActAt w1 w4 b w2.heap.size (bH 0 [], AK 0) := ⟨hT2.grow x4, ⟨a1, a2, p4.this, oa1.ext x4, oa2.ext x4⟩, x2.size, by have := hT2.lt; omega⟩
  clear hT2 oa1 oa2 p4 h3 x3
  (repeat' first | ((with_reducible refine aJ ?_); go_step) | ((with_reducible refine aG ?_); first | refine aL ?_ | (refine aK ?_ ?_ <;> intro hc)) | fail)
  go_loopw [6, 7] (fun i _ wr => ∃ k : Nat, (k : Int) ≤ n ∧ i = .int .i64 k ∧ BM w1 wr b w2.heap.size k) (fun i _ _ => n.toNat - (intOf i).toNat)
  case atStart => exact ⟨0, by omega, rfl, .inl ⟨by omega, [], rfl, hA4⟩⟩
  case round =>
   obtain ⟨k, hk, rfl, hI⟩ := hrel
   rcases hI with ⟨hk8, g, hg, hA⟩ | ⟨rfl, t, hA⟩
   ·have hxr := hA.tsk.ext
    obtain ⟨hT, ⟨v1', v2, hbx, o1, o2⟩, hge, hne⟩ := hA
    have hpx := aC (cs := bO ⟨1, 1, dA k, 1, 0, [], []⟩ v1' v2) hbx
    by_cases hlt : (k : Int) < n
    ·obtain ⟨g', L, hg', hs1, hs2⟩ := yO hk8 g
     obtain ⟨T, A, hrep, hcase⟩ : ∃ T A, (bH k g).reply (dE k) = (T, A, L) ∧ ((k ≤ 7 ∧ T = bH (k + 1) g' ∧ A = AK (k + 1)) ∨ (k = 8 ∧ A = BW)) := by
      by_cases h7 : k ≤ 7
      ·exact ⟨_, _, hs1 h7, .inl ⟨h7, rfl, rfl⟩⟩
      ·obtain ⟨t, ht⟩ := hs2 (by omega)
       exact ⟨_, _, ht, .inr ⟨by omega, rfl⟩⟩
     have hby := yP k (by omega)
     have hqx : Pts wr (aX (.pointer (some ⟨w2.heap.size, 0, none⟩)) 2) [aE (dA k), .int .i64 1] := (hpx.part 2).front 2
     (repeat' first | ((with_reducible refine aJ ?_); go_step) | ((with_reducible refine aG ?_); first | refine aL ?_ | (refine aK ?_ ?_ <;> intro hc)) | fail)
     all_goals first
      | (exfalso; omega)
      | skip
     rw [hby]
     refine bR (e := 5) (k := 1) (bytes := 1) (xs := [.int .u8 ((UInt8.ofNat (97 + k)).toNat : Nat)]) rfl rfl rfl (by simp [Value.cells]) (by decide +kernel) (by simp) ?_
     intro v5 w5 x5 _ sl5 _
     refine aA ?_
     have sl5' : Sl 1 w5 v5 (bB [UInt8.ofNat (97 + k)]) := sl5
     have hqx5 := hqx.ext x5
     clear hqx
     (repeat' first | ((with_reducible refine aJ ?_); go_step) | ((with_reducible refine aG ?_); first | refine aL ?_ | (refine aK ?_ ?_ <;> intro hc)) | fail)
     refine aY (v := .agg #[aE (dA k), .int .i64 5, .int .i64 5, aE ([2, 98] ++ [UInt8.ofNat (97 + k)] ++ [0])]) (Runs.build rfl (by kernel_rfl)) ?_
     refine aA ?_
     refine bR (e := 64) (k := 4) (bytes := cZ Tryz.prog 64) (xs := [.agg #[aE (dA k), .int .i64 5, .int .i64 5, aE ([2, 98] ++ [UInt8.ofNat (97 + k)] ++ [0])]]) rfl rfl rfl (by simp [Value.cells]) (by decide +kernel) (by simp) ?_
     intro v6 w6 x6 _ _ o6
     refine aA ?_
     have o6' : Own w5.heap.size 4 64 w6 v6 (aH (dE k).an) := o6
     have x56 := x5.trans x6
     have hT6 := hT.grow x56
     have hbx6 := x56.at hbx
     obtain ⟨rv, sv, gv, ev, hV6⟩ := hT6
     refine aY (v := .agg (eV (dE k) (.slice none 0 0) v6 (.slice none 0 0) (.slice none 0 0)).toArray) (Runs.build (vals := [(1, .bool true), (9, v6)]) rfl (by obtain ⟨_, _, _, rfl⟩ := o6'.sl.slf; kernel_rfl)) ?_
     refine aA ?_
     refine aQ (vs := [.pointer (some ⟨b, 0, none⟩), .agg (eV (dE k) (.slice none 0 0) v6 (.slice none 0 0) (.slice none 0 0)).toArray]) (enters_of Tryz.func16 rfl rfl) rfl rfl (pR hV6 (CU hk8 hg) (by decide) (dE k) _ _ _ _ (fun w' hm' => ⟨Sl.nil _ _, (o6'.mv hm' (.inr (o6'.neBlock hV6.blk (by decide)))).sl, Sl.nil _ _, Sl.nil _ _⟩) (show 1 ≤ 300 by decide) (show 0 ≤ 300 by decide) (show 0 ≤ 300 by decide) (fun z => gX (by intro r h; cases h)) (fun n => gX (by intro r h; cases h))) ?_
     rintro e7 w7 ⟨u7', l7, rfl, hu7, hl7, hf7⟩
     refine ⟨_, rfl, ?_⟩
     rw [hrep] at hu7 hl7
     obtain ⟨⟨c1', c2', rfl, oc1, oc2⟩, hT7⟩ := hu7
     change TaskAt w1 w7 b T at hT7
     have hbx7 := hf7.box hV6 hbx6 (by decide) (by decide)
     refine aA ?_
     (repeat' first | ((with_reducible refine aJ ?_); go_step) | ((with_reducible refine aG ?_); first | refine aL ?_ | (refine aK ?_ ?_ <;> intro hc)) | fail)
     refine aD (v := .agg (bO A c1' c2').toArray) rfl rfl rfl hbx7 (show aM Tryz.prog 33 7 = true by decide +kernel) rfl (dQ oc1.one oc2.one) ?_
     intro w8 p8
     have hA8 : ActAt w1 w8 b w2.heap.size (T, A) := ActAt.next (r := (T, A)) hT7 hbx7 (show (1 : Int) ≠ 2 by decide) hge hne oc1 oc2 p8
     have hI8 : BM w1 w8 b w2.heap.size (k + 1) := by
      rcases hcase with ⟨h7, rfl, rfl⟩ | ⟨rfl, rfl⟩
      ·exact .inl ⟨by omega, g', by omega, hA8⟩
      ·exact .inr ⟨rfl, T, hA8⟩
     (repeat' first | ((with_reducible refine aJ ?_); go_step) | ((with_reducible refine aG ?_); first | refine aL ?_ | (refine aK ?_ ?_ <;> intro hc)) | fail)
     exact ⟨⟨k + 1, by omega, by go_num, hI8⟩, by simp [intOf]; omega⟩
    ·have hkn : (k : Int) = n := by omega
     (repeat' first | ((with_reducible refine aJ ?_); go_step) | ((with_reducible refine aG ?_); first | refine aL ?_ | (refine aK ?_ ?_ <;> intro hc)) | fail)
     all_goals first
      | (exfalso; omega)
      | skip
     refine aY (Runs.eqlBV (a := decide (n < 9)) (b := decide ((1 : Int) = 1)) rfl rfl (by decide +kernel)) ?_
     rw [show (decide (n < 9) == decide ((1 : Int) = 1)) = true by rw [decide_eq_true (show n < 9 by omega)]; rfl]
     refine aA ?_
     (repeat' first | ((with_reducible refine aJ ?_); go_step) | ((with_reducible refine aG ?_); first | refine aL ?_ | (refine aK ?_ ?_ <;> intro hc)) | fail)
     refine aB (enters_of Tryz.func15 rfl rfl) rfl rfl (yN _) ?_; intro w6 x6; refine aA ?_
     (repeat' first | ((with_reducible refine aJ ?_); go_step) | ((with_reducible refine aG ?_); first | refine aL ?_ | (refine aK ?_ ?_ <;> intro hc)) | fail)
     go_ret
     exact ⟨rfl, x1.trans (hxr.trans x6)⟩
   ·have hxr := hA.tsk.ext
    obtain ⟨hT, ⟨v1', v2, hbx, o1, o2⟩, hge, hne⟩ := hA
    have hpx := aC (cs := bO ⟨2, 0, [], 0, 2, [], []⟩ v1' v2) hbx
    by_cases hlt : (9 : Int) < n
    ·(repeat' first | ((with_reducible refine aJ ?_); go_step) | ((with_reducible refine aG ?_); first | refine aL ?_ | (refine aK ?_ ?_ <;> intro hc)) | fail)
     all_goals first
      | (exfalso; omega)
      | skip
     refine aB (enters_of Tryz.func15 rfl rfl) rfl rfl (yN _) ?_; intro w6 x6; refine aA ?_
     (repeat' first | ((with_reducible refine aJ ?_); go_step) | ((with_reducible refine aG ?_); first | refine aL ?_ | (refine aK ?_ ?_ <;> intro hc)) | fail)
     go_ret
     exact ⟨rfl, x1.trans (hxr.trans x6)⟩
    ·have hkn : (9 : Int) = n := by omega
     (repeat' first | ((with_reducible refine aJ ?_); go_step) | ((with_reducible refine aG ?_); first | refine aL ?_ | (refine aK ?_ ?_ <;> intro hc)) | fail)
     all_goals first
      | (exfalso; omega)
      | skip
     refine aY (Runs.eqlBV (a := decide (n < 9)) (b := decide ((2 : Int) = 1)) rfl rfl (by decide +kernel)) ?_
     rw [show (decide (n < 9) == decide ((2 : Int) = 1)) = true by rw [decide_eq_false (show ¬ n < 9 by omega)]; rfl]
     refine aA ?_
     (repeat' first | ((with_reducible refine aJ ?_); go_step) | ((with_reducible refine aG ?_); first | refine aL ?_ | (refine aK ?_ ?_ <;> intro hc)) | fail)
     refine aB (enters_of Tryz.func15 rfl rfl) rfl rfl (yN _) ?_; intro w6 x6; refine aA ?_
     (repeat' first | ((with_reducible refine aJ ?_); go_step) | ((with_reducible refine aG ?_); first | refine aL ?_ | (refine aK ?_ ?_ <;> intro hc)) | fail)
     go_ret
     exact ⟨rfl, x1.trans (hxr.trans x6)⟩
 ·(repeat' first | ((with_reducible refine aJ ?_); go_step) | ((with_reducible refine aG ?_); first | refine aL ?_ | (refine aK ?_ ?_ <;> intro hc)) | fail)
  all_goals first
   | (exfalso; omega)
   | skip
  all_goals (
   refine aB (enters_of Tryz.func15 rfl rfl) rfl rfl (yN _) ?_; intro w2 x2; refine aA ?_
   (repeat' first | ((with_reducible refine aJ ?_); go_step) | ((with_reducible refine aG ?_); first | refine aL ?_ | (refine aK ?_ ?_ <;> intro hc)) | fail)
   go_ret
   exact ⟨rfl, x2⟩)
open Go.ChangeShapes Go.WideShapes Go.ChangeAt Go.RowKit
set_option maxRecDepth 100000 in
theorem hU (os : Os) (started : os.Started) (H : Type) (enc : TypeId × Value → H) :
 ReturnsInHanded {} Tryz.checked os 7 .any (YtcabalnocddidaaGreat.Rows.resolveChainSpec.pre6 enc Tryz.prog Tryz.f7 YtcabalnocddidaaGreat.Rows.resolveChainRow.domain false) (YtcabalnocddidaaGreat.Rows.resolveChainSpec.post enc Tryz.prog Tryz.f7 false true false false) := by
 refine returnsInHanded_of_change (C := Tryz.checked) own started (by kernel_rfl) Tryz.func7
  (ChangeSpec.witness6 (enc := enc) (C := Tryz.checked) false ⟨#[], #[.int .i64 0], []⟩ 8 (by kernel_rfl) (by kernel_rfl) (by kernel_rfl) (by kernel_rfl)) ?_
 intro W base args ds gs before hval0 hW hcnd _
 have hW' := hW
 obtain ⟨p, q, hA0, hV, rfl, hfz, hnd⟩ := hW
 have hA : DataW.TrodAll enc Tryz.prog W 0 (fun _ => true) true Tryz.f7.params.toList args.toList ds p := hA0
 have hval : ∀ (j : Nat) t v, Tryz.f7.params[j]? = some t → args[j]? = some v → Value.okWide Tryz.prog W .any base t v := hval0
 rw [Tryz.params7] at hA hval
 obtain ⟨v0, vs0, d0, ds0, p0, q0, hargs, rfl, rfl, h0, r0⟩ := trodAll_cons hA
 obtain ⟨rfl, rfl, rfl⟩ := trodAll_nil r0
 obtain rfl : args = #[v0] := by cases args; simp_all
 obtain ⟨rfl, rfl⟩ := trodVars_none hV
 have k0 := h0
 have lt0 : ∀ x ∈ p0, x.block < W.heap.size := by obtain ⟨m, hm⟩ := k0; exact DataW.trod_lt m _ _ _ hm
 obtain ⟨n0, rfl⟩ := okWide_int Tryz.underlying3 (hval 0 3 v0 rfl rfl)
 clear hA0 hval0
 have h9 := vB n0 W
 refine h9.mono fun e W' ⟨he, hx⟩ => ?_
 subst he
 have bel := hx.below
 exact ⟨_, rfl, _, _, _, [], _, [], hW', trodAll_mk1 (shut_bool Tryz.underlying4 _), (trodAll_cons_mk (Below.trod yA (by kernel_rfl) (of_decide_eq_true (by kernel_rfl)) k0 bel lt0) trodAll_mk0), rfl, bel.frame _, fun h => by cases h⟩
theorem yQ : Tryz.checked.prog.mayEnter = true := by kernel_rfl
theorem AF : (YtcabalnocddidaaGreat.Rows.resolveChainRow.lifted == Tryz.checked.prog.liftsFinal) = true := by kernel_rfl
theorem AG : (Tryz.checked.prog.make == some YtcabalnocddidaaGreat.Rows.resolveChainRow.make) = true := by kernel_rfl
theorem hX : joinedFacts Tryz.checked.prog 7 Tryz.f7 YtcabalnocddidaaGreat.Rows.resolveChainSpec YtcabalnocddidaaGreat.Rows.resolveChainRow = true := by
 unfold joinedFacts
 simp only [Bool.and_eq_true]
 repeat' (refine And.intro ?_ ?_)
 all_goals first | (with_reducible exact yQ) | (with_reducible exact AF) | (with_reducible exact AG) | kernel_rfl
theorem resolveChain_holds : YtcabalnocddidaaGreat.Rows.ResolveChainSaid :=
 OpenClaim.holds_of_wide 7 Tryz.f7 rfl rfl rfl rfl rfl rfl rfl ⟨rfl, rfl, rfl, rfl, rfl⟩ rfl rfl rfl rfl rfl (by kernel_rfl) Tryz.func7 hX
  (of_decide_eq_true (by kernel_rfl)) (by unfold Func.isWrapper; first | (rw [if_pos (by decide +kernel)]; kernel_rfl) | (rw [if_neg (by decide +kernel)]; exact ⟨rfl, rfl⟩))
  (fun os started H enc _ => hU os started H enc)
end Go.Proofs.X
