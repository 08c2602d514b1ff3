/- Laws and walks that the proof of the statement is made of (part 20). -/
import Derived.Test.YtgljkfpcadempaaGreatRows
import Derived.Test.YtgljkfpcadempaaGreatP19
set_option linter.unusedSimpArgs false
set_option linter.unusedVariables false
namespace Go.Proofs.X
open Go.RowKit
set_option maxRecDepth 100000
open Go.ChangeShapes Go.WideShapes Go.ChangeAt Go.RowKit
set_option maxRecDepth 100000 in
theorem SW (os : Os) (started : os.Started) (H : Type) (enc : TypeId × Value → H) :
 ReturnsInHanded {} Tryz.checked os 7 .any (YtgljkfpcadempaaGreat.Rows.authIdsSpec.pre6 enc Tryz.prog Tryz.f7 YtgljkfpcadempaaGreat.Rows.authIdsRow.domain false) (YtgljkfpcadempaaGreat.Rows.authIdsSpec.post enc Tryz.prog Tryz.f7 false true false false) := by
 refine returnsInHanded_of_change (C := Tryz.checked) own started (by kernel_rfl) Tryz.func7
  (ChangeSpec.witness6 (enc := enc) (C := Tryz.checked) false ⟨#[], #[.slice none 0 0, .agg #[.int .i64 0, .bool false, .int .i64 0, .bool false, .bool false, .bool false, .bool false, .int .i64 0, .slice none 0 0, .slice none 0 0, .slice none 0 0, .slice none 0 0, .int .i64 0]], []⟩ 8 (by kernel_rfl) (by kernel_rfl) (by kernel_rfl) (by kernel_rfl)) ?_
 intro W base args ds gs before hval0 hW hcnd _
 have hW' := hW
 obtain ⟨p, q, hA0, hV, rfl, hfz, hnd⟩ := hW
 have hA : DataW.TrodAll enc Tryz.prog W 0 (fun _ => true) true Tryz.f7.params.toList args.toList ds p := hA0
 have hval : ∀ (j : Nat) t v, Tryz.f7.params[j]? = some t → args[j]? = some v → Value.okWide Tryz.prog W .any base t v := hval0
 rw [Tryz.params7] at hA hval
 obtain ⟨v0, vs0, d0, ds0, p0, q0, hargs, rfl, rfl, h0, r0⟩ := trodAll_cons hA
 obtain ⟨v1, vs1, d1, ds1, p1, q1, rfl, rfl, rfl, h1, r1⟩ := trodAll_cons r0
 obtain ⟨rfl, rfl, rfl⟩ := trodAll_nil r1
 obtain rfl : args = #[v0, v1] := by cases args; simp_all
 obtain ⟨rfl, rfl⟩ := trodVars_none hV
 have k0 := h0
 have k1 := h1
 have lt0 : ∀ x ∈ p0, x.block < W.heap.size := by obtain ⟨m, hm⟩ := k0; exact DataW.trod_lt m _ _ _ hm
 have lt1 : ∀ x ∈ p1, x.block < W.heap.size := by obtain ⟨m, hm⟩ := k1; exact DataW.trod_lt m _ _ _ hm
 obtain ⟨a0, len0, cap0, rfl⟩ := okWide_slice Tryz.underlying22 (hval 0 22 v0 rfl rfl)
 obtain ⟨l0, g0⟩ : ∃ hs, HldsAt W (.slice a0 len0 cap0) hs := by
  obtain ⟨fuel, hf⟩ := h0
  exact NB hf
 obtain ⟨c1, rfl, z1⟩ := okWide_struct Tryz.underlying26 (hval 1 26 v1 rfl rfl)
 obtain ⟨m1, a1, b1, u1, x1, e1, g1⟩ : ∃ (m : MsgR) (q a u e : Value), c1 = (aU m q a u e).toArray ∧ MsgV W m q a u e := by
  obtain ⟨fuel, hf⟩ := h1
  obtain ⟨m, q, a, u, e, e1, hu⟩ := PA (cl := c1.toList) hf
  exact ⟨m, q, a, u, e, by simpa using congrArg List.toArray e1, hu⟩
 subst e1
 clear hA0 hval0
 have h9 := PM _ l0 m1 a1 b1 u1 x1 W g0 g1
 refine h9.mono fun e W' ⟨he, hx⟩ => ?_
 subst he
 have bel := hx.below
 exact ⟨_, rfl, _, _, _, [], _, [], hW', trodAll_mk1 (shut_bool Tryz.underlying4 _), (trodAll_cons_mk (Below.trod PK (by kernel_rfl) (of_decide_eq_true (by kernel_rfl)) k0 bel lt0) (trodAll_cons_mk (Below.trod PK (by kernel_rfl) (of_decide_eq_true (by kernel_rfl)) k1 bel lt1) trodAll_mk0)), rfl, bel.frame _, fun h => by cases h⟩
theorem SY : Tryz.checked.prog.mayEnter = true := by kernel_rfl
theorem SZ : (YtgljkfpcadempaaGreat.Rows.authIdsRow.lifted == Tryz.checked.prog.liftsFinal) = true := by kernel_rfl
theorem TA : (Tryz.checked.prog.make == some YtgljkfpcadempaaGreat.Rows.authIdsRow.make) = true := by kernel_rfl
theorem SX : joinedFacts Tryz.checked.prog 7 Tryz.f7 YtgljkfpcadempaaGreat.Rows.authIdsSpec YtgljkfpcadempaaGreat.Rows.authIdsRow = true := by
 unfold joinedFacts
 simp only [Bool.and_eq_true]
 repeat' (refine And.intro ?_ ?_)
 all_goals first | (with_reducible exact SY) | (with_reducible exact SZ) | (with_reducible exact TA) | kernel_rfl
theorem authIds_holds : YtgljkfpcadempaaGreat.Rows.AuthIdsSaid :=
 OpenClaim.holds_of_wide 7 Tryz.f7 rfl rfl rfl rfl rfl rfl rfl ⟨rfl, rfl, rfl, rfl, rfl⟩ rfl rfl rfl rfl rfl (by kernel_rfl) Tryz.func7 SX
  (of_decide_eq_true (by kernel_rfl)) (by unfold Func.isWrapper; first | (rw [if_pos (by decide +kernel)]; kernel_rfl) | (rw [if_neg (by decide +kernel)]; exact ⟨rfl, rfl⟩))
  (fun os started H enc _ => SW os started H enc)
end Go.Proofs.X
