/- Laws and walks that the proof of the statement is made of (part 21). -/
import Derived.Test.YtgljkfpcadempaaGreatRows
import Derived.Test.YtgljkfpcadempaaGreatP20
set_option linter.unusedSimpArgs false
set_option linter.unusedVariables false
namespace Go.Proofs.X
open Go.RowKit
set_option maxRecDepth 100000
open Go.ChangeShapes Go.WideShapes Go.ChangeAt Go.RowKit
set_option maxRecDepth 100000 in
theorem UA (os : Os) (started : os.Started) (H : Type) (enc : TypeId × Value → H) :
 ReturnsInHanded {} Tryz.checked os 8 .any (YtgljkfpcadempaaGreat.Rows.authStreamSpec.pre6 enc Tryz.prog Tryz.f8 YtgljkfpcadempaaGreat.Rows.authStreamRow.domain false) (YtgljkfpcadempaaGreat.Rows.authStreamSpec.post enc Tryz.prog Tryz.f8 false true false false) := by
 refine returnsInHanded_of_change (C := Tryz.checked) own started (by kernel_rfl) Tryz.func8
  (ChangeSpec.witness6 (enc := enc) (C := Tryz.checked) false ⟨#[], #[.slice none 0 0, aI []], []⟩ 8 (by kernel_rfl) (by kernel_rfl) (by kernel_rfl) (by kernel_rfl)) ?_
 intro W base args ds gs before hval0 hW hcnd _
 have hW' := hW
 obtain ⟨p, q, hA0, hV, rfl, hfz, hnd⟩ := hW
 have hA : DataW.TrodAll enc Tryz.prog W 0 (fun _ => true) true Tryz.f8.params.toList args.toList ds p := hA0
 have hval : ∀ (j : Nat) t v, Tryz.f8.params[j]? = some t → args[j]? = some v → Value.okWide Tryz.prog W .any base t v := hval0
 rw [Tryz.params8] at hA hval
 obtain ⟨v0, vs0, d0, ds0, p0, q0, hargs, rfl, rfl, h0, r0⟩ := trodAll_cons hA
 obtain ⟨v1, vs1, d1, ds1, p1, q1, rfl, rfl, rfl, h1, r1⟩ := trodAll_cons r0
 obtain ⟨rfl, rfl, rfl⟩ := trodAll_nil r1
 obtain rfl : args = #[v0, v1] := by cases args; simp_all
 obtain ⟨rfl, rfl⟩ := trodVars_none hV
 have k0 := h0
 have k1 := h1
 have lt0 : ∀ x ∈ p0, x.block < W.heap.size := by obtain ⟨m, hm⟩ := k0; exact DataW.trod_lt m _ _ _ hm
 have lt1 : ∀ x ∈ p1, x.block < W.heap.size := by obtain ⟨m, hm⟩ := k1; exact DataW.trod_lt m _ _ _ hm
 obtain ⟨a0, len0, cap0, rfl⟩ := okWide_slice Tryz.underlying22 (hval 0 22 v0 rfl rfl)
 obtain ⟨l0, g0⟩ : ∃ hs, HldsAt W (.slice a0 len0 cap0) hs := by
  obtain ⟨fuel, hf⟩ := h0
  exact OP hf
 obtain ⟨b1, rfl, y1⟩ := KT Tryz.underlying9 (hval 1 9 v1 rfl rfl)
 obtain ⟨n1, e1, j1⟩ : ∃ n : List UInt8, Value.string b1 = aI n ∧ n.length ≤ 9223372036854775807 := ⟨b1.data.toList, by rw [aI, Array.toArray_toList], by simpa using y1⟩
 clear hA0 hval0
 have h9 := OY _ l0 n1 W g0 j1
 rw [← e1] at h9
 refine h9.mono fun e W' ⟨he, hx⟩ => ?_
 subst he
 have bel := hx.below
 exact ⟨_, rfl, _, _, _, [], _, [], hW', trodAll_mk1 (shut_bool Tryz.underlying4 _), (trodAll_cons_mk (Below.trod QS (by kernel_rfl) (of_decide_eq_true (by kernel_rfl)) k0 bel lt0) (trodAll_cons_mk (Below.trod QS (by kernel_rfl) (of_decide_eq_true (by kernel_rfl)) k1 bel lt1) trodAll_mk0)), rfl, bel.frame _, fun h => by cases h⟩
theorem UC : Tryz.checked.prog.mayEnter = true := by kernel_rfl
theorem UD : (YtgljkfpcadempaaGreat.Rows.authStreamRow.lifted == Tryz.checked.prog.liftsFinal) = true := by kernel_rfl
theorem UE : (Tryz.checked.prog.make == some YtgljkfpcadempaaGreat.Rows.authStreamRow.make) = true := by kernel_rfl
theorem UB : joinedFacts Tryz.checked.prog 8 Tryz.f8 YtgljkfpcadempaaGreat.Rows.authStreamSpec YtgljkfpcadempaaGreat.Rows.authStreamRow = true := by
 unfold joinedFacts
 simp only [Bool.and_eq_true]
 repeat' (refine And.intro ?_ ?_)
 all_goals first | (with_reducible exact UC) | (with_reducible exact UD) | (with_reducible exact UE) | kernel_rfl
theorem authStream_holds : YtgljkfpcadempaaGreat.Rows.AuthStreamSaid :=
 OpenClaim.holds_of_wide 8 Tryz.f8 rfl rfl rfl rfl rfl rfl rfl ⟨rfl, rfl, rfl, rfl, rfl⟩ rfl rfl rfl rfl rfl (by kernel_rfl) Tryz.func8 UB
  (of_decide_eq_true (by kernel_rfl)) (by unfold Func.isWrapper; first | (rw [if_pos (by decide +kernel)]; kernel_rfl) | (rw [if_neg (by decide +kernel)]; exact ⟨rfl, rfl⟩))
  (fun os started H enc _ => UA os started H enc)
end Go.Proofs.X
