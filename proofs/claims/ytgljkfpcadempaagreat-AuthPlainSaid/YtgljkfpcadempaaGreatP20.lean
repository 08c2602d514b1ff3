/- Laws and walks that the proof of the statement is made of (part 20). -/
import Derived.Test.YtgljkfpcadempaaGreatRows
import Derived.Test.YtgljkfpcadempaaGreatP19
set_option linter.unusedSimpArgs false
set_option linter.unusedVariables false
namespace Go.Proofs.X
open Go.RowKit
set_option maxRecDepth 100000
open Go.ChangeShapes Go.WideShapes Go.ChangeAt Go.RowKit
set_option maxRecDepth 100000 in
theorem SW (os : Os) (started : os.Started) (H : Type) (enc : TypeId × Value → H) :
 ReturnsInHanded {} Tryz.checked os 6 .any (YtgljkfpcadempaaGreat.Rows.authPlainSpec.pre6 enc Tryz.prog Tryz.f6 YtgljkfpcadempaaGreat.Rows.authPlainRow.domain false) (YtgljkfpcadempaaGreat.Rows.authPlainSpec.post enc Tryz.prog Tryz.f6 false true false false) := by
 refine returnsInHanded_of_change (C := Tryz.checked) own started (by kernel_rfl) Tryz.func6
  (ChangeSpec.witness6 (enc := enc) (C := Tryz.checked) false ⟨#[], #[.agg #[aH [], .slice none 0 0, aH [], .bool false], .agg #[aH [], .slice none 0 0, aH [], .bool false], .agg #[aH [], .int .i64 0]], []⟩ 8 (by kernel_rfl) (by kernel_rfl) (by kernel_rfl) (by kernel_rfl)) ?_
 intro W base args ds gs before hval0 hW hcnd _
 have hW' := hW
 obtain ⟨p, q, hA0, hV, rfl, hfz, hnd⟩ := hW
 have hA : DataW.TrodAll enc Tryz.prog W 0 (fun _ => true) true Tryz.f6.params.toList args.toList ds p := hA0
 have hval : ∀ (j : Nat) t v, Tryz.f6.params[j]? = some t → args[j]? = some v → Value.okWide Tryz.prog W .any base t v := hval0
 rw [Tryz.params6] at hA hval
 obtain ⟨v0, vs0, d0, ds0, p0, q0, hargs, rfl, rfl, h0, r0⟩ := trodAll_cons hA
 obtain ⟨v1, vs1, d1, ds1, p1, q1, rfl, rfl, rfl, h1, r1⟩ := trodAll_cons r0
 obtain ⟨v2, vs2, d2, ds2, p2, q2, rfl, rfl, rfl, h2, r2⟩ := trodAll_cons r1
 obtain ⟨rfl, rfl, rfl⟩ := trodAll_nil r2
 obtain rfl : args = #[v0, v1, v2] := by cases args; simp_all
 obtain ⟨rfl, rfl⟩ := trodVars_none hV
 have k0 := h0
 have k1 := h1
 have k2 := h2
 have lt0 : ∀ x ∈ p0, x.block < W.heap.size := by obtain ⟨m, hm⟩ := k0; exact DataW.trod_lt m _ _ _ hm
 have lt1 : ∀ x ∈ p1, x.block < W.heap.size := by obtain ⟨m, hm⟩ := k1; exact DataW.trod_lt m _ _ _ hm
 have lt2 : ∀ x ∈ p2, x.block < W.heap.size := by obtain ⟨m, hm⟩ := k2; exact DataW.trod_lt m _ _ _ hm
 obtain ⟨c0, rfl, z0⟩ := okWide_struct Tryz.underlying52 (hval 0 52 v0 rfl rfl)
 obtain ⟨p0', u0, e0, g0⟩ : ∃ (p : HldR) (u : Value), c0 = #[aH p.o, u, aH p.org, .bool p.up] ∧ SetsAt W u p.l := by
  obtain ⟨fuel, hf⟩ := h0
  exact NV hf
 subst e0
 obtain ⟨c1, rfl, z1⟩ := okWide_struct Tryz.underlying52 (hval 1 52 v1 rfl rfl)
 obtain ⟨p1', u1, e1, g1⟩ : ∃ (p : HldR) (u : Value), c1 = #[aH p.o, u, aH p.org, .bool p.up] ∧ SetsAt W u p.l := by
  obtain ⟨fuel, hf⟩ := h1
  exact NV hf
 subst e1
 obtain ⟨c2, rfl, z2⟩ := okWide_struct Tryz.underlying54 (hval 2 54 v2 rfl rfl)
 obtain ⟨q2', n2, e2⟩ : ∃ (q : List UInt8) (k : Int), c2 = #[aH q, .int .i64 k] := by
  obtain ⟨fuel, hf⟩ := h2
  exact NC hf
 subst e2
 clear hA0 hval0
 have h9 := NX p0' u0 p1' u1 q2' n2 W g0 g1
 refine h9.mono fun e W' ⟨he, hx⟩ => ?_
 subst he
 have bel := hx.below
 exact ⟨_, rfl, _, _, _, [], _, [], hW', trodAll_mk1 (shut_bool Tryz.underlying4 _), (trodAll_cons_mk (Below.trod PK (by kernel_rfl) (of_decide_eq_true (by kernel_rfl)) k0 bel lt0) (trodAll_cons_mk (Below.trod PK (by kernel_rfl) (of_decide_eq_true (by kernel_rfl)) k1 bel lt1) (trodAll_cons_mk (Below.trod PK (by kernel_rfl) (of_decide_eq_true (by kernel_rfl)) k2 bel lt2) trodAll_mk0))), rfl, bel.frame _, fun h => by cases h⟩
theorem SY : Tryz.checked.prog.mayEnter = true := by kernel_rfl
theorem SZ : (YtgljkfpcadempaaGreat.Rows.authPlainRow.lifted == Tryz.checked.prog.liftsFinal) = true := by kernel_rfl
theorem TA : (Tryz.checked.prog.make == some YtgljkfpcadempaaGreat.Rows.authPlainRow.make) = true := by kernel_rfl
theorem SX : joinedFacts Tryz.checked.prog 6 Tryz.f6 YtgljkfpcadempaaGreat.Rows.authPlainSpec YtgljkfpcadempaaGreat.Rows.authPlainRow = true := by
 unfold joinedFacts
 simp only [Bool.and_eq_true]
 repeat' (refine And.intro ?_ ?_)
 all_goals first | (with_reducible exact SY) | (with_reducible exact SZ) | (with_reducible exact TA) | kernel_rfl
theorem authPlain_holds : YtgljkfpcadempaaGreat.Rows.AuthPlainSaid :=
 OpenClaim.holds_of_wide 6 Tryz.f6 rfl rfl rfl rfl rfl rfl rfl ⟨rfl, rfl, rfl, rfl, rfl⟩ rfl rfl rfl rfl rfl (by kernel_rfl) Tryz.func6 SX
  (of_decide_eq_true (by kernel_rfl)) (by unfold Func.isWrapper; first | (rw [if_pos (by decide +kernel)]; kernel_rfl) | (rw [if_neg (by decide +kernel)]; exact ⟨rfl, rfl⟩))
  (fun os started H enc _ => SW os started H enc)
end Go.Proofs.X
