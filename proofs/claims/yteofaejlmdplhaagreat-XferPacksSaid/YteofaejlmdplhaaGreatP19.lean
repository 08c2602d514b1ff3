/- Laws and walks that the proof of the statement is made of (part 19). -/
import Derived.Test.YteofaejlmdplhaaGreatRows
import Derived.Test.YteofaejlmdplhaaGreatP18
set_option linter.unusedSimpArgs false
set_option linter.unusedVariables false
namespace Go.Proofs.X
open Go.RowKit
set_option maxRecDepth 100000
open Go.ChangeShapes Go.WideShapes Go.ChangeAt Go.RowKit
set_option maxRecDepth 100000 in
theorem VD (os : Os) (started : os.Started) (H : Type) (enc : TypeId × Value → H) :
 ReturnsInHanded {} Tryz.checked os 5 .any (YteofaejlmdplhaaGreat.Rows.xferPacksSpec.pre6 enc Tryz.prog Tryz.f5 YteofaejlmdplhaaGreat.Rows.xferPacksRow.domain false) (YteofaejlmdplhaaGreat.Rows.xferPacksSpec.post enc Tryz.prog Tryz.f5 false true false false) := by
 refine returnsInHanded_of_change (C := Tryz.checked) own started (by kernel_rfl) Tryz.func5
  (ChangeSpec.witness6 (enc := enc) (C := Tryz.checked) false ⟨#[], #[.agg #[.int .i64 0, .bool false, .int .i64 0, .bool false, .bool false, .bool false, .bool false, .int .i64 0, .slice none 0 0, .slice none 0 0, .slice none 0 0, .slice none 0 0, .int .i64 0, .slice none 0 0, .int .i64 0, .slice none 0 0]], []⟩ 8 (by kernel_rfl) (by kernel_rfl) (by kernel_rfl) (by kernel_rfl)) ?_
 intro W base args ds gs before hval0 hW hcnd _
 have hW' := hW
 obtain ⟨p, q, hA0, hV, rfl, hfz, hnd⟩ := hW
 have hA : DataW.TrodAll enc Tryz.prog W 0 (fun _ => true) true Tryz.f5.params.toList args.toList ds p := hA0
 have hval : ∀ (j : Nat) t v, Tryz.f5.params[j]? = some t → args[j]? = some v → Value.okWide Tryz.prog W .any base t v := hval0
 rw [Tryz.params5] at hA hval
 obtain ⟨v0, vs0, d0, ds0, p0, q0, hargs, rfl, rfl, h0, r0⟩ := trodAll_cons hA
 obtain ⟨rfl, rfl, rfl⟩ := trodAll_nil r0
 obtain rfl : args = #[v0] := by cases args; simp_all
 obtain ⟨rfl, rfl⟩ := trodVars_none hV
 have k0 := h0
 have lt0 : ∀ x ∈ p0, x.block < W.heap.size := by obtain ⟨m, hm⟩ := k0; exact DataW.trod_lt m _ _ _ hm
 obtain ⟨c0, rfl, z0⟩ := okWide_struct Tryz.underlying58 (hval 0 58 v0 rfl rfl)
 obtain ⟨m0, a0, b0, u0, w0, x0, l0, n0, y0, k0', e0, f0, g0, i0⟩ : ∃ (m : MsgR) (q a u e lv : Value) (l : List Rec) (most : Int) (mv : Value) (ms : List MsgR), c0 = (BJ m q a u e lv most mv).toArray ∧ MsgV W m q a u e ∧ Sl 4 W lv (aC l) ∧ MsgsAt W mv ms := by
  obtain ⟨fuel, hf⟩ := h0
  exact QC hf
 subst e0
 clear hA0 hval0
 have h9 := QL m0 a0 b0 u0 w0 x0 l0 n0 y0 k0' W f0 g0 i0
 refine h9.mono fun e W' ⟨he, hx⟩ => ?_
 subst he
 have bel := hx.below
 exact ⟨_, rfl, _, _, _, [], _, [], hW', trodAll_mk1 (shut_bool Tryz.underlying4 _), (trodAll_cons_mk (Below.trod SC (by kernel_rfl) (of_decide_eq_true (by kernel_rfl)) k0 bel lt0) trodAll_mk0), rfl, bel.frame _, fun h => by cases h⟩
theorem VF : Tryz.checked.prog.mayEnter = true := by kernel_rfl
theorem VG : (YteofaejlmdplhaaGreat.Rows.xferPacksRow.lifted == Tryz.checked.prog.liftsFinal) = true := by kernel_rfl
theorem VH : (Tryz.checked.prog.make == some YteofaejlmdplhaaGreat.Rows.xferPacksRow.make) = true := by kernel_rfl
theorem VE : joinedFacts Tryz.checked.prog 5 Tryz.f5 YteofaejlmdplhaaGreat.Rows.xferPacksSpec YteofaejlmdplhaaGreat.Rows.xferPacksRow = true := by
 unfold joinedFacts
 simp only [Bool.and_eq_true]
 repeat' (refine And.intro ?_ ?_)
 all_goals first | (with_reducible exact VF) | (with_reducible exact VG) | (with_reducible exact VH) | kernel_rfl
theorem xferPacks_holds : YteofaejlmdplhaaGreat.Rows.XferPacksSaid :=
 OpenClaim.holds_of_wide 5 Tryz.f5 rfl rfl rfl rfl rfl rfl rfl ⟨rfl, rfl, rfl, rfl, rfl⟩ rfl rfl rfl rfl rfl (by kernel_rfl) Tryz.func5 VE
  (of_decide_eq_true (by kernel_rfl)) (by unfold Func.isWrapper; first | (rw [if_pos (by decide +kernel)]; kernel_rfl) | (rw [if_neg (by decide +kernel)]; exact ⟨rfl, rfl⟩))
  (fun os started H enc _ => VD os started H enc)
end Go.Proofs.X
