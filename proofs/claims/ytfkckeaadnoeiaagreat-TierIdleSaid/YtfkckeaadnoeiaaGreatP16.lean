/- Laws and walks that the proof of the statement is made of (part 16). -/
import Derived.Test.YtfkckeaadnoeiaaGreatRows
import Derived.Test.YtfkckeaadnoeiaaGreatP15
set_option linter.unusedSimpArgs false
set_option linter.unusedVariables false
set_option maxRecDepth 100000
namespace Go.Proofs.X
open Go.RowKit Go.ChangeShapes Go.WideShapes Go.ChangeAt Go.RowKit
variable {cs:Array Value} {held:Bool} {qt:Int} {ps rs:List (List UInt8 × Nat)} {ls:List (List UInt8)} {css css0 es:List (List Value)} {d l m n o qn s t x y z:List UInt8} {B a b base c e fuel i j k p q:Nat} {fz:Nat × Nat} {row:Option Nat} {r u v:Value} {w w' w0 w1 w2:World}
set_option maxRecDepth 100000 in
theorem Ft (os:Os) (started:os.Started) (H:Type) (enc:TypeId × Value→H) :
 ReturnsInHanded {} Tryz.checked os 6 .any (YtfkckeaadnoeiaaGreat.Rows.tierIdleSpec.pre6 enc Tryz.prog Tryz.f6 YtfkckeaadnoeiaaGreat.Rows.tierIdleRow.domain false) (YtfkckeaadnoeiaaGreat.Rows.tierIdleSpec.post enc Tryz.prog Tryz.f6 false true false false):=by
 refine returnsInHanded_of_change (C:=Tryz.checked) own started (by kernel_rfl) Tryz.func6
  (ChangeSpec.witness6 (enc:=enc) (C:=Tryz.checked) false ⟨#[],#[.slice none 0 0],[]⟩ 8 (by kernel_rfl) (by kernel_rfl) (by kernel_rfl) (by kernel_rfl)) ?_
 intro W base args ds gs before hval0 hW hcnd _;have hW':=hW;obtain ⟨p,q,hA0,hV,rfl,hfz,hnd⟩:=hW;have hA:DataW.TrodAll enc Tryz.prog W 0 (fun _=>true) true Tryz.f6.params.toList args.toList ds p:=hA0;have hval:∀ (j:Nat) t v,Tryz.f6.params[j]? = some t→args[j]? = some v→Value.okWide Tryz.prog W .any base t v:=hval0;rw [Tryz.params6] at hA hval;obtain ⟨v0,vs0,d0,ds0,p0,q0,hargs,rfl,rfl,h0,r0⟩:=trodAll_cons hA;obtain ⟨rfl,rfl,rfl⟩:=trodAll_nil r0;obtain rfl:args=#[v0]:=by cases args;simp_all
 obtain ⟨rfl,rfl⟩:=trodVars_none hV;have k0:=h0;have lt0:∀ x ∈ p0,x.block < W.heap.size:=by obtain ⟨m,hm⟩:=k0;exact DataW.trod_lt m _ _ _ hm
 obtain ⟨a0,len0,cap0,rfl⟩:=okWide_slice Tryz.underlying62 (hval 0 62 v0 rfl rfl);obtain ⟨l0,g0⟩:∃ ps:List ((Int × Int) × (List UInt8 × Int)),Sl 4 W (.slice a0 len0 cap0) (ps.map fun p=>[.int .i64 p.1.1, .int .i64 p.1.2,aE p.2.1, .int .i64 p.2.2]):=by
  obtain ⟨fuel,hf⟩:=h0;exact Ay hf
 clear hA0 hval0;have h9:=Df _ l0 W g0;refine h9.mono fun e W' ⟨he,hx⟩ => ?_;subst he;have bel:=hx.below;exact ⟨_,rfl,_,_,_,[],_,[],hW',trodAll_mk1 (shut_bool Tryz.underlying4 _),(trodAll_cons_mk (Below.trod Dm (by kernel_rfl) (of_decide_eq_true (by kernel_rfl)) k0 bel lt0) trodAll_mk0),rfl,bel.frame _,fun h=>by cases h⟩
theorem Fv:Tryz.checked.prog.mayEnter=true:=by kernel_rfl
theorem Fw:(YtfkckeaadnoeiaaGreat.Rows.tierIdleRow.lifted == Tryz.checked.prog.liftsFinal)=true:=by kernel_rfl
theorem Fx:(Tryz.checked.prog.make == some YtfkckeaadnoeiaaGreat.Rows.tierIdleRow.make)=true:=by kernel_rfl
theorem Fu:joinedFacts Tryz.checked.prog 6 Tryz.f6 YtfkckeaadnoeiaaGreat.Rows.tierIdleSpec YtfkckeaadnoeiaaGreat.Rows.tierIdleRow=true:=by
 unfold joinedFacts;simp only [Bool.and_eq_true]
 repeat' (refine And.intro ?_ ?_)
 all_goals first | (with_reducible exact Fv) | (with_reducible exact Fw) | (with_reducible exact Fx) | kernel_rfl
theorem tierIdle_holds:YtfkckeaadnoeiaaGreat.Rows.TierIdleSaid :=
 OpenClaim.holds_of_wide 6 Tryz.f6 rfl rfl rfl rfl rfl rfl rfl ⟨rfl,rfl,rfl,rfl,rfl⟩ rfl rfl rfl rfl rfl (by kernel_rfl) Tryz.func6 Fu
  (of_decide_eq_true (by kernel_rfl)) (by unfold Func.isWrapper;first | (rw [if_pos zDk];kernel_rfl) | (rw [if_neg zDk];exact ⟨rfl,rfl⟩))
  (fun os started H enc _=>Ft os started H enc)
end Go.Proofs.X
