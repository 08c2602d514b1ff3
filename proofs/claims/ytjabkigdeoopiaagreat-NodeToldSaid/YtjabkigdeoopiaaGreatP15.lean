/- Laws and walks that the proof of the statement is made of (part 15). -/
import Derived.Test.YtjabkigdeoopiaaGreatRows
import Derived.Test.YtjabkigdeoopiaaGreatP14
set_option linter.unusedSimpArgs false
set_option linter.unusedVariables false
set_option maxRecDepth 100000
namespace Go.Proofs.X
open Go.RowKit Go.ChangeShapes Go.WideShapes Go.ChangeAt Go.RowKit
variable {cs:Array Value} {held:Bool} {qt:Int} {ps rs:List (List UInt8 × Nat)} {ls:List (List UInt8)} {css css0 es:List (List Value)} {d l m n o qn s t x y z:List UInt8} {B a b base c e fuel i j k p q:Nat} {fz:Nat × Nat} {row:Option Nat} {r u v:Value} {w w' w0 w1 w2:World}
set_option maxRecDepth 100000 in
theorem YS (os:Os) (started:os.Started) (H:Type) (enc:TypeId × Value→H) :
 ReturnsInHanded {} Tryz.checked os 6 .any (YtjabkigdeoopiaaGreat.Rows.nodeToldSpec.pre6 enc Tryz.prog Tryz.f6 YtjabkigdeoopiaaGreat.Rows.nodeToldRow.domain false) (YtjabkigdeoopiaaGreat.Rows.nodeToldSpec.post enc Tryz.prog Tryz.f6 false true false false):=by
 refine returnsInHanded_of_change (C:=Tryz.checked) own started (by kernel_rfl) Tryz.func6
  (ChangeSpec.witness6 (enc:=enc) (C:=Tryz.checked) false ⟨#[],#[.agg #[aE [], .int .i64 0, .int .i64 0, .int .i64 0, .int .i64 0, .int .i64 0]],[]⟩ 8 (by kernel_rfl) (by kernel_rfl) (by kernel_rfl) (by kernel_rfl)) ?_
 intro W base args ds gs before hval0 hW hcnd _;have hW':=hW;obtain ⟨p,q,hA0,hV,rfl,hfz,hnd⟩:=hW;have hA:DataW.TrodAll enc Tryz.prog W 0 (fun _=>true) true Tryz.f6.params.toList args.toList ds p:=hA0;have hval:∀ (j:Nat) t v,Tryz.f6.params[j]? = some t→args[j]? = some v→Value.okWide Tryz.prog W .any base t v:=hval0;rw [Tryz.params6] at hA hval;obtain ⟨v0,vs0,d0,ds0,p0,q0,hargs,rfl,rfl,h0,r0⟩:=trodAll_cons hA;obtain ⟨rfl,rfl,rfl⟩:=trodAll_nil r0;obtain rfl:args=#[v0]:=by cases args;simp_all
 obtain ⟨rfl,rfl⟩:=trodVars_none hV;have k0:=h0;have lt0:∀ x ∈ p0,x.block < W.heap.size:=by obtain ⟨m,hm⟩:=k0;exact DataW.trod_lt m _ _ _ hm
 obtain ⟨c0,rfl,z0⟩:=okWide_struct Tryz.underlying56 (hval 0 56 v0 rfl rfl);obtain ⟨q0',n0,a0',b0',u0',x0',e0⟩:∃ (qn:List UInt8) (qt id bud wt roots:Int),c0=#[aE qn, .int .i64 qt, .int .i64 id, .int .i64 bud, .int .i64 wt, .int .i64 roots]:=by
  obtain ⟨fuel,hf⟩:=h0;exact UC hf
 subst e0;clear hA0 hval0;have h9:=UE q0' n0 a0' b0' u0' x0' W ;refine h9.mono fun e W' ⟨he,hx⟩ => ?_;subst he;have bel:=hx.below;exact ⟨_,rfl,_,_,_,[],_,[],hW',trodAll_mk1 (shut_bool Tryz.underlying4 _),(trodAll_cons_mk (Below.trod WI (by kernel_rfl) (of_decide_eq_true (by kernel_rfl)) k0 bel lt0) trodAll_mk0),rfl,bel.frame _,fun h=>by cases h⟩
theorem YU:Tryz.checked.prog.mayEnter=true:=by kernel_rfl
theorem YV:(YtjabkigdeoopiaaGreat.Rows.nodeToldRow.lifted == Tryz.checked.prog.liftsFinal)=true:=by kernel_rfl
theorem YW:(Tryz.checked.prog.make == some YtjabkigdeoopiaaGreat.Rows.nodeToldRow.make)=true:=by kernel_rfl
theorem YT:joinedFacts Tryz.checked.prog 6 Tryz.f6 YtjabkigdeoopiaaGreat.Rows.nodeToldSpec YtjabkigdeoopiaaGreat.Rows.nodeToldRow=true:=by
 unfold joinedFacts;simp only [Bool.and_eq_true]
 repeat' (refine And.intro ?_ ?_)
 all_goals first | (with_reducible exact YU) | (with_reducible exact YV) | (with_reducible exact YW) | kernel_rfl
theorem nodeTold_holds:YtjabkigdeoopiaaGreat.Rows.NodeToldSaid :=
 OpenClaim.holds_of_wide 6 Tryz.f6 rfl rfl rfl rfl rfl rfl rfl ⟨rfl,rfl,rfl,rfl,rfl⟩ rfl rfl rfl rfl rfl (by kernel_rfl) Tryz.func6 YT
  (of_decide_eq_true (by kernel_rfl)) (by unfold Func.isWrapper;first | (rw [if_pos zDk];kernel_rfl) | (rw [if_neg zDk];exact ⟨rfl,rfl⟩))
  (fun os started H enc _=>YS os started H enc)
end Go.Proofs.X
