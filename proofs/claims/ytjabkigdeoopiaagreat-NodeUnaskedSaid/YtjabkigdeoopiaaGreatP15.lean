/- Laws and walks that the proof of the statement is made of (part 15). -/
import Derived.Test.YtjabkigdeoopiaaGreatRows
import Derived.Test.YtjabkigdeoopiaaGreatP14
set_option linter.unusedSimpArgs false
set_option linter.unusedVariables false
set_option maxRecDepth 100000
namespace Go.Proofs.X
open Go.RowKit Go.ChangeShapes Go.WideShapes Go.ChangeAt Go.RowKit
variable {cs:Array Value} {held:Bool} {qt:Int} {ps rs:List (List UInt8 × Nat)} {ls:List (List UInt8)} {css css0 es:List (List Value)} {d l m n o qn s t x y z:List UInt8} {B a b base c e fuel i j k p q:Nat} {fz:Nat × Nat} {row:Option Nat} {r u v:Value} {w w' w0 w1 w2:World}
set_option maxRecDepth 100000 in
theorem YS (os:Os) (started:os.Started) (H:Type) (enc:TypeId × Value→H) :
 ReturnsInHanded {} Tryz.checked os 3 .any (YtjabkigdeoopiaaGreat.Rows.nodeUnaskedSpec.pre6 enc Tryz.prog Tryz.f3 YtjabkigdeoopiaaGreat.Rows.nodeUnaskedRow.domain false) (YtjabkigdeoopiaaGreat.Rows.nodeUnaskedSpec.post enc Tryz.prog Tryz.f3 false true false false):=by
 refine returnsInHanded_of_change (C:=Tryz.checked) own started (by kernel_rfl) Tryz.func3
  (ChangeSpec.witness6 (enc:=enc) (C:=Tryz.checked) false ⟨#[],#[.agg #[.int .i64 0, .bool false, .int .i64 0, .bool false, .bool false, .bool false, .bool false, .int .i64 0, .slice none 0 0, .slice none 0 0, .slice none 0 0, .slice none 0 0, .int .i64 0], .int .i64 0, .agg #[aE [], .int .i64 0]],[]⟩ 8 (by kernel_rfl) (by kernel_rfl) (by kernel_rfl) (by kernel_rfl)) ?_
 intro W base args ds gs before hval0 hW hcnd _;have hW':=hW;obtain ⟨p,q,hA0,hV,rfl,hfz,hnd⟩:=hW;have hA:DataW.TrodAll enc Tryz.prog W 0 (fun _=>true) true Tryz.f3.params.toList args.toList ds p:=hA0;have hval:∀ (j:Nat) t v,Tryz.f3.params[j]? = some t→args[j]? = some v→Value.okWide Tryz.prog W .any base t v:=hval0;rw [Tryz.params3] at hA hval;obtain ⟨v0,vs0,d0,ds0,p0,q0,hargs,rfl,rfl,h0,r0⟩:=trodAll_cons hA;obtain ⟨v1,vs1,d1,ds1,p1,q1,rfl,rfl,rfl,h1,r1⟩:=trodAll_cons r0;obtain ⟨v2,vs2,d2,ds2,p2,q2,rfl,rfl,rfl,h2,r2⟩:=trodAll_cons r1;obtain ⟨rfl,rfl,rfl⟩:=trodAll_nil r2;obtain rfl:args=#[v0,v1,v2]:=by cases args;simp_all
 obtain ⟨rfl,rfl⟩:=trodVars_none hV;have k0:=h0;have k1:=h1;have k2:=h2;have lt0:∀ x ∈ p0,x.block < W.heap.size:=by obtain ⟨m,hm⟩:=k0;exact DataW.trod_lt m _ _ _ hm
 have lt1:∀ x ∈ p1,x.block < W.heap.size:=by obtain ⟨m,hm⟩:=k1;exact DataW.trod_lt m _ _ _ hm
 have lt2:∀ x ∈ p2,x.block < W.heap.size:=by obtain ⟨m,hm⟩:=k2;exact DataW.trod_lt m _ _ _ hm
 obtain ⟨c0,rfl,z0⟩:=okWide_struct Tryz.underlying25 (hval 0 25 v0 rfl rfl);obtain ⟨m0,a0,b0,u0,x0,e0,g0⟩:∃ (m:MsgR) (q a u e:Value),c0=(aX m q a u e).toArray∧MsgV W m q a u e:=by
  obtain ⟨fuel,hf⟩:=h0;obtain ⟨m,q,a,u,e,e1,hu⟩:=WB (cl:=c0.toList) hf;exact ⟨m,q,a,u,e,by simpa using congrArg List.toArray e1,hu⟩
 subst e0;obtain ⟨n1,rfl⟩:=okWide_int Tryz.underlying3 (hval 1 3 v1 rfl rfl);obtain ⟨c2,rfl,z2⟩:=okWide_struct Tryz.underlying28 (hval 2 28 v2 rfl rfl);obtain ⟨q2',n2,e2⟩:∃ (q:List UInt8) (k:Int),c2=#[aE q, .int .i64 k]:=by
  obtain ⟨fuel,hf⟩:=h2;exact UB hf
 subst e2;clear hA0 hval0;have h9:=SC m0 a0 b0 u0 x0 n1 q2' n2 W g0;refine h9.mono fun e W' ⟨he,hx⟩ => ?_;subst he;have bel:=hx.below;exact ⟨_,rfl,_,_,_,[],_,[],hW',trodAll_mk1 (shut_bool Tryz.underlying4 _),(trodAll_cons_mk (Below.trod WI (by kernel_rfl) (of_decide_eq_true (by kernel_rfl)) k0 bel lt0) (trodAll_cons_mk (Below.trod WI (by kernel_rfl) (of_decide_eq_true (by kernel_rfl)) k1 bel lt1) (trodAll_cons_mk (Below.trod WI (by kernel_rfl) (of_decide_eq_true (by kernel_rfl)) k2 bel lt2) trodAll_mk0))),rfl,bel.frame _,fun h=>by cases h⟩
theorem YU:Tryz.checked.prog.mayEnter=true:=by kernel_rfl
theorem YV:(YtjabkigdeoopiaaGreat.Rows.nodeUnaskedRow.lifted == Tryz.checked.prog.liftsFinal)=true:=by kernel_rfl
theorem YW:(Tryz.checked.prog.make == some YtjabkigdeoopiaaGreat.Rows.nodeUnaskedRow.make)=true:=by kernel_rfl
theorem YT:joinedFacts Tryz.checked.prog 3 Tryz.f3 YtjabkigdeoopiaaGreat.Rows.nodeUnaskedSpec YtjabkigdeoopiaaGreat.Rows.nodeUnaskedRow=true:=by
 unfold joinedFacts;simp only [Bool.and_eq_true]
 repeat' (refine And.intro ?_ ?_)
 all_goals first | (with_reducible exact YU) | (with_reducible exact YV) | (with_reducible exact YW) | kernel_rfl
theorem nodeUnasked_holds:YtjabkigdeoopiaaGreat.Rows.NodeUnaskedSaid :=
 OpenClaim.holds_of_wide 3 Tryz.f3 rfl rfl rfl rfl rfl rfl rfl ⟨rfl,rfl,rfl,rfl,rfl⟩ rfl rfl rfl rfl rfl (by kernel_rfl) Tryz.func3 YT
  (of_decide_eq_true (by kernel_rfl)) (by unfold Func.isWrapper;first | (rw [if_pos zDk];kernel_rfl) | (rw [if_neg zDk];exact ⟨rfl,rfl⟩))
  (fun os started H enc _=>YS os started H enc)
end Go.Proofs.X
