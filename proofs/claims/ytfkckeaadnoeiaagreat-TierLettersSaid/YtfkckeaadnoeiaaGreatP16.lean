/- Laws and walks that the proof of the statement is made of (part 16). -/
import Derived.Test.YtfkckeaadnoeiaaGreatRows
import Derived.Test.YtfkckeaadnoeiaaGreatP15
set_option linter.unusedSimpArgs false
set_option linter.unusedVariables false
set_option maxRecDepth 100000
namespace Go.Proofs.X
open Go.RowKit Go.ChangeShapes Go.WideShapes Go.ChangeAt Go.RowKit
variable {cs:Array Value} {held:Bool} {qt:Int} {ps rs:List (List UInt8×Nat)} {ls:List (List UInt8)} {css css0 es:List (List Value)} {d l m n o qn s t x y z:List UInt8} {B a b base c e fuel i j k p q:Nat} {fz:Nat×Nat} {row:Option Nat} {r u v:Value} {w w' w0 w1 w2:World}
set_option maxRecDepth 100000 in
theorem tN (os:Os) (started:os.Started) (H:Type) (enc:TypeId×Value→H) :
 ReturnsInHanded {} Tryz.checked os 3 .any (YtfkckeaadnoeiaaGreat.Rows.tierLettersSpec.pre6 enc Tryz.prog Tryz.f3 YtfkckeaadnoeiaaGreat.Rows.tierLettersRow.domain false) (YtfkckeaadnoeiaaGreat.Rows.tierLettersSpec.post enc Tryz.prog Tryz.f3 false true false false):=by
 refine returnsInHanded_of_change (C:=Tryz.checked) own started (by kernel_rfl) Tryz.func3
  (ChangeSpec.witness6 (enc:=enc) (C:=Tryz.checked) false ⟨#[],#[.slice none 0 0, .agg #[aE [], .int .i64 0]],[]⟩ 8 (by kernel_rfl) (by kernel_rfl) (by kernel_rfl) (by kernel_rfl)) ?_
 intro W base args ds gs before hval0 hW hcnd _;have hW':=hW;obtain ⟨p,q,hA0,hV,rfl,hfz,hnd⟩:=hW;have hA:DataW.TrodAll enc Tryz.prog W 0 (fun _=>true) true Tryz.f3.params.toList args.toList ds p:=hA0;have hval:∀ (j:Nat) t v,Tryz.f3.params[j]? = some t→args[j]? = some v→Value.okWide Tryz.prog W .any base t v:=hval0;rw [Tryz.params3]at hA hval;obtain ⟨v0,vs0,d0,ds0,p0,q0,hargs,rfl,rfl,h0,r0⟩:=trodAll_cons hA;obtain ⟨v1,vs1,d1,ds1,p1,q1,rfl,rfl,rfl,h1,r1⟩:=trodAll_cons r0;obtain ⟨rfl,rfl,rfl⟩:=trodAll_nil r1;obtain rfl:args=#[v0,v1]:=by cases args;simp_all
 obtain ⟨rfl,rfl⟩:=trodVars_none hV;have k0:=h0;have k1:=h1;have lt0:∀ x∈p0,x.block<W.heap.size:=by obtain ⟨m,hm⟩:=k0;exact DataW.trod_lt m _ _ _ hm
 have lt1:∀ x∈p1,x.block<W.heap.size:=by obtain ⟨m,hm⟩:=k1;exact DataW.trod_lt m _ _ _ hm
 obtain ⟨a0,len0,cap0,rfl⟩:=okWide_slice Tryz.underlying22 (hval 0 22 v0 rfl rfl);obtain ⟨l0,g0⟩:∃ ss,SvsAt W (.slice a0 len0 cap0) ss:=by
  obtain ⟨fuel,hf⟩:=h0;exact GQ hf
 obtain ⟨c1,rfl,z1⟩:=okWide_struct Tryz.underlying25 (hval 1 25 v1 rfl rfl);obtain ⟨q1',n1,e1⟩:∃ (q:List UInt8) (k:Int),c1=#[aE q, .int .i64 k]:=by
  obtain ⟨fuel,hf⟩:=h1;exact LR hf
 subst e1;clear hA0 hval0;have h9:=JQ _ l0 q1' n1 W g0;refine h9.mono fun e W' ⟨he,hx⟩=>?_;subst he;have bel:=hx.below;exact ⟨_,rfl,_,_,_,[],_,[],hW',trodAll_mk1 (shut_bool Tryz.underlying4 _),(trodAll_cons_mk (Below.trod ND (by kernel_rfl) (of_decide_eq_true (by kernel_rfl)) k0 bel lt0) (trodAll_cons_mk (Below.trod ND (by kernel_rfl) (of_decide_eq_true (by kernel_rfl)) k1 bel lt1) trodAll_mk0)),rfl,bel.frame _,fun h=>by cases h⟩
theorem XF:Tryz.checked.prog.mayEnter=true:=by kernel_rfl
theorem Bm:(YtfkckeaadnoeiaaGreat.Rows.tierLettersRow.lifted == Tryz.checked.prog.liftsFinal)=true:=by kernel_rfl
theorem Bp:(Tryz.checked.prog.make == some YtfkckeaadnoeiaaGreat.Rows.tierLettersRow.make)=true:=by kernel_rfl
theorem tO:joinedFacts Tryz.checked.prog 3 Tryz.f3 YtfkckeaadnoeiaaGreat.Rows.tierLettersSpec YtfkckeaadnoeiaaGreat.Rows.tierLettersRow=true:=by
 unfold joinedFacts;simp only [Bool.and_eq_true]
 repeat' (refine And.intro ?_ ?_)
 all_goals first|(with_reducible exact XF)|(with_reducible exact Bm)|(with_reducible exact Bp)|kernel_rfl
theorem tierLetters_holds:YtfkckeaadnoeiaaGreat.Rows.TierLettersSaid :=
 OpenClaim.holds_of_wide 3 Tryz.f3 rfl rfl rfl rfl rfl rfl rfl ⟨rfl,rfl,rfl,rfl,rfl⟩ rfl rfl rfl rfl rfl (by kernel_rfl) Tryz.func3 tO
  (of_decide_eq_true (by kernel_rfl)) (by unfold Func.isWrapper;first|(rw [if_pos zDk];kernel_rfl)|(rw [if_neg zDk];exact ⟨rfl,rfl⟩))
  (fun os started H enc _=>tN os started H enc)
end Go.Proofs.X
