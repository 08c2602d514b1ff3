/- Laws and walks that the proof of the statement is made of (part 10). -/
import Derived.Test.YtoajkilickakiaaGreatProg
import Derived.Lib.Hide
import Derived.Test.YtoajkilickakiaaGreatShelf
import Derived.Shelf.SlSortCmp.NoneTotal
import Derived.OwnWalk
import Derived.Shelf.RegionOpenPlain
import Derived.Lib.Strings
import Derived.Lib.Slices
import Derived.Lib.Walk
import Derived.Lib.Builder
import Derived.Lib.AppendStr
import Derived.Lib.UnsafeStr
import Derived.Lib.MakeNoZero
import Derived.WalkKit
import Derived.Laws.Externs
import Derived.Laws.IdiomCopy
import Derived.Laws.BitsLemmas
import GoSem.Claims
import Derived.Test.YtoajkilickakiaaGreatP1
import Derived.Test.YtoajkilickakiaaGreatP2
import Derived.Test.YtoajkilickakiaaGreatP3
import Derived.Test.YtoajkilickakiaaGreatP4
import Derived.Test.YtoajkilickakiaaGreatP5
import Derived.Test.YtoajkilickakiaaGreatP6
import Derived.Test.YtoajkilickakiaaGreatP7
import Derived.Test.YtoajkilickakiaaGreatP8
import Derived.Test.YtoajkilickakiaaGreatP9
set_option linter.unusedSimpArgs false
set_option linter.unusedVariables false
namespace Go.Proofs.X
open Go.RowKit
set_option maxRecDepth 100000
def Rule (w : World) (f : Value) (b : Bool) : Prop := ∃ (g : FuncId) (caps : Array Value), f = .func (.func g) #[] caps ∧ Enters Tryz.prog g ∧ ∀ w', Ext w w' → Calls Tryz.prog g (([] : List Value).toArray ++ caps) w' (RetV w' (.bool b))
theorem p_right1 (o : List UInt8) (v ps pz : Value) (s : RSet) (u : Value) (w : World) (hs : Pts w ps [str s.name, .int .i64 s.kind, .int .i64 s.ttl, u]) (hz : Pts w pz [str o, v]) : Calls Tryz.prog 120 #[ps, pz] w (RetV w (.bool (underN s.name o))) := by
  go_enter Tryz.func120, Tryz.ntmps120
  repeat' (first | ((with_reducible refine o_s ?_); (first | (refine o_1 ?_; refine o_2 ?_) | (refine o_g ?_; first | refine o_u ?_ | refine o_k ?_ | refine o_n ?_ | refine o_v ?_ | ((first | refine o_G ?_ ?_ | refine o_N ?_ ?_) <;> intro hc)))) | ((fail_if_success (with_reducible refine o_s ?_)); go_step))
  refine wpl_callV (enters_of Tryz.func98 rfl rfl) rfl rfl (p_Under s.name o _) ?_; intro w1 x1; refine gset ?_
  repeat' (first | ((with_reducible refine o_s ?_); (first | (refine o_1 ?_; refine o_2 ?_) | (refine o_g ?_; first | refine o_u ?_ | refine o_k ?_ | refine o_n ?_ | refine o_v ?_ | ((first | refine o_G ?_ ?_ | refine o_N ?_ ?_) <;> intro hc)))) | ((fail_if_success (with_reducible refine o_s ?_)); go_step))
  go_ret
  exact ⟨rfl, x1⟩
def rule2 (o : List UInt8) (s : RSet) (one : Bool) : Bool := decide (s.kind ≠ 6) || (decide (s.name = o) && one)
set_option maxHeartbeats 3000000 in
theorem p_right2 (o : List UInt8) (v ps pz pb : Value) (s : RSet) (u : Value) (one : Bool) (w : World) (hs : Pts w ps [str s.name, .int .i64 s.kind, .int .i64 s.ttl, u]) (hz : Pts w pz [str o, v]) (hb : Pts w pb [.bool one]) : Calls Tryz.prog 121 #[ps, pz, pb] w (RetV w (.bool (rule2 o s one))) := by
  go_enter Tryz.func121, Tryz.ntmps121
  repeat' (first | ((with_reducible refine o_s ?_); (first | (refine o_1 ?_; refine o_2 ?_) | (refine o_g ?_; first | refine o_u ?_ | refine o_k ?_ | refine o_n ?_ | refine o_v ?_ | ((first | refine o_G ?_ ?_ | refine o_N ?_ ?_) <;> intro hc)))) | ((fail_if_success (with_reducible refine o_s ?_)); go_step))
  all_goals
    go_ret
    refine ⟨?_, Ext.refl _⟩
    simp_all [rule2]
set_option maxHeartbeats 3000000 in
theorem p_right31 (ps : Value) (s t : RSet) (u x : Value) (w : World) (hs : Pts w ps [str s.name, .int .i64 s.kind, .int .i64 s.ttl, u]) : Calls Tryz.prog 123 #[.agg #[str t.name, .int .i64 t.kind, .int .i64 t.ttl, x], ps] w (RetV w (.bool (clash s t))) := by
  go_enter Tryz.func123, Tryz.ntmps123
  repeat' ((fail_if_success (with_reducible refine o_s ?_)); go_step)
  refine wpl_box (vs := [str t.name, .int .i64 t.kind, .int .i64 t.ttl, x]) rfl rfl ?_
  intro p w1 x1 hp
  refine gset ?_
  have hs1 := hs.ext x1
  repeat' (first | ((with_reducible refine o_s ?_); (first | (refine o_1 ?_; refine o_2 ?_) | (refine o_g ?_; first | refine o_u ?_ | refine o_k ?_ | refine o_n ?_ | refine o_v ?_ | ((first | refine o_G ?_ ?_ | refine o_N ?_ ?_) <;> intro hc)))) | ((fail_if_success (with_reducible refine o_s ?_)); go_step))
  all_goals
    go_ret
    refine ⟨?_, x1⟩
    simp_all [clash]
def rule3 (l : List RSet) (s : RSet) (one : Bool) : Bool := decide (s.kind ≠ 5) || (one && !l.any (clash s))
set_option maxHeartbeats 3000000 in
theorem p_right3 (o : List UInt8) (v ps pz pb : Value) (l : List RSet) (s : RSet) (u : Value) (one : Bool) (w : World) (hs : Pts w ps [str s.name, .int .i64 s.kind, .int .i64 s.ttl, u]) (hz : Pts w pz [str o, v]) (hb : Pts w pb [.bool one]) (hv : SetsAt w v l) : Calls Tryz.prog 122 #[ps, pb, pz] w (RetV w (.bool (rule3 l s one))) := by
  have hf : SetFn w 123 #[ps] l (clash s) := fun t _ x w' hx' _ => p_right31 ps s t u x w' (hs.ext hx')
  go_enter Tryz.func122, Tryz.ntmps122
  cases one with
  | false =>
    repeat' (first | ((with_reducible refine o_s ?_); (first | (refine o_1 ?_; refine o_2 ?_) | (refine o_g ?_; first | refine o_u ?_ | refine o_k ?_ | refine o_n ?_ | refine o_v ?_ | ((first | refine o_G ?_ ?_ | refine o_N ?_ ?_) <;> intro hc)))) | ((fail_if_success (with_reducible refine o_s ?_)); go_step))
    all_goals
      go_ret
      refine ⟨?_, Ext.refl _⟩
      simp_all [rule3]
  | true =>
    repeat' (first | ((with_reducible refine o_s ?_); (first | (refine o_1 ?_; refine o_2 ?_) | (refine o_g ?_; first | refine o_u ?_ | refine o_k ?_ | refine o_n ?_ | refine o_v ?_ | ((first | refine o_G ?_ ?_ | refine o_N ?_ ?_) <;> intro hc)))) | ((fail_if_success (with_reducible refine o_s ?_)); go_step))
    · have h5 : s.kind = 5 := by simpa using (by assumption : (!decide (s.kind = 5)) = false)
      refine wpl_callV (enters_of Tryz.func86 rfl rfl) rfl rfl (p_ContainsFunc v l 123 #[ps] (clash s) _ hv (enters_of Tryz.func123 rfl rfl) hf) ?_; intro w1 x1; refine gset ?_
      repeat' (first | ((with_reducible refine o_s ?_); (first | (refine o_1 ?_; refine o_2 ?_) | (refine o_g ?_; first | refine o_u ?_ | refine o_k ?_ | refine o_n ?_ | refine o_v ?_ | ((first | refine o_G ?_ ?_ | refine o_N ?_ ?_) <;> intro hc)))) | ((fail_if_success (with_reducible refine o_s ?_)); go_step))
      go_ret
      exact ⟨by simp [rule3, h5], x1⟩
    all_goals
      go_ret
      refine ⟨?_, Ext.refl _⟩
      simp_all [rule3]
def rule4 (o : List UInt8) (l : List RSet) (s : RSet) : Bool :=
  !(cutP o l s.name).2 || decide (s.kind = 1) || decide (s.kind = 28) || (decide (s.kind = 2) && decide (s.name = (cutP o l s.name).1))
set_option maxHeartbeats 3000000 in
theorem p_right4 (o : List UInt8) (v ps pz : Value) (l : List RSet) (s : RSet) (u : Value) (w : World) (hs : Pts w ps [str s.name, .int .i64 s.kind, .int .i64 s.ttl, u]) (hz : Pts w pz [str o, v]) (hv : SetsAt w v l) : Calls Tryz.prog 124 #[pz, ps] w (RetV w (.bool (rule4 o l s))) := by
  go_enter Tryz.func124, Tryz.ntmps124
  repeat' (first | ((with_reducible refine o_s ?_); (first | (refine o_1 ?_; refine o_2 ?_) | (refine o_g ?_; first | refine o_u ?_ | refine o_k ?_ | refine o_n ?_ | refine o_v ?_ | ((first | refine o_G ?_ ?_ | refine o_N ?_ ?_) <;> intro hc)))) | ((fail_if_success (with_reducible refine o_s ?_)); go_step))
  refine wpl_callV (enters_of Tryz.func89 rfl rfl) rfl rfl (p_cut o v l s.name _ hv) ?_; intro w1 x1; refine gset ?_
  generalize hcut : cutP o l s.name = g at *
  obtain ⟨c, is⟩ := g
  have hs1 := hs.ext x1
  cases is with
  | false =>
    repeat' (first | ((with_reducible refine o_s ?_); (first | (refine o_1 ?_; refine o_2 ?_) | (refine o_g ?_; first | refine o_u ?_ | refine o_k ?_ | refine o_n ?_ | refine o_v ?_ | ((first | refine o_G ?_ ?_ | refine o_N ?_ ?_) <;> intro hc)))) | ((fail_if_success (with_reducible refine o_s ?_)); go_step))
    go_ret
    exact ⟨by simp [rule4, hcut], x1⟩
  | true =>
    repeat' (first | ((with_reducible refine o_s ?_); (first | (refine o_1 ?_; refine o_2 ?_) | (refine o_g ?_; first | refine o_u ?_ | refine o_k ?_ | refine o_n ?_ | refine o_v ?_ | ((first | refine o_G ?_ ?_ | refine o_N ?_ ?_) <;> intro hc)))) | ((fail_if_success (with_reducible refine o_s ?_)); go_step))
    all_goals
      go_ret
      refine ⟨?_, x1⟩
      simp_all [rule4]
set_option maxHeartbeats 3000000 in
theorem p_right5 (f : Value) (b : Bool) (w : World) (hf : Rule w f b) : Calls Tryz.prog 126 #[f] w (RetV w (.bool (!b))) := by
  obtain ⟨g, caps, rfl, he, hc⟩ := hf
  go_enter Tryz.func126, Tryz.ntmps126
  repeat' (first | ((with_reducible refine o_s ?_); (first | (refine o_1 ?_; refine o_2 ?_) | (refine o_g ?_; first | refine o_u ?_ | refine o_k ?_ | refine o_n ?_ | refine o_v ?_ | ((first | refine o_G ?_ ?_ | refine o_N ?_ ?_) <;> intro hc)))) | ((fail_if_success (with_reducible refine o_s ?_)); go_step))
  refine wpl_callT he rfl rfl rfl (hc _ (Ext.refl _)) ?_
  rintro e w1 ⟨rfl, x1⟩
  refine ⟨_, rfl, ?_⟩
  refine gset ?_
  repeat' (first | ((with_reducible refine o_s ?_); (first | (refine o_1 ?_; refine o_2 ?_) | (refine o_g ?_; first | refine o_u ?_ | refine o_k ?_ | refine o_n ?_ | refine o_v ?_ | ((first | refine o_G ?_ ?_ | refine o_N ?_ ?_) <;> intro hc)))) | ((fail_if_success (with_reducible refine o_s ?_)); go_step))
  go_ret
  exact ⟨rfl, x1⟩
theorem Rule.ext {w w' : World} {f : Value} {b : Bool} (h : Rule w f b) (hx : Ext w w') : Rule w' f b := by
  obtain ⟨g, caps, h1, h2, h3⟩ := h
  exact ⟨g, caps, h1, h2, fun w2 hx2 => h3 w2 (hx.trans hx2)⟩
def fcells (l : List (Value × Bool)) : List (List Value) := l.map fun x => [x.1]
theorem fcells_length (l : List (Value × Bool)) : (fcells l).length = l.length := by simp [fcells]
theorem fcells_at {l : List (Value × Bool)} {k : Nat} (h : k < l.length) : (fcells l)[k]? = some [l[k].1] := by simp [fcells, h]
def notB (x : Value × Bool) : Bool := !x.2
set_option maxHeartbeats 3000000 in
theorem p_IndexRule (v : Value) (l : List (Value × Bool)) (w : World) (hv : Sl 1 w v (fcells l)) (hf : ∀ x ∈ l, Rule w x.1 x.2) : Calls Tryz.prog 165 #[v, .func (.func 126) #[] #[]] w (RetV w (.int .i64 (idxI notB l))) := by
  have hle := hv.le
  have hlen := fcells_length l
  go_enter Tryz.func165, Tryz.ntmps165
  repeat' (first | ((with_reducible refine o_s ?_); (first | (refine o_1 ?_; refine o_2 ?_) | (refine o_g ?_; first | refine o_u ?_ | refine o_k ?_ | refine o_n ?_ | refine o_v ?_ | ((first | refine o_G ?_ ?_ | refine o_N ?_ ?_) <;> intro hc)))) | ((fail_if_success (with_reducible refine o_s ?_)); go_step))
  go_loopw [5, 8] (fun _ i wr => ∃ k : Nat, k ≤ l.length ∧ i = .int .i64 k ∧ Ext w wr ∧ (l.take k).any notB = false) (fun _ i _ => l.length - (intOf i).toNat)
  case atStart => exact ⟨0, Nat.zero_le _, rfl, Ext.refl _, rfl⟩
  case round =>
    obtain ⟨k, hk, rfl, hx, hall⟩ := hrel
    have hv2 := hv.ext hx
    by_cases hlt : k < l.length
    · have hp := hv2.elem (fcells_at hlt)
      repeat' (first | ((with_reducible refine o_s ?_); (first | (refine o_1 ?_; refine o_2 ?_) | (refine o_g ?_; first | refine o_u ?_ | refine o_k ?_ | refine o_n ?_ | refine o_v ?_ | ((first | refine o_G ?_ ?_ | refine o_N ?_ ?_) <;> intro hc)))) | ((fail_if_success (with_reducible refine o_s ?_)); go_step))
      refine wpl_callT (f := 126) (caps := #[]) (enters_of Tryz.func126 rfl rfl) rfl rfl rfl (p_right5 l[k].1 l[k].2 _ ((hf _ (List.getElem_mem hlt)).ext hx)) ?_
      rintro e w2 ⟨rfl, x2⟩
      refine ⟨_, rfl, ?_⟩
      refine gset ?_
      cases hb : l[k].2 with
      | false =>
        repeat' (first | ((with_reducible refine o_s ?_); (first | (refine o_1 ?_; refine o_2 ?_) | (refine o_g ?_; first | refine o_u ?_ | refine o_k ?_ | refine o_n ?_ | refine o_v ?_ | ((first | refine o_G ?_ ?_ | refine o_N ?_ ?_) <;> intro hc)))) | ((fail_if_success (with_reducible refine o_s ?_)); go_step))
        go_ret
        exact ⟨by rw [idx_at hlt hall (by simp [notB, hb])]; rfl, hx.trans x2⟩
      | true =>
        repeat' (first | ((with_reducible refine o_s ?_); (first | (refine o_1 ?_; refine o_2 ?_) | (refine o_g ?_; first | refine o_u ?_ | refine o_k ?_ | refine o_n ?_ | refine o_v ?_ | ((first | refine o_G ?_ ?_ | refine o_N ?_ ?_) <;> intro hc)))) | ((fail_if_success (with_reducible refine o_s ?_)); go_step))
        exact ⟨⟨k + 1, by omega, by go_num, hx.trans x2, any_take hlt hall (by simp [notB, hb])⟩, by simp [intOf]; omega⟩
    · have : k = l.length := by omega
      subst this
      rw [List.take_length] at hall
      repeat' (first | ((with_reducible refine o_s ?_); (first | (refine o_1 ?_; refine o_2 ?_) | (refine o_g ?_; first | refine o_u ?_ | refine o_k ?_ | refine o_n ?_ | refine o_v ?_ | ((first | refine o_G ?_ ?_ | refine o_N ?_ ?_) <;> intro hc)))) | ((fail_if_success (with_reducible refine o_s ?_)); go_step))
      go_ret
      exact ⟨by rw [idx_no hall]; rfl, hx⟩
theorem p_ContainsRule (v : Value) (l : List (Value × Bool)) (w : World) (hv : Sl 1 w v (fcells l)) (hf : ∀ x ∈ l, Rule w x.1 x.2) : Calls Tryz.prog 125 #[v, .func (.func 126) #[] #[]] w (RetV w (.bool (l.any notB))) := by
  go_enter Tryz.func125, Tryz.ntmps125
  repeat' (first | ((with_reducible refine o_s ?_); (first | (refine o_1 ?_; refine o_2 ?_) | (refine o_g ?_; first | refine o_u ?_ | refine o_k ?_ | refine o_n ?_ | refine o_v ?_ | ((first | refine o_G ?_ ?_ | refine o_N ?_ ?_) <;> intro hc)))) | ((fail_if_success (with_reducible refine o_s ?_)); go_step))
  refine wpl_callV (enters_of Tryz.func165 rfl rfl) rfl rfl (p_IndexRule v l _ hv hf) ?_; intro w1 x1; refine gset ?_
  repeat' (first | ((with_reducible refine o_s ?_); (first | (refine o_1 ?_; refine o_2 ?_) | (refine o_g ?_; first | refine o_u ?_ | refine o_k ?_ | refine o_n ?_ | refine o_v ?_ | ((first | refine o_G ?_ ?_ | refine o_N ?_ ?_) <;> intro hc)))) | ((fail_if_success (with_reducible refine o_s ?_)); go_step))
  go_ret
  exact ⟨by rw [← idx_any]; rfl, x1⟩
set_option maxHeartbeats 6000000 in
theorem p_right (o : List UInt8) (v : Value) (l : List RSet) (s : RSet) (u : Value) (w : World) (hv : SetsAt w v l) (hu : Sl 1 w u (tcells s.data)) (hck : checkS l = 0) : Calls Tryz.prog 88 #[.agg #[str o, v], .agg #[str s.name, .int .i64 s.kind, .int .i64 s.ttl, u]] w (RetV w (.bool (rightR o l s))) := by
  have hlen := tcells_length s.data
  go_enter Tryz.func88, Tryz.ntmps88
  repeat' ((fail_if_success (with_reducible refine o_s ?_)); go_step)
  refine wpl_box (vs := [str o, v]) rfl rfl ?_
  intro pz w1 x1 hz
  refine gset ?_
  repeat' ((fail_if_success (with_reducible refine o_s ?_)); go_step)
  refine wpl_box (vs := [str s.name, .int .i64 s.kind, .int .i64 s.ttl, u]) rfl rfl ?_
  intro ps w2 x2 hs
  refine gset ?_
  have hz2 := hz.ext x2
  have hx2 := x1.trans x2
  have hu2 := hu.ext hx2
  repeat' (first | ((with_reducible refine o_s ?_); (first | (refine o_1 ?_; refine o_2 ?_) | (refine o_g ?_; first | refine o_u ?_ | refine o_k ?_ | refine o_n ?_ | refine o_v ?_ | ((first | refine o_G ?_ ?_ | refine o_N ?_ ?_) <;> intro hc)))) | ((fail_if_success (with_reducible refine o_s ?_)); go_step))
  refine wpl_allocB (z := [.bool false]) rfl (by decide +kernel) ?_
  intro w3 x3 s3 h3
  refine gset ?_
  have hone : decide (((tcells s.data).length : Int) = 1) = decide (s.data.length = 1) := by rw [hlen, Bool.eq_iff_iff]; simp; omega
  rw [hone]
  refine wpl_store1 (v := .bool (decide (s.data.length = 1))) rfl rfl rfl h3 (by decide +kernel) rfl ?_
  intro w4 p4
  have x4 : Ext w2 w4 := x3.move p4.mv (by rintro k ⟨⟩; exact Nat.le_refl _)
  have hb4 := pts_block (cs := [.bool (decide (s.data.length = 1))]) p4.this
  have hz4 := hz2.ext x4
  have hs4 := hs.ext x4
  have hx4 := hx2.trans x4
  have hv4 := hv.ext hx4
  clear p4 h3 x3
  generalize hpb : Value.pointer (some ⟨w2.heap.size, 0, none⟩) = pb at *
  repeat' (first | ((with_reducible refine o_s ?_); (first | (refine o_1 ?_; refine o_2 ?_) | (refine o_g ?_; first | refine o_u ?_ | refine o_k ?_ | refine o_n ?_ | refine o_v ?_ | ((first | refine o_G ?_ ?_ | refine o_N ?_ ?_) <;> intro hc)))) | ((fail_if_success (with_reducible refine o_s ?_)); go_step))
  have r1 : Rule w4 (.func (.func 120) #[] #[ps, pz]) (underN s.name o) := ⟨120, _, rfl, enters_of Tryz.func120 rfl rfl, fun w' hx' => p_right1 o v ps pz s u w' (hs4.ext hx') (hz4.ext hx')⟩
  have r2 : Rule w4 (.func (.func 121) #[] #[ps, pz, pb]) (rule2 o s (decide (s.data.length = 1))) := ⟨121, _, rfl, enters_of Tryz.func121 rfl rfl, fun w' hx' => p_right2 o v ps pz pb s u _ w' (hs4.ext hx') (hz4.ext hx') (hb4.ext hx')⟩
  have r3 : Rule w4 (.func (.func 122) #[] #[ps, pb, pz]) (rule3 l s (decide (s.data.length = 1))) := ⟨122, _, rfl, enters_of Tryz.func122 rfl rfl, fun w' hx' => p_right3 o v ps pz pb l s u _ w' (hs4.ext hx') (hz4.ext hx') (hb4.ext hx') (hv4.ext hx')⟩
  have r4 : Rule w4 (.func (.func 124) #[] #[pz, ps]) (rule4 o l s) := ⟨124, _, rfl, enters_of Tryz.func124 rfl rfl, fun w' hx' => p_right4 o v ps pz l s u w' (hs4.ext hx') (hz4.ext hx') (hv4.ext hx')⟩
  refine wpl_slice (e := 27) (k := 1) (bytes := 8) (xs := [.func (.func 120) #[] #[ps, pz], .func (.func 121) #[] #[ps, pz, pb], .func (.func 122) #[] #[ps, pb, pz], .func (.func 124) #[] #[pz, ps]]) rfl rfl rfl (by simp [Value.cells]) (by decide +kernel) (by simp) ?_
  intro v5 w5 x5 _ sl5 _
  refine gset ?_
  have sl5 : Sl 1 w5 v5 (fcells [(.func (.func 120) #[] #[ps, pz], underN s.name o), (.func (.func 121) #[] #[ps, pz, pb], rule2 o s (decide (s.data.length = 1))), (.func (.func 122) #[] #[ps, pb, pz], rule3 l s (decide (s.data.length = 1))), (.func (.func 124) #[] #[pz, ps], rule4 o l s)]) := sl5
  repeat' (first | ((with_reducible refine o_s ?_); (first | (refine o_1 ?_; refine o_2 ?_) | (refine o_g ?_; first | refine o_u ?_ | refine o_k ?_ | refine o_n ?_ | refine o_v ?_ | ((first | refine o_G ?_ ?_ | refine o_N ?_ ?_) <;> intro hc)))) | ((fail_if_success (with_reducible refine o_s ?_)); go_step))
  refine wpl_callV (enters_of Tryz.func125 rfl rfl) rfl rfl (p_ContainsRule v5 _ _ sl5 (by
    intro x hx
    simp only [List.mem_cons, List.not_mem_nil, or_false] at hx
    rcases hx with rfl | rfl | rfl | rfl
    · exact r1.ext x5
    · exact r2.ext x5
    · exact r3.ext x5
    · exact r4.ext x5)) ?_; intro w6 x6; refine gset ?_
  repeat' (first | ((with_reducible refine o_s ?_); (first | (refine o_1 ?_; refine o_2 ?_) | (refine o_g ?_; first | refine o_u ?_ | refine o_k ?_ | refine o_n ?_ | refine o_v ?_ | ((first | refine o_G ?_ ?_ | refine o_N ?_ ?_) <;> intro hc)))) | ((fail_if_success (with_reducible refine o_s ?_)); go_step))
  go_ret
  refine ⟨?_, (hx4.trans x5).trans x6⟩
  congr 2
  have h4 : lastR o l s = rule4 o l s := by rw [lastR, rule4, cut_eq hck]
  simp only [rightR, h4, List.any_cons, List.any_nil, notB, rule2, rule3, Bool.or_false]
  cases underN s.name o <;> cases rule4 o l s <;> simp <;> by_cases a6 : s.kind = 6 <;> by_cases a5 : s.kind = 5 <;> by_cases an : s.name = o <;> by_cases a1 : s.data.length = 1 <;> cases l.any (clash s) <;> simp_all
def zeroS : RSet := ⟨[], 0, 0, []⟩
theorem find_one {w w' : World} {r : Value} {o : Option RSet} (h : match o with
    | some s => ∃ x, r = .tuple #[.agg #[str s.name, .int .i64 s.kind, .int .i64 s.ttl, x], .bool true] ∧ Own w.heap.size 1 9 w' x (tcells s.data)
    | none => r = .tuple #[.agg zset.toArray, .bool false]) : ∃ x, r = .tuple #[.agg #[str (o.getD zeroS).name, .int .i64 (o.getD zeroS).kind, .int .i64 (o.getD zeroS).ttl, x], .bool o.isSome] ∧ Sl 1 w' x (tcells (o.getD zeroS).data) := by
  cases o with
  | none => exact ⟨.slice none 0 0, h, Sl.nil _ _⟩
  | some s => obtain ⟨x, h1, h2⟩ := h; exact ⟨x, h1, h2.sl⟩
set_option maxHeartbeats 3000000 in
theorem p_Check1 (o : List UInt8) (v pz : Value) (l : List RSet) (s : RSet) (u : Value) (w : World) (hz : Pts w pz [str o, v]) (hv : SetsAt w v l) (hu : Sl 1 w u (tcells s.data)) (hck : checkS l = 0) : Calls Tryz.prog 87 #[.agg #[str s.name, .int .i64 s.kind, .int .i64 s.ttl, u], pz] w (RetV w (.bool (!rightR o l s))) := by
  go_enter Tryz.func87, Tryz.ntmps87
  repeat' ((fail_if_success (with_reducible refine o_s ?_)); go_step)
  refine wpl_box (vs := [str s.name, .int .i64 s.kind, .int .i64 s.ttl, u]) rfl rfl ?_
  intro ps w1 x1 hs
  refine gset ?_
  have hz1 := hz.ext x1
  repeat' (first | ((with_reducible refine o_s ?_); (first | (refine o_1 ?_; refine o_2 ?_) | (refine o_g ?_; first | refine o_u ?_ | refine o_k ?_ | refine o_n ?_ | refine o_v ?_ | ((first | refine o_G ?_ ?_ | refine o_N ?_ ?_) <;> intro hc)))) | ((fail_if_success (with_reducible refine o_s ?_)); go_step))
  refine wpl_callV (enters_of Tryz.func88 rfl rfl) rfl rfl (p_right o v l s u _ (hv.ext x1) (hu.ext x1) hck) ?_; intro w2 x2; refine gset ?_
  repeat' (first | ((with_reducible refine o_s ?_); (first | (refine o_1 ?_; refine o_2 ?_) | (refine o_g ?_; first | refine o_u ?_ | refine o_k ?_ | refine o_n ?_ | refine o_v ?_ | ((first | refine o_G ?_ ?_ | refine o_N ?_ ?_) <;> intro hc)))) | ((fail_if_success (with_reducible refine o_s ?_)); go_step))
  go_ret
  exact ⟨rfl, x1.trans x2⟩
set_option maxHeartbeats 6000000 in
theorem p_Check (o : List UInt8) (v : Value) (l : List RSet) (w : World) (hv : SetsAt w v l) (hb : ∀ s ∈ l, s.data.length ≤ 1000000) : Calls Tryz.prog 37 #[.agg #[str o, v]] w (RetV w (.int .i64 (zoneR o l))) := by
  obtain ⟨cv, hv1, hvl⟩ := hv.sl
  have hle := hv1.le
  have hb' : ∀ s ∈ l, s.data.length ≤ 8796093022208 := fun s hs => by have := hb s hs; omega
  go_enter Tryz.func37, Tryz.ntmps37
  repeat' ((fail_if_success (with_reducible refine o_s ?_)); go_step)
  refine wpl_box (vs := [str o, v]) rfl rfl ?_
  intro p w1 x1 hp
  refine gset ?_
  repeat' (first | ((with_reducible refine o_s ?_); (first | (refine o_1 ?_; refine o_2 ?_) | (refine o_g ?_; first | refine o_u ?_ | refine o_k ?_ | refine o_n ?_ | refine o_v ?_ | ((first | refine o_G ?_ ?_ | refine o_N ?_ ?_) <;> intro hc)))) | ((fail_if_success (with_reducible refine o_s ?_)); go_step))
  have c1 : ∀ w', Calls Tryz.prog 83 #[str o] w' (RetV w' (.int .i64 (checkE o))) := fun w' => t27 o w'
  have hv2 := hv.ext x1
  have c3 : ∀ w', Ext w1 w' → Calls Tryz.prog 85 #[v] w' (RetV w' (.int .i64 (checkS l))) := fun w' x' => t12 v l w' (hv2.ext x')
  refine wpq_region (by decide +kernel) (by decide +kernel) ?_
  repeat' (first | ((with_reducible refine q_s ?_); (first | (refine q_1 ?_; refine q_2 ?_) | (refine q_g ?_; first | refine q_u ?_ | refine q_k ?_ | refine q_v ?_))) | (with_reducible refine q_n ?_))
  refine wpq_call (enters_of Tryz.func83 rfl rfl) rfl rfl (fun w' _ => c1 w') ?_
  refine gset ?_
  repeat' (first | ((with_reducible refine q_s ?_); (first | (refine q_1 ?_; refine q_2 ?_) | (refine q_g ?_; first | refine q_u ?_ | refine q_k ?_ | refine q_v ?_))) | (with_reducible refine q_n ?_))
  by_cases q1 : checkE o = 0
  · rw [decide_eq_true q1]
    simp only [Bool.not_true]
    repeat' (first | ((with_reducible refine q_s ?_); (first | (refine q_1 ?_; refine q_2 ?_) | (refine q_g ?_; first | refine q_u ?_ | refine q_k ?_ | refine q_v ?_))) | (with_reducible refine q_n ?_))
    refine wpq_call (enters_of Tryz.func84 rfl rfl) rfl rfl (fun w' _ => t17 o w') ?_
    refine gset ?_
    repeat' (first | ((with_reducible refine q_s ?_); (first | (refine q_1 ?_; refine q_2 ?_) | (refine q_g ?_; first | refine q_u ?_ | refine q_k ?_ | refine q_v ?_))) | (with_reducible refine q_n ?_))
    by_cases q2 : fold o = o
    · rw [decide_eq_true q2]
      simp only [Bool.not_true]
      repeat' (first | ((with_reducible refine q_s ?_); (first | (refine q_1 ?_; refine q_2 ?_) | (refine q_g ?_; first | refine q_u ?_ | refine q_k ?_ | refine q_v ?_))) | (with_reducible refine q_n ?_))
      refine wpq_call (enters_of Tryz.func85 rfl rfl) rfl rfl (fun w' x' => c3 w' x') ?_
      refine gset ?_
      repeat' (first | ((with_reducible refine q_s ?_); (first | (refine q_1 ?_; refine q_2 ?_) | (refine q_g ?_; first | refine q_u ?_ | refine q_k ?_ | refine q_v ?_))) | (with_reducible refine q_n ?_))
      intro w2 x2
      by_cases q3 : checkS l = 0
      · rw [decide_eq_true q3]
        simp only [Bool.not_true]
        have hx2 := x1.trans x2
        have hp2 := hp.ext x2
        have hs2 := hv.ext hx2
        repeat' (first | ((with_reducible refine o_s ?_); (first | (refine o_1 ?_; refine o_2 ?_) | (refine o_g ?_; first | refine o_u ?_ | refine o_k ?_ | refine o_n ?_ | refine o_v ?_ | ((first | refine o_G ?_ ?_ | refine o_N ?_ ?_) <;> intro hc)))) | ((fail_if_success (with_reducible refine o_s ?_)); go_step))
        refine wpl_callR (enters_of Tryz.func40 rfl rfl) rfl rfl (t13 v l o 6 _ hs2 hb') ?_
        intro r3 w3 x3 hr3
        obtain ⟨y3, rfl, hy3⟩ := find_one hr3
        clear hr3
        repeat' (first | ((with_reducible refine o_s ?_); (first | (refine o_1 ?_; refine o_2 ?_) | (refine o_g ?_; first | refine o_u ?_ | refine o_k ?_ | refine o_n ?_ | refine o_v ?_ | ((first | refine o_G ?_ ?_ | refine o_N ?_ ?_) <;> intro hc)))) | ((fail_if_success (with_reducible refine o_s ?_)); go_step))
        refine wpl_allocB (z := zset) rfl (by decide +kernel) ?_
        intro w4 x4 s4 h4
        refine gset ?_
        refine wpl_storeB rfl rfl rfl h4 (show sizeTy Tryz.prog 55 4 = true by decide +kernel) rfl (all4 rfl rfl rfl (hy3.one)) ?_
        intro w5 p5
        have x5 : Ext w3 w5 := x4.move p5.mv (by rintro k ⟨⟩; exact Nat.le_refl _)
        have hx5 := hx2.trans (x3.trans x5)
        have hp5 := hp.ext (x2.trans (x3.trans x5))
        have hs5 := hv.ext hx5
        clear p5 h4 x4
        repeat' (first | ((with_reducible refine o_s ?_); (first | (refine o_1 ?_; refine o_2 ?_) | (refine o_g ?_; first | refine o_u ?_ | refine o_k ?_ | refine o_n ?_ | refine o_v ?_ | ((first | refine o_G ?_ ?_ | refine o_N ?_ ?_) <;> intro hc)))) | ((fail_if_success (with_reducible refine o_s ?_)); go_step))
        refine wpl_callR (enters_of Tryz.func40 rfl rfl) rfl rfl (t13 v l o 2 _ hs5 hb') ?_
        intro r6 w6 x6 hr6
        obtain ⟨y6, rfl, hy6⟩ := find_one hr6
        clear hr6
        repeat' (first | ((with_reducible refine o_s ?_); (first | (refine o_1 ?_; refine o_2 ?_) | (refine o_g ?_; first | refine o_u ?_ | refine o_k ?_ | refine o_n ?_ | refine o_v ?_ | ((first | refine o_G ?_ ?_ | refine o_N ?_ ?_) <;> intro hc)))) | ((fail_if_success (with_reducible refine o_s ?_)); go_step))
        refine wpl_allocB (z := zset) rfl (by decide +kernel) ?_
        intro w7 x7 s7 h7
        refine gset ?_
        refine wpl_storeB rfl rfl rfl h7 (show sizeTy Tryz.prog 55 4 = true by decide +kernel) rfl (all4 rfl rfl rfl (hy6.one)) ?_
        intro w8 p8
        have x8 : Ext w6 w8 := x7.move p8.mv (by rintro k ⟨⟩; exact Nat.le_refl _)
        have hx8 := hx5.trans (x6.trans x8)
        have hp8 := hp5.ext (x6.trans x8)
        have hs8 := hv.ext hx8
        clear p8 h7 x7
        cases f6 : (findS l o 6).isSome with
        | false =>
          repeat' (first | ((with_reducible refine o_s ?_); (first | (refine o_1 ?_; refine o_2 ?_) | (refine o_g ?_; first | refine o_u ?_ | refine o_k ?_ | refine o_n ?_ | refine o_v ?_ | ((first | refine o_G ?_ ?_ | refine o_N ?_ ?_) <;> intro hc)))) | ((fail_if_success (with_reducible refine o_s ?_)); go_step))
          go_ret
          exact ⟨by rw [show zoneR o l = 2 by simp [zoneR, q1, q2, q3, f6]]; rfl, hx8⟩
        | true =>
          cases f2 : (findS l o 2).isSome with
          | false =>
            repeat' (first | ((with_reducible refine o_s ?_); (first | (refine o_1 ?_; refine o_2 ?_) | (refine o_g ?_; first | refine o_u ?_ | refine o_k ?_ | refine o_n ?_ | refine o_v ?_ | ((first | refine o_G ?_ ?_ | refine o_N ?_ ?_) <;> intro hc)))) | ((fail_if_success (with_reducible refine o_s ?_)); go_step))
            go_ret
            exact ⟨by rw [show zoneR o l = 2 by simp [zoneR, q1, q2, q3, f6, f2]]; rfl, hx8⟩
          | true =>
            repeat' (first | ((with_reducible refine o_s ?_); (first | (refine o_1 ?_; refine o_2 ?_) | (refine o_g ?_; first | refine o_u ?_ | refine o_k ?_ | refine o_n ?_ | refine o_v ?_ | ((first | refine o_G ?_ ?_ | refine o_N ?_ ?_) <;> intro hc)))) | ((fail_if_success (with_reducible refine o_s ?_)); go_step))
            have hf : SetFn w8 87 #[p] l (fun s => !rightR o l s) := fun s _ x w' hx' hd' => p_Check1 o v p l s x w' (hp8.ext hx') (hs8.ext hx') hd' q3
            refine wpl_callV (enters_of Tryz.func86 rfl rfl) rfl rfl (p_ContainsFunc v l 87 #[p] (fun s => !rightR o l s) _ hs8 (enters_of Tryz.func87 rfl rfl) hf) ?_; intro w9 x9; refine gset ?_
            cases ha : l.any (fun s => !rightR o l s) with
            | true =>
              repeat' (first | ((with_reducible refine o_s ?_); (first | (refine o_1 ?_; refine o_2 ?_) | (refine o_g ?_; first | refine o_u ?_ | refine o_k ?_ | refine o_n ?_ | refine o_v ?_ | ((first | refine o_G ?_ ?_ | refine o_N ?_ ?_) <;> intro hc)))) | ((fail_if_success (with_reducible refine o_s ?_)); go_step))
              go_ret
              exact ⟨by rw [show zoneR o l = 2 by simp only [zoneR, q1, q2, q3, f6, f2, ha]; simp]; rfl, hx8.trans x9⟩
            | false =>
              repeat' (first | ((with_reducible refine o_s ?_); (first | (refine o_1 ?_; refine o_2 ?_) | (refine o_g ?_; first | refine o_u ?_ | refine o_k ?_ | refine o_n ?_ | refine o_v ?_ | ((first | refine o_G ?_ ?_ | refine o_N ?_ ?_) <;> intro hc)))) | ((fail_if_success (with_reducible refine o_s ?_)); go_step))
              go_ret
              exact ⟨by rw [show zoneR o l = 0 by simp only [zoneR, q1, q2, q3, f6, f2, ha]; simp]; rfl, hx8.trans x9⟩
      · rw [decide_eq_false q3]
        simp only [Bool.not_false]
        repeat' (first | ((with_reducible refine o_s ?_); (first | (refine o_1 ?_; refine o_2 ?_) | (refine o_g ?_; first | refine o_u ?_ | refine o_k ?_ | refine o_n ?_ | refine o_v ?_ | ((first | refine o_G ?_ ?_ | refine o_N ?_ ?_) <;> intro hc)))) | ((fail_if_success (with_reducible refine o_s ?_)); go_step))
        go_ret
        exact ⟨by rw [show zoneR o l = 1 by simp [zoneR, q3]]; rfl, x1.trans x2⟩
    · rw [decide_eq_false q2]
      simp only [Bool.not_false]
      repeat' (first | ((with_reducible refine q_s ?_); (first | (refine q_1 ?_; refine q_2 ?_) | (refine q_g ?_; first | refine q_u ?_ | refine q_k ?_ | refine q_v ?_))) | (with_reducible refine q_n ?_))
      intro w2 x2
      repeat' (first | ((with_reducible refine o_s ?_); (first | (refine o_1 ?_; refine o_2 ?_) | (refine o_g ?_; first | refine o_u ?_ | refine o_k ?_ | refine o_n ?_ | refine o_v ?_ | ((first | refine o_G ?_ ?_ | refine o_N ?_ ?_) <;> intro hc)))) | ((fail_if_success (with_reducible refine o_s ?_)); go_step))
      go_ret
      exact ⟨by rw [show zoneR o l = 1 by simp [zoneR, q2]]; rfl, x1.trans x2⟩
  · rw [decide_eq_false q1]
    simp only [Bool.not_false]
    repeat' (first | ((with_reducible refine q_s ?_); (first | (refine q_1 ?_; refine q_2 ?_) | (refine q_g ?_; first | refine q_u ?_ | refine q_k ?_ | refine q_v ?_))) | (with_reducible refine q_n ?_))
    intro w2 x2
    repeat' (first | ((with_reducible refine o_s ?_); (first | (refine o_1 ?_; refine o_2 ?_) | (refine o_g ?_; first | refine o_u ?_ | refine o_k ?_ | refine o_n ?_ | refine o_v ?_ | ((first | refine o_G ?_ ?_ | refine o_N ?_ ?_) <;> intro hc)))) | ((fail_if_success (with_reducible refine o_s ?_)); go_step))
    go_ret
    exact ⟨by rw [show zoneR o l = 1 by simp [zoneR, q1]]; rfl, x1.trans x2⟩
theorem may_at {s : RSet} (h : mayS s = true) {i : Nat} (hi : i < s.data.length) : checkR ⟨s.name, s.kind, s.ttl, s.data[i]⟩ = 0 := by
  simp only [mayS, Bool.and_eq_true, List.all_eq_true] at h
  have := h.2 i (by simpa using hi)
  simp only [badAt, Bool.not_eq_true', Bool.or_eq_false_iff, decide_eq_false_iff_not, ne_eq, Decidable.not_not] at this
  have e : s.data.getD i [] = s.data[i] := by simp [hi]
  rw [e] at this
  exact this.1
theorem checkR_data {r : Rec} (h : checkR r = 0) : r.data.length ≤ 4000 ∧ fits r.kind r.data = true := by
  unfold checkR at h
  split at h
  · omega
  · split at h
    · omega
    · rename_i h2
      simp only [not_or, Bool.not_eq_false] at h2
      exact ⟨by omega, h2.2.2.2.2.2⟩
def zR : SoaR := ⟨[], [], 0, 0, 0, 0, 0⟩
theorem zR_cells : zR.cells = zeroSoa := rfl
def soaD (o : List UInt8) (l : List RSet) : List UInt8 := ((findS l o 6).getD zeroS).data.getD 0 []
def soaZ (o : List UInt8) (l : List RSet) : SoaR := if zoneR o l = 0 then soaOf (soaD o l) else zR
theorem parse_some {d : List UInt8} (h : (parseSoa d).isSome = true) : parseSoa d = some (soaOf d) := by
  unfold parseSoa at *
  simp only at *
  split at h
  · rename_i h1; rw [if_pos h1]
  · cases h
theorem ZoneOk.soaSet {o : List UInt8} {l : List RSet} (h : ZoneOk o l) : ∃ s, findS l o 6 = some s ∧ s ∈ l ∧ s.name = o ∧ s.kind = 6 ∧ s.data = [soaD o l] ∧ parseSoa (soaD o l) = some (soaOf (soaD o l)) ∧ (soaD o l).length ≤ 4000 := by
  obtain ⟨s, hs⟩ := Option.isSome_iff_exists.1 h.soa
  obtain ⟨h1, h2, h3⟩ := findS_mem hs
  have hr := h.right s h1
  have hm := h.may h1
  have hl : s.data.length = 1 := by
    simp only [rightR, Bool.and_eq_true, Bool.not_eq_true', h3] at hr
    have := hr.1.1.2
    simp only [decide_true, Bool.true_and, Bool.or_eq_false_iff, decide_eq_false_iff_not, ne_eq, Decidable.not_not] at this
    exact this.2
  have hd : s.data = [soaD o l] := by
    have e : soaD o l = s.data.getD 0 [] := by rw [soaD, hs]; rfl
    rw [e]
    match s.data, hl with
    | [d], _ => rfl
  have hc := may_at hm (i := 0) (by omega)
  obtain ⟨c1, c2⟩ := checkR_data hc
  have e0 : s.data[0]'(by omega) = soaD o l := by simp [hd]
  simp only [e0, h3] at c1 c2
  refine ⟨s, hs, h1, by rw [h2, h.fold], h3, hd, parse_some ?_, c1⟩
  simpa [fits] using c2
theorem soaR_one (s : SoaR) : (Value.agg s.cells.toArray).cells.all (·.oneCell') = true := by
  simp [SoaR.cells, Value.cells, Value.oneCell', str]
set_option maxHeartbeats 3000000 in
theorem p_Soa (o : List UInt8) (v : Value) (l : List RSet) (w : World) (hv : SetsAt w v l) (hb : ∀ s ∈ l, s.data.length ≤ 1000000) (hd : ∀ s ∈ l, ∀ d ∈ s.data, d.length ≤ 4611686018427387904) : Calls Tryz.prog 63 #[.agg #[str o, v]] w (RetV w (.tuple #[.agg (soaZ o l).cells.toArray, .int .i64 (zoneR o l)])) := by
  go_enter Tryz.func63, Tryz.ntmps63
  repeat' ((fail_if_success (with_reducible refine o_s ?_)); go_step)
  refine wpl_box (vs := [str o, v]) rfl rfl ?_
  intro p w1 x1 hp
  refine gset ?_
  refine wpl_allocB (z := zeroSoa) rfl (by decide +kernel) ?_
  intro w2 x2 s2 h2
  refine gset ?_
  have hx2 := x1.trans x2
  have hp2 := hp.ext x2
  have hv2 := hv.ext hx2
  repeat' (first | ((with_reducible refine o_s ?_); (first | (refine o_1 ?_; refine o_2 ?_) | (refine o_g ?_; first | refine o_u ?_ | refine o_k ?_ | refine o_n ?_ | refine o_v ?_ | ((first | refine o_G ?_ ?_ | refine o_N ?_ ?_) <;> intro hc)))) | ((fail_if_success (with_reducible refine o_s ?_)); go_step))
  refine wpl_callV (enters_of Tryz.func37 rfl rfl) rfl rfl (p_Check o v l _ hv2 hb) ?_; intro w3 x3; refine gset ?_
  have hx3 := hx2.trans x3
  have hp3 := hp2.ext x3
  have hv3 := hv2.ext x3
  have h3 := x3.at h2
  repeat' (first | ((with_reducible refine o_s ?_); (first | (refine o_1 ?_; refine o_2 ?_) | (refine o_g ?_; first | refine o_u ?_ | refine o_k ?_ | refine o_n ?_ | refine o_v ?_ | ((first | refine o_G ?_ ?_ | refine o_N ?_ ?_) <;> intro hc)))) | ((fail_if_success (with_reducible refine o_s ?_)); go_step))
  · have q : ¬ zoneR o l = 0 := by simpa using (by assumption : (!decide (zoneR o l = 0)) = true)
    refine wpl_run (v := .agg zeroSoa.toArray) rfl (Runs.build0 (by kernel_rfl)) ?_
    refine gset ?_
    repeat' (first | ((with_reducible refine o_s ?_); (first | (refine o_1 ?_; refine o_2 ?_) | (refine o_g ?_; first | refine o_u ?_ | refine o_k ?_ | refine o_n ?_ | refine o_v ?_ | ((first | refine o_G ?_ ?_ | refine o_N ?_ ?_) <;> intro hc)))) | ((fail_if_success (with_reducible refine o_s ?_)); go_step))
    refine wpl_storeB (v := .agg zeroSoa.toArray) rfl rfl rfl h3 (by decide +kernel) rfl (by decide +kernel) ?_
    intro w4 p4
    have x4 : Ext w w4 := hx3.move p4.mv (by rintro k ⟨⟩; exact x1.size)
    repeat' (first | ((with_reducible refine o_s ?_); (first | (refine o_1 ?_; refine o_2 ?_) | (refine o_g ?_; first | refine o_u ?_ | refine o_k ?_ | refine o_n ?_ | refine o_v ?_ | ((first | refine o_G ?_ ?_ | refine o_N ?_ ?_) <;> intro hc)))) | ((fail_if_success (with_reducible refine o_s ?_)); go_step))
    refine bodyPost_ret (results_cellT (cs := zeroSoa) rfl rfl p4.this (by decide +kernel)) rfl ⟨?_, x4⟩
    rw [show soaZ o l = zR by rw [soaZ, if_neg q], zR_cells]
    rfl
  · have q : zoneR o l = 0 := by simpa using (by assumption : (!decide (zoneR o l = 0)) = false)
    obtain ⟨s, hf, hs, hn, hk, hdat, hpar, hlen⟩ := (zone_ok q).soaSet
    have hZ : soaZ o l = soaOf (soaD o l) := by rw [soaZ, if_pos q]
    have hP : ∀ w', Calls Tryz.prog 106 #[str (soaD o l)] w' (RetV w' (.tuple #[.agg (soaOf (soaD o l)).cells.toArray, .int .i64 0])) := fun w' => by
      have := t38 (soaD o l) w' (by omega)
      rw [hpar] at this
      exact this
    clear hpar
    generalize soaD o l = dd at *
    generalize hgen : soaOf dd = ss at *
    refine wpl_callR (enters_of Tryz.func40 rfl rfl) rfl rfl (t13 v l o 6 _ hv3 (fun s hs => by have := hb s hs; omega)) ?_
    intro r4 w4 x4 hr4
    rw [hf] at hr4
    obtain ⟨y, rfl, oy⟩ := hr4
    have hx4 := hx3.trans x4
    repeat' (first | ((with_reducible refine o_s ?_); (first | (refine o_1 ?_; refine o_2 ?_) | (refine o_g ?_; first | refine o_u ?_ | refine o_k ?_ | refine o_n ?_ | refine o_v ?_ | ((first | refine o_G ?_ ?_ | refine o_N ?_ ?_) <;> intro hc)))) | ((fail_if_success (with_reducible refine o_s ?_)); go_step))
    refine wpl_allocB (z := zset) rfl (by decide +kernel) ?_
    intro w5 x5 s5 h5
    refine gset ?_
    refine wpl_storeB (v := .agg #[str s.name, .int .i64 s.kind, .int .i64 s.ttl, y]) rfl rfl rfl h5 (show sizeTy Tryz.prog 55 4 = true by decide +kernel) rfl (all4 rfl rfl rfl oy.one) ?_
    intro w6 p6
    have x6 : Ext w4 w6 := x5.move p6.mv (by rintro k ⟨⟩; exact Nat.le_refl _)
    have hp6 := pts_block (cs := [str s.name, .int .i64 s.kind, .int .i64 s.ttl, y]) p6.this
    have hy6 := oy.sl.ext x6
    rw [hdat] at hy6
    have hx6 := hx4.trans x6
    have h6 := (x4.trans x6).at h3
    have hy0 := hy6.elem (i := 0) (e := [str dd]) rfl
    clear p6 h5 x5
    have hl1 : (tcells [dd]).length = 1 := rfl
    repeat' (first | ((with_reducible refine o_s ?_); (first | (refine o_1 ?_; refine o_2 ?_) | (refine o_g ?_; first | refine o_u ?_ | refine o_k ?_ | refine o_n ?_ | refine o_v ?_ | ((first | refine o_G ?_ ?_ | refine o_N ?_ ?_) <;> intro hc)))) | ((fail_if_success (with_reducible refine o_s ?_)); go_step))
    refine wpl_callV (enters_of Tryz.func106 rfl rfl) rfl rfl (hP _) ?_; intro w7 x7; refine gset ?_
    have h7 := x7.at h6
    repeat' (first | ((with_reducible refine o_s ?_); (first | (refine o_1 ?_; refine o_2 ?_) | (refine o_g ?_; first | refine o_u ?_ | refine o_k ?_ | refine o_n ?_ | refine o_v ?_ | ((first | refine o_G ?_ ?_ | refine o_N ?_ ?_) <;> intro hc)))) | ((fail_if_success (with_reducible refine o_s ?_)); go_step))
    refine wpl_storeB (v := .agg ss.cells.toArray) rfl rfl rfl h7 (show sizeTy Tryz.prog 103 7 = true by decide +kernel) rfl (soaR_one _) ?_
    intro w8 p8
    have x8 : Ext w w8 := (hx6.trans x7).move p8.mv (by rintro k ⟨⟩; exact x1.size)
    repeat' (first | ((with_reducible refine o_s ?_); (first | (refine o_1 ?_; refine o_2 ?_) | (refine o_g ?_; first | refine o_u ?_ | refine o_k ?_ | refine o_n ?_ | refine o_v ?_ | ((first | refine o_G ?_ ?_ | refine o_N ?_ ?_) <;> intro hc)))) | ((fail_if_success (with_reducible refine o_s ?_)); go_step))
    refine bodyPost_ret (results_cellT (cs := ss.cells) rfl rfl p8.this (show aggTy Tryz.prog 103 7 = true by decide +kernel)) rfl ⟨?_, x8⟩
    rw [hZ, q]
    rfl
set_option maxHeartbeats 3000000 in
theorem r8_Soa (o : List UInt8) (v : Value) (l : List RSet) (w : World) (hv : SetsAt w v l) (hb : ∀ s ∈ l, s.data.length ≤ 1000000) (hd : ∀ s ∈ l, ∀ d ∈ s.data, d.length ≤ 4611686018427387904) : Calls Tryz.prog 68 #[.agg #[str o, v]] w (RetV w (.tuple #[.agg (soaZ o l).cells.toArray, .int .i64 (zoneR o l)])) := by
  go_enter Tryz.func68, Tryz.ntmps68
  repeat' ((fail_if_success (with_reducible refine o_s ?_)); go_step)
  refine wpl_box (vs := [str o, v]) rfl rfl ?_
  intro p w1 x1 hp
  refine gset ?_
  refine wpl_allocB (z := zeroSoa) rfl (by decide +kernel) ?_
  intro w2 x2 s2 h2
  refine gset ?_
  have hx2 := x1.trans x2
  have hp2 := hp.ext x2
  have hv2 := hv.ext hx2
  repeat' (first | ((with_reducible refine o_s ?_); (first | (refine o_1 ?_; refine o_2 ?_) | (refine o_g ?_; first | refine o_u ?_ | refine o_k ?_ | refine o_n ?_ | refine o_v ?_ | ((first | refine o_G ?_ ?_ | refine o_N ?_ ?_) <;> intro hc)))) | ((fail_if_success (with_reducible refine o_s ?_)); go_step))
  refine wpl_callV (enters_of Tryz.func101 rfl rfl) rfl rfl (r8_Check o v l _ hv2 hb hd) ?_; intro w3 x3; refine gset ?_
  have hx3 := hx2.trans x3
  have hp3 := hp2.ext x3
  have hv3 := hv2.ext x3
  have h3 := x3.at h2
  repeat' (first | ((with_reducible refine o_s ?_); (first | (refine o_1 ?_; refine o_2 ?_) | (refine o_g ?_; first | refine o_u ?_ | refine o_k ?_ | refine o_n ?_ | refine o_v ?_ | ((first | refine o_G ?_ ?_ | refine o_N ?_ ?_) <;> intro hc)))) | ((fail_if_success (with_reducible refine o_s ?_)); go_step))
  · have q : ¬ zoneR o l = 0 := by simpa using (by assumption : (!decide (zoneR o l = 0)) = true)
    refine wpl_run (v := .agg zeroSoa.toArray) rfl (Runs.build0 (by kernel_rfl)) ?_
    refine gset ?_
    repeat' (first | ((with_reducible refine o_s ?_); (first | (refine o_1 ?_; refine o_2 ?_) | (refine o_g ?_; first | refine o_u ?_ | refine o_k ?_ | refine o_n ?_ | refine o_v ?_ | ((first | refine o_G ?_ ?_ | refine o_N ?_ ?_) <;> intro hc)))) | ((fail_if_success (with_reducible refine o_s ?_)); go_step))
    refine wpl_storeB (v := .agg zeroSoa.toArray) rfl rfl rfl h3 (by decide +kernel) rfl (by decide +kernel) ?_
    intro w4 p4
    have x4 : Ext w w4 := hx3.move p4.mv (by rintro k ⟨⟩; exact x1.size)
    repeat' (first | ((with_reducible refine o_s ?_); (first | (refine o_1 ?_; refine o_2 ?_) | (refine o_g ?_; first | refine o_u ?_ | refine o_k ?_ | refine o_n ?_ | refine o_v ?_ | ((first | refine o_G ?_ ?_ | refine o_N ?_ ?_) <;> intro hc)))) | ((fail_if_success (with_reducible refine o_s ?_)); go_step))
    refine bodyPost_ret (results_cellT (cs := zeroSoa) rfl rfl p4.this (by decide +kernel)) rfl ⟨?_, x4⟩
    rw [show soaZ o l = zR by rw [soaZ, if_neg q], zR_cells]
    rfl
  · have q : zoneR o l = 0 := by simpa using (by assumption : (!decide (zoneR o l = 0)) = false)
    obtain ⟨s, hf, hs, hn, hk, hdat, hpar, hlen⟩ := (zone_ok q).soaSet
    have hZ : soaZ o l = soaOf (soaD o l) := by rw [soaZ, if_pos q]
    have hP : ∀ w', Calls Tryz.prog 110 #[str (soaD o l)] w' (RetV w' (.tuple #[.agg (soaOf (soaD o l)).cells.toArray, .int .i64 0])) := fun w' => by
      have := r3_ParseSoa (soaD o l) w' (by omega)
      rw [hpar] at this
      exact this
    clear hpar
    generalize soaD o l = dd at *
    generalize hgen : soaOf dd = ss at *
    refine wpl_callR (enters_of Tryz.func48 rfl rfl) rfl rfl (r7_Find v l o 6 _ hv3 hb) ?_
    intro r4 w4 x4 hr4
    rw [hf] at hr4
    obtain ⟨y, rfl, oy⟩ := hr4
    have hx4 := hx3.trans x4
    repeat' (first | ((with_reducible refine o_s ?_); (first | (refine o_1 ?_; refine o_2 ?_) | (refine o_g ?_; first | refine o_u ?_ | refine o_k ?_ | refine o_n ?_ | refine o_v ?_ | ((first | refine o_G ?_ ?_ | refine o_N ?_ ?_) <;> intro hc)))) | ((fail_if_success (with_reducible refine o_s ?_)); go_step))
    refine wpl_allocB (z := zset) rfl (by decide +kernel) ?_
    intro w5 x5 s5 h5
    refine gset ?_
    refine wpl_storeB (v := .agg #[str s.name, .int .i64 s.kind, .int .i64 s.ttl, y]) rfl rfl rfl h5 (show sizeTy Tryz.prog 55 4 = true by decide +kernel) rfl (all4 rfl rfl rfl oy.one) ?_
    intro w6 p6
    have x6 : Ext w4 w6 := x5.move p6.mv (by rintro k ⟨⟩; exact Nat.le_refl _)
    have hp6 := pts_block (cs := [str s.name, .int .i64 s.kind, .int .i64 s.ttl, y]) p6.this
    have hy6 := oy.sl.ext x6
    rw [hdat] at hy6
    have hx6 := hx4.trans x6
    have h6 := (x4.trans x6).at h3
    have hy0 := hy6.elem (i := 0) (e := [str dd]) rfl
    clear p6 h5 x5
    have hl1 : (tcells [dd]).length = 1 := rfl
    repeat' (first | ((with_reducible refine o_s ?_); (first | (refine o_1 ?_; refine o_2 ?_) | (refine o_g ?_; first | refine o_u ?_ | refine o_k ?_ | refine o_n ?_ | refine o_v ?_ | ((first | refine o_G ?_ ?_ | refine o_N ?_ ?_) <;> intro hc)))) | ((fail_if_success (with_reducible refine o_s ?_)); go_step))
    refine wpl_callV (enters_of Tryz.func110 rfl rfl) rfl rfl (hP _) ?_; intro w7 x7; refine gset ?_
    have h7 := x7.at h6
    repeat' (first | ((with_reducible refine o_s ?_); (first | (refine o_1 ?_; refine o_2 ?_) | (refine o_g ?_; first | refine o_u ?_ | refine o_k ?_ | refine o_n ?_ | refine o_v ?_ | ((first | refine o_G ?_ ?_ | refine o_N ?_ ?_) <;> intro hc)))) | ((fail_if_success (with_reducible refine o_s ?_)); go_step))
    refine wpl_storeB (v := .agg ss.cells.toArray) rfl rfl rfl h7 (show sizeTy Tryz.prog 103 7 = true by decide +kernel) rfl (soaR_one _) ?_
    intro w8 p8
    have x8 : Ext w w8 := (hx6.trans x7).move p8.mv (by rintro k ⟨⟩; exact x1.size)
    repeat' (first | ((with_reducible refine o_s ?_); (first | (refine o_1 ?_; refine o_2 ?_) | (refine o_g ?_; first | refine o_u ?_ | refine o_k ?_ | refine o_n ?_ | refine o_v ?_ | ((first | refine o_G ?_ ?_ | refine o_N ?_ ?_) <;> intro hc)))) | ((fail_if_success (with_reducible refine o_s ?_)); go_step))
    refine bodyPost_ret (results_cellT (cs := ss.cells) rfl rfl p8.this (show aggTy Tryz.prog 103 7 = true by decide +kernel)) rfl ⟨?_, x8⟩
    rw [hZ, q]
    rfl
def textS (s : List UInt8) : List (List UInt8) → List (List UInt8)
  | [] => [s]
  | x :: l => if Op.bytesLess x s = true then x :: textS s l else if x = s then x :: l else s :: x :: l
theorem textS_take {s : List UInt8} : ∀ {l : List (List UInt8)} {k : Nat}, (∀ x ∈ l.take k, Op.bytesLess x s = true) → textS s l = l.take k ++ textS s (l.drop k)
  | l, 0, _ => by simp
  | [], k + 1, _ => by simp
  | x :: l, k + 1, h => by
    have h1 := h x (by simp)
    simp only [List.take_succ_cons, List.drop_succ_cons, List.cons_append]
    rw [textS, if_pos h1, textS_take (k := k) (fun y hy => h y (by simp [hy]))]
theorem textS_len (s : List UInt8) : ∀ l : List (List UInt8), (textS s l).length ≤ l.length + 1
  | [] => by simp [textS]
  | x :: l => by
    rw [textS]
    split
    · have := textS_len s l; simp; omega
    · split <;> simp
def recSet (r : Rec) : RSet := ⟨fold r.name, r.kind, r.ttl, [r.data]⟩
def putS (r : Rec) : List RSet → List RSet
  | [] => [recSet r]
  | g :: gs => if aheadS g (recSet r) = true then g :: putS r gs else if aheadS (recSet r) g = true then recSet r :: g :: gs else ⟨fold r.name, r.kind, min r.ttl g.ttl, textS r.data g.data⟩ :: gs
theorem putS_take {r : Rec} : ∀ {l : List RSet} {k : Nat}, (∀ g ∈ l.take k, aheadS g (recSet r) = true) → putS r l = l.take k ++ putS r (l.drop k)
  | l, 0, _ => by simp
  | [], k + 1, _ => by simp
  | x :: l, k + 1, h => by
    have h1 := h x (by simp)
    simp only [List.take_succ_cons, List.drop_succ_cons, List.cons_append]
    rw [putS, if_pos h1, putS_take (k := k) (fun y hy => h y (by simp [hy]))]
def putAll (l : List Rec) : List RSet := l.foldl (fun gs r => putS r gs) []
theorem putAll_succ {l : List Rec} {k : Nat} (h : k < l.length) : putAll (l.take (k + 1)) = putS l[k] (putAll (l.take k)) := by
  rw [putAll, List.take_add_one, List.getElem?_eq_getElem h, Option.toList_some, List.foldl_append]
  rfl
theorem putS_len (r : Rec) : ∀ gs : List RSet, (putS r gs).length ≤ gs.length + 1
  | [] => by simp [putS]
  | g :: gs => by
    have := putS_len r gs
    rw [putS]
    split
    · simp; omega
    · split <;> simp
theorem putS_data (r : Rec) (n : Nat) : ∀ gs : List RSet, (∀ s ∈ gs, s.data.length ≤ n) → ∀ s ∈ putS r gs, s.data.length ≤ n + 1
  | [], _, s, h => by
    have : s = recSet r := by simpa [putS] using h
    subst this; simp [recSet]
  | g :: gs, hn, s, h => by
    have hg := hn g (by simp)
    have hn' : ∀ s ∈ gs, s.data.length ≤ n := fun s hs => hn s (by simp [hs])
    rw [putS] at h
    split at h
    · rcases List.mem_cons.1 h with rfl | h
      · omega
      · exact putS_data r n gs hn' s h
    · split at h
      · rcases List.mem_cons.1 h with rfl | h
        · simp [recSet]
        · have := hn s h; omega
      · rcases List.mem_cons.1 h with rfl | h
        · have := textS_len r.data g.data
          show (textS r.data g.data).length ≤ n + 1
          omega
        · have := hn' s h; omega
theorem putAll_bounds (l : List Rec) : ∀ k, k ≤ l.length → (putAll (l.take k)).length ≤ k ∧ ∀ s ∈ putAll (l.take k), s.data.length ≤ k
  | 0, _ => by simp [putAll]
  | k + 1, h => by
    obtain ⟨h1, h2⟩ := putAll_bounds l k (by omega)
    rw [putAll_succ (show k < l.length by omega)]
    have := putS_len (l[k]'(by omega)) (putAll (l.take k))
    exact ⟨by omega, putS_data _ k _ h2⟩
def refE (l : List Rec) : Int := if l.all okR = false then 1 else if 200 < (putAll l).length then 4 else if (putAll l).any big = true then 4 else 0
def RefR (B : Nat) (l : List Rec) (r : Value) (w' : World) : Prop := if refE l = 0 then ∃ v, r = .tuple #[v, .int .i64 0] ∧ SetsO B w' v (putAll l) else r = .tuple #[.slice none 0 0, .int .i64 (refE l)]
theorem mem_addTo : ∀ {gs : List RSet} {r : Rec} {s : RSet}, Apart gs → s ∈ addTo gs r → (s ∈ gs ∧ match1 s r = false) ∨ (∃ t ∈ gs, match1 t r = true ∧ s = bump t r) ∨ ((∀ t ∈ gs, match1 t r = false) ∧ s = ⟨fold r.name, r.kind, r.ttl, [r.data]⟩)
  | [], r, s, _, h => by
    right; right
    exact ⟨by simp, by simpa [addTo] using h⟩
  | a :: l, r, s, hd, h => by
    obtain ⟨p1, p2⟩ := List.pairwise_cons.1 (apart_pw.1 hd)
    by_cases hm : match1 a r = true
    · simp only [addTo, hm, if_true, List.mem_cons] at h
      rcases h with h | h
      · exact .inr (.inl ⟨a, by simp, hm, h⟩)
      · refine .inl ⟨by simp [h], ?_⟩
        cases hs : match1 s r with
        | false => rfl
        | true =>
          exfalso
          simp only [match1, Bool.and_eq_true, decide_eq_true_eq] at hs hm
          exact p1 s h ⟨by rw [hm.1, hs.1], by rw [hm.2, hs.2]⟩
    · have hm' : match1 a r = false := by simpa using hm
      simp only [addTo, hm', Bool.false_eq_true, if_false, List.mem_cons] at h
      rcases h with rfl | h
      · exact .inl ⟨by simp, hm'⟩
      · rcases mem_addTo (apart_pw.2 p2) h with ⟨h1, h2⟩ | ⟨t, h1, h2, h3⟩ | ⟨h1, h2⟩
        · exact .inl ⟨by simp [h1], h2⟩
        · exact .inr (.inl ⟨t, by simp [h1], h2, h3⟩)
        · refine .inr (.inr ⟨?_, h2⟩)
          intro t ht
          rcases List.mem_cons.1 ht with rfl | ht
          · exact hm'
          · exact h1 t ht
structure Ch (L : List Rec) (s : RSet) : Prop where
  dat : ∀ d, d ∈ s.data ↔ ∃ r ∈ L, match1 s r = true ∧ r.data = d
  ttl : ∃ r ∈ L, match1 s r = true ∧ r.ttl = s.ttl
  low : ∀ r ∈ L, match1 s r = true → s.ttl ≤ r.ttl
theorem Ch.miss {L : List Rec} {s : RSet} {r : Rec} (h : Ch L s) (hm : match1 s r = false) : Ch (L ++ [r]) s where
  dat d := by
    rw [h.dat]
    constructor
    · rintro ⟨q, h1, h2⟩; exact ⟨q, by simp [h1], h2⟩
    · rintro ⟨q, h1, h2, h3⟩
      rcases List.mem_append.1 h1 with h1 | h1
      · exact ⟨q, h1, h2, h3⟩
      · obtain rfl := List.mem_singleton.1 h1
        rw [hm] at h2; cases h2
  ttl := let ⟨q, h1, h2⟩ := h.ttl; ⟨q, by simp [h1], h2⟩
  low q h1 h2 := by
    rcases List.mem_append.1 h1 with h1 | h1
    · exact h.low q h1 h2
    · obtain rfl := List.mem_singleton.1 h1
      rw [hm] at h2; cases h2
theorem Ch.bump {L : List Rec} {s : RSet} {r : Rec} (h : Ch L s) (hm : match1 s r = true) : Ch (L ++ [r]) (X.bump s r) where
  dat d := by
    show d ∈ s.data ++ [r.data] ↔ ∃ q ∈ L ++ [r], match1 s q = true ∧ q.data = d
    rw [List.mem_append, h.dat, List.mem_singleton]
    constructor
    · rintro (⟨q, h1, h2⟩ | rfl)
      · exact ⟨q, by simp [h1], h2⟩
      · exact ⟨r, by simp, hm, rfl⟩
    · rintro ⟨q, h1, h2, h3⟩
      rcases List.mem_append.1 h1 with h1 | h1
      · exact .inl ⟨q, h1, h2, h3⟩
      · obtain rfl := List.mem_singleton.1 h1
        exact .inr h3.symm
  ttl := by
    show ∃ q ∈ L ++ [r], match1 s q = true ∧ q.ttl = min s.ttl r.ttl
    obtain ⟨q, h1, h2, h3⟩ := h.ttl
    rcases Int.le_total s.ttl r.ttl with hl | hl
    · exact ⟨q, by simp [h1], h2, by rw [h3]; omega⟩
    · exact ⟨r, by simp, hm, by omega⟩
  low q h1 h2 := by
    show min s.ttl r.ttl ≤ q.ttl
    rcases List.mem_append.1 h1 with h1 | h1
    · have := h.low q h1 h2
      omega
    · obtain rfl := List.mem_singleton.1 h1
      omega
theorem Ch.new {L : List Rec} {r : Rec} (h : ∀ q ∈ L, match1 ⟨fold r.name, r.kind, r.ttl, [r.data]⟩ q = false) : Ch (L ++ [r]) ⟨fold r.name, r.kind, r.ttl, [r.data]⟩ where
  dat d := by
    rw [List.mem_singleton]
    constructor
    · rintro rfl; exact ⟨r, by simp, by simp [match1], rfl⟩
    · rintro ⟨q, h1, h2, h3⟩
      rcases List.mem_append.1 h1 with h1 | h1
      · rw [h q h1] at h2; cases h2
      · obtain rfl := List.mem_singleton.1 h1
        exact h3.symm
  ttl := ⟨r, by simp, by simp [match1], rfl⟩
  low q h1 h2 := by
    rcases List.mem_append.1 h1 with h1 | h1
    · rw [h q h1] at h2; cases h2
    · obtain rfl := List.mem_singleton.1 h1
      exact Int.le_refl _
theorem gather_ch (l : List Rec) : ∀ k, k ≤ l.length → ∀ s ∈ gather (l.take k), Ch (l.take k) s
  | 0, _, s, h => by simp [gather] at h
  | k + 1, hk, s, h => by
    have hlt : k < l.length := by omega
    have e : l.take (k + 1) = l.take k ++ [l[k]] := by simp
    rw [gather_snoc hlt] at h
    rw [e]
    have ih := gather_ch l k (by omega)
    rcases mem_addTo (gather_apart _) h with ⟨h1, h2⟩ | ⟨t, h1, h2, rfl⟩ | ⟨h1, rfl⟩
    · exact (ih s h1).miss h2
    · exact (ih t h1).bump h2
    · refine Ch.new fun q hq => ?_
      obtain ⟨t, ht, hm, _⟩ := gather_cov hq
      have := h1 t ht
      cases hx : match1 ⟨fold l[k].name, l[k].kind, l[k].ttl, [l[k].data]⟩ q with
      | false => rfl
      | true =>
        exfalso
        simp only [match1, Bool.and_eq_true, decide_eq_true_eq] at hx hm
        have h5 : match1 t l[k] = true := by
          simp only [match1, Bool.and_eq_true, decide_eq_true_eq]
          exact ⟨by rw [hm.1, hx.1], by rw [hm.2, hx.2]⟩
        rw [this] at h5; cases h5
theorem Ch.norm {L : List Rec} {s : RSet} (h : Ch L s) : Ch L (X.norm s) where
  dat d := by
    show d ∈ nub s.data ↔ ∃ r ∈ L, match1 s r = true ∧ r.data = d
    rw [mem_nub, h.dat]
  ttl := h.ttl
  low := h.low
theorem groups_ch {l : List Rec} {s : RSet} (h : s ∈ groups l) : Ch l s ∧ s.data.Pairwise (· < ·) := by
  obtain ⟨u, hu, rfl⟩ := List.mem_map.1 h
  have := gather_ch l l.length (Nat.le_refl _)
  rw [List.take_length] at this
  exact ⟨(this u hu).norm, strict_nub _⟩
theorem Ch.uniq {L : List Rec} {s t : RSet} (h : Ch L s) (k : Ch L t) (hs : s.data.Pairwise (· < ·)) (ht : t.data.Pairwise (· < ·)) (hn : s.name = t.name) (hk : s.kind = t.kind) : s = t := by
  have hm : ∀ r, match1 s r = match1 t r := fun r => by rw [match1, match1, hn, hk]
  have hd : s.data = t.data := strict_eq hs ht fun d => by
    rw [h.dat, k.dat]
    simp only [hm]
  have ha : s.ttl = t.ttl := by
    obtain ⟨q, h1, h2, h3⟩ := h.ttl
    obtain ⟨q', k1, k2, k3⟩ := k.ttl
    have e1 := k.low q h1 (by rw [← hm]; exact h2)
    have e2 := h.low q' k1 (by rw [hm]; exact k2)
    omega
  cases s; cases t
  simp_all
def cmpG (s t : RSet) : Int := cmpSet s.name t.name s.kind t.kind
theorem tpoG : TPO cmpG := tpo_cmpSet.comap fun s : RSet => (s.name, s.kind)
def SO (gs : List RSet) : Prop := gs.Pairwise fun s t => cmpG s t < 0
def newS (r : Rec) (t : RSet) : RSet := ⟨fold r.name, r.kind, min r.ttl t.ttl, textS r.data t.data⟩
theorem ahead_G (a b : RSet) : aheadS a b = decide (cmpG a b < 0) := ahead_cmp a b
theorem match_key {s : RSet} {r : Rec} : match1 s r = true ↔ s.name = fold r.name ∧ s.kind = r.kind := by simp [match1]
theorem cmpG_key {s t u : RSet} (hn : s.name = t.name) (hk : s.kind = t.kind) : cmpG u s = cmpG u t ∧ cmpG s u = cmpG t u := by
  unfold cmpG; rw [hn, hk]; exact ⟨rfl, rfl⟩
theorem no_match {s : RSet} {r : Rec} (h : cmpG s (recSet r) ≠ 0) : match1 s r = false := by
  cases hm : match1 s r with
  | false => rfl
  | true =>
    obtain ⟨h1, h2⟩ := match_key.1 hm
    exact absurd (by rw [(cmpG_key (t := recSet r) h1 h2).2]; exact tpoG.refl _) h
theorem mem_putS {r : Rec} (hr : Small (fold r.name)) : ∀ {gs : List RSet} {s : RSet}, SO gs → (∀ g ∈ gs, Small g.name) → s ∈ putS r gs →
    (s ∈ gs ∧ match1 s r = false) ∨ (∃ t ∈ gs, match1 t r = true ∧ s = newS r t) ∨ ((∀ t ∈ gs, match1 t r = false) ∧ s = recSet r)
  | [], s, _, _, h => by
    right; right
    exact ⟨by simp, by simpa [putS] using h⟩
  | g :: gs, s, hso, hsm, h => by
    obtain ⟨p1, p2⟩ := List.pairwise_cons.1 hso
    have hg := hsm g (by simp)
    rw [putS, ahead_G, ahead_G] at h
    by_cases h1 : cmpG g (recSet r) < 0
    · rw [if_pos (decide_eq_true h1)] at h
      have m1 : match1 g r = false := no_match (by omega)
      rcases List.mem_cons.1 h with rfl | h
      · exact .inl ⟨by simp, m1⟩
      · rcases mem_putS hr p2 (fun x hx => hsm x (by simp [hx])) h with ⟨a, b⟩ | ⟨t, a, b, c⟩ | ⟨a, b⟩
        · exact .inl ⟨by simp [a], b⟩
        · exact .inr (.inl ⟨t, by simp [a], b, c⟩)
        · refine .inr (.inr ⟨fun t ht => ?_, b⟩)
          rcases List.mem_cons.1 ht with rfl | ht
          · exact m1
          · exact a t ht
    · rw [if_neg (by simpa using h1)] at h
      by_cases h2 : cmpG (recSet r) g < 0
      · rw [if_pos (decide_eq_true h2)] at h
        have m1 : match1 g r = false := no_match (by have := tpoG.anti g (recSet r); omega)
        have m2 : ∀ t ∈ gs, match1 t r = false := fun t ht => no_match (by
          have := tpoG.ltt h2 (p1 t ht)
          have := tpoG.anti t (recSet r); omega)
        rcases List.mem_cons.1 h with rfl | h
        · refine .inr (.inr ⟨fun t ht => ?_, rfl⟩)
          rcases List.mem_cons.1 ht with rfl | ht
          · exact m1
          · exact m2 t ht
        · rcases List.mem_cons.1 h with rfl | h
          · exact .inl ⟨by simp, m1⟩
          · exact .inl ⟨by simp [h], m2 s h⟩
      · rw [if_neg (by simpa using h2)] at h
        have h0 : cmpG g (recSet r) = 0 := by have := tpoG.anti g (recSet r); omega
        obtain ⟨e1, e2⟩ := cmpSet_zero hg hr h0
        have mg : match1 g r = true := match_key.2 ⟨e1, e2⟩
        rcases List.mem_cons.1 h with rfl | h
        · exact .inr (.inl ⟨g, by simp, mg, rfl⟩)
        · refine .inl ⟨by simp [h], no_match ?_⟩
          have := p1 s h
          rw [(cmpG_key (t := recSet r) e1 e2).2] at this
          have := tpoG.anti s (recSet r); omega
theorem key_putS {r : Rec} : ∀ {gs : List RSet} {s : RSet}, s ∈ putS r gs → s ∈ gs ∨ (s.name = fold r.name ∧ s.kind = r.kind)
  | [], s, h => by
    right
    have : s = recSet r := by simpa [putS] using h
    subst this; exact ⟨rfl, rfl⟩
  | g :: gs, s, h => by
    rw [putS] at h
    split at h
    · rcases List.mem_cons.1 h with rfl | h
      · exact .inl (by simp)
      · rcases key_putS h with h | h
        · exact .inl (by simp [h])
        · exact .inr h
    · split at h
      · rcases List.mem_cons.1 h with rfl | h
        · exact .inr ⟨rfl, rfl⟩
        · exact .inl h
      · rcases List.mem_cons.1 h with rfl | h
        · exact .inr ⟨rfl, rfl⟩
        · exact .inl (by simp [h])
theorem so_putS {r : Rec} (hr : Small (fold r.name)) : ∀ {gs : List RSet}, SO gs → (∀ g ∈ gs, Small g.name) → SO (putS r gs)
  | [], _, _ => by simp [putS, SO]
  | g :: gs, hso, hsm => by
    obtain ⟨p1, p2⟩ := List.pairwise_cons.1 hso
    have hg := hsm g (by simp)
    rw [putS, ahead_G, ahead_G]
    by_cases h1 : cmpG g (recSet r) < 0
    · rw [if_pos (decide_eq_true h1)]
      refine List.pairwise_cons.2 ⟨fun s hs => ?_, so_putS hr p2 fun x hx => hsm x (by simp [hx])⟩
      rcases key_putS hs with h | ⟨a, b⟩
      · exact p1 s h
      · rw [(cmpG_key (t := recSet r) a b).1]; exact h1
    · rw [if_neg (by simpa using h1)]
      by_cases h2 : cmpG (recSet r) g < 0
      · rw [if_pos (decide_eq_true h2)]
        refine List.pairwise_cons.2 ⟨fun s hs => ?_, hso⟩
        rcases List.mem_cons.1 hs with rfl | hs
        · exact h2
        · exact tpoG.ltt h2 (p1 s hs)
      · rw [if_neg (by simpa using h2)]
        have h0 : cmpG g (recSet r) = 0 := by have := tpoG.anti g (recSet r); omega
        obtain ⟨e1, e2⟩ := cmpSet_zero hg hr h0
        refine List.pairwise_cons.2 ⟨fun s hs => ?_, p2⟩
        have := p1 s hs
        rw [(cmpG_key (s := g) (t := ⟨fold r.name, r.kind, min r.ttl g.ttl, textS r.data g.data⟩) e1 e2).2] at this
        exact this
theorem strict_textS {s : List UInt8} : ∀ {l : List (List UInt8)}, l.Pairwise (· < ·) → (textS s l).Pairwise (· < ·) ∧ ∀ x, x ∈ textS s l ↔ x = s ∨ x ∈ l
  | [], _ => by simp [textS]
  | y :: l, h => by
    obtain ⟨p1, p2⟩ := List.pairwise_cons.1 h
    obtain ⟨i1, i2⟩ := strict_textS (s := s) p2
    rw [textS]
    by_cases h1 : y < s
    · rw [if_pos (bless.2 h1)]
      refine ⟨List.pairwise_cons.2 ⟨fun x hx => ?_, i1⟩, fun x => ?_⟩
      · rcases (i2 x).1 hx with rfl | hx
        · exact h1
        · exact p1 x hx
      · simp only [List.mem_cons, i2]; exact or_left_comm
    · rw [if_neg (fun hb => h1 (bless.1 hb))]
      by_cases h2 : y = s
      · rw [if_pos h2]
        subst h2
        exact ⟨h, fun x => by simp⟩
      · rw [if_neg h2]
        have h3 : s < y := lt_of_le_ne (List.not_lt.1 h1) (fun e => h2 e.symm)
        refine ⟨List.pairwise_cons.2 ⟨fun x hx => ?_, h⟩, fun x => by simp⟩
        rcases List.mem_cons.1 hx with rfl | hx
        · exact h3
        · exact List.lt_trans h3 (p1 x hx)
theorem keep_putS {r : Rec} (hr : Small (fold r.name)) : ∀ {gs : List RSet}, (∀ g ∈ gs, Small g.name) → ∀ t ∈ gs, ∃ s ∈ putS r gs, s.name = t.name ∧ s.kind = t.kind
  | [], _, t, h => by simp at h
  | g :: gs, hsm, t, h => by
    have hg := hsm g (by simp)
    rw [putS, ahead_G, ahead_G]
    by_cases h1 : cmpG g (recSet r) < 0
    · rw [if_pos (decide_eq_true h1)]
      rcases List.mem_cons.1 h with rfl | h
      · exact ⟨t, by simp, rfl, rfl⟩
      · obtain ⟨s, a, b⟩ := keep_putS hr (fun x hx => hsm x (by simp [hx])) t h
        exact ⟨s, by simp [a], b⟩
    · rw [if_neg (by simpa using h1)]
      by_cases h2 : cmpG (recSet r) g < 0
      · rw [if_pos (decide_eq_true h2)]
        exact ⟨t, List.mem_cons_of_mem _ h, rfl, rfl⟩
      · rw [if_neg (by simpa using h2)]
        have h0 : cmpG g (recSet r) = 0 := by have := tpoG.anti g (recSet r); omega
        obtain ⟨e1, e2⟩ := cmpSet_zero hg hr h0
        rcases List.mem_cons.1 h with rfl | h
        · exact ⟨_, List.mem_cons_self, e1.symm, e2.symm⟩
        · exact ⟨t, by simp [h], rfl, rfl⟩
theorem new_putS (r : Rec) : ∀ gs : List RSet, ∃ s ∈ putS r gs, s.name = fold r.name ∧ s.kind = r.kind
  | [] => ⟨recSet r, by simp [putS], rfl, rfl⟩
  | g :: gs => by
    obtain ⟨s, a, b⟩ := new_putS r gs
    rw [putS]
    split
    · exact ⟨s, by simp [a], b⟩
    · split
      · exact ⟨recSet r, by simp, rfl, rfl⟩
      · exact ⟨_, List.mem_cons_self, rfl, rfl⟩
theorem Ch.newS {L : List Rec} {t : RSet} {r : Rec} (h : Ch L t) (hm : match1 t r = true) (ht : t.data.Pairwise (· < ·)) : Ch (L ++ [r]) (X.newS r t) := by
  have hb := h.bump hm
  obtain ⟨e1, e2⟩ := match_key.1 hm
  have hk : ∀ q, match1 (X.newS r t) q = match1 (X.bump t r) q := fun q => by simp only [match1, X.newS, X.bump, e1, e2]; rfl
  refine ⟨fun d => ?_, ?_, fun q hq hmq => ?_⟩
  · show d ∈ textS r.data t.data ↔ _
    rw [(strict_textS ht).2]
    have := hb.dat d
    simp only [hk]
    rw [← this]
    show _ ↔ d ∈ t.data ++ [r.data]
    simp [or_comm]
  · obtain ⟨q, a, b, c⟩ := hb.ttl
    exact ⟨q, a, by rw [hk]; exact b, by rw [c]; show min t.ttl r.ttl = min r.ttl t.ttl; omega⟩
  · have := hb.low q hq (by rw [← hk]; exact hmq)
    show min r.ttl t.ttl ≤ q.ttl
    have h2 : min t.ttl r.ttl ≤ q.ttl := this
    omega
theorem small_ok {r : Rec} (h : okR r = true) : Small (fold r.name) := by
  obtain ⟨ls, hl⟩ := Option.isSome_iff_exists.1 (ready_labels (r := r) (n := []) (by simpa [okR] using h)).1
  exact ⟨r.name, ls, hl, rfl⟩
theorem putAll_inv {l : List Rec} (hok : l.all okR = true) : ∀ k, k ≤ l.length → SO (putAll (l.take k)) ∧ (∀ s ∈ putAll (l.take k), Ch (l.take k) s ∧ s.data.Pairwise (· < ·) ∧ Small s.name) ∧ ∀ q ∈ l.take k, ∃ s ∈ putAll (l.take k), match1 s q = true
  | 0, _ => by simp [putAll, SO]
  | k + 1, h => by
    have hlt : k < l.length := by omega
    obtain ⟨i1, i2, i3⟩ := putAll_inv hok k (by omega)
    have hr := small_ok (List.all_eq_true.1 hok _ (List.getElem_mem hlt))
    have hsm : ∀ g ∈ putAll (l.take k), Small g.name := fun g hg => (i2 g hg).2.2
    have e : l.take (k + 1) = l.take k ++ [l[k]] := by simp
    rw [putAll_succ hlt, e]
    refine ⟨so_putS hr i1 hsm, fun s hs => ?_, fun q hq => ?_⟩
    · rcases mem_putS hr i1 hsm hs with ⟨a, b⟩ | ⟨t, a, b, rfl⟩ | ⟨a, rfl⟩
      · exact ⟨(i2 s a).1.miss b, (i2 s a).2⟩
      · exact ⟨(i2 t a).1.newS b (i2 t a).2.1, (strict_textS (i2 t a).2.1).1, hr⟩
      · refine ⟨Ch.new fun q hq => ?_, by simp [recSet], hr⟩
        obtain ⟨t, ht, hm⟩ := i3 q hq
        cases hx : match1 ⟨fold l[k].name, l[k].kind, l[k].ttl, [l[k].data]⟩ q with
        | false => rfl
        | true =>
          exfalso
          obtain ⟨x1, x2⟩ := match_key.1 hx
          obtain ⟨y1, y2⟩ := match_key.1 hm
          have h5 : match1 t l[k] = true := match_key.2 ⟨y1.trans x1.symm, y2.trans x2.symm⟩
          rw [a t ht] at h5; cases h5
    · rcases List.mem_append.1 hq with hq | hq
      · obtain ⟨t, ht, hm⟩ := i3 q hq
        obtain ⟨s, a, b, c⟩ := keep_putS hr hsm t ht
        obtain ⟨y1, y2⟩ := match_key.1 hm
        exact ⟨s, a, match_key.2 ⟨b.trans y1, c.trans y2⟩⟩
      · obtain rfl := List.mem_singleton.1 hq
        obtain ⟨s, a, b, c⟩ := new_putS l[k] (putAll (l.take k))
        exact ⟨s, a, match_key.2 ⟨b, c⟩⟩
theorem putAll_all {l : List Rec} (hok : l.all okR = true) : SO (putAll l) ∧ (∀ s ∈ putAll l, Ch l s ∧ s.data.Pairwise (· < ·) ∧ Small s.name) ∧ ∀ q ∈ l, ∃ s ∈ putAll l, match1 s q = true := by
  have := putAll_inv hok l.length (Nat.le_refl _)
  rwa [List.take_length] at this
theorem putAll_perm {l : List Rec} (hok : l.all okR = true) : (putAll l).Perm (groups l) := by
  obtain ⟨i1, i2, i3⟩ := putAll_all hok
  have n1 : (groups l).Nodup := (groups_apart _).imp fun h e => by subst e; exact h ⟨rfl, rfl⟩
  have n0 : (putAll l).Nodup := i1.imp fun h e => by subst e; have := tpoG.refl ‹RSet›; omega
  refine (List.perm_ext_iff_of_nodup n0 n1).2 fun s => ⟨fun hs => ?_, fun hs => ?_⟩
  · obtain ⟨hc, hst, _⟩ := i2 s hs
    obtain ⟨q, h1, h2, _⟩ := hc.ttl
    obtain ⟨t, ht, hm, _⟩ := gather_cov h1
    have hg : norm t ∈ groups l := List.mem_map_of_mem ht
    obtain ⟨hc', hst'⟩ := groups_ch hg
    obtain ⟨x1, x2⟩ := match_key.1 h2
    obtain ⟨y1, y2⟩ := match_key.1 hm
    have e := hc.uniq hc' hst hst' (x1.trans y1.symm) (x2.trans y2.symm)
    rw [e]; exact hg
  · obtain ⟨hc, hst⟩ := groups_ch hs
    obtain ⟨q, h1, h2, _⟩ := hc.ttl
    obtain ⟨t, ht, hm⟩ := i3 q h1
    obtain ⟨hc', hst', _⟩ := i2 t ht
    obtain ⟨x1, x2⟩ := match_key.1 h2
    obtain ⟨y1, y2⟩ := match_key.1 hm
    have e := hc.uniq hc' hst hst' (x1.trans y1.symm) (x2.trans y2.symm)
    rw [e]; exact ht
theorem putAll_sorted {l : List Rec} (hok : l.all okR = true) : Sorted (putAll l) := by
  obtain ⟨i1, _, _⟩ := putAll_all hok
  intro i j s t hij hi hj
  obtain ⟨a, rfl⟩ := List.getElem?_eq_some_iff.1 hi
  obtain ⟨b, rfl⟩ := List.getElem?_eq_some_iff.1 hj
  have h := List.pairwise_iff_getElem.1 i1 i j a b hij
  have := tpoG.anti (putAll l)[j] (putAll l)[i]
  show 0 ≤ cmpG (putAll l)[j] (putAll l)[i]
  omega
theorem ref_out {l : List Rec} (hok : l.all okR = true) {out : List RSet} (hp : out.Perm (groups l)) (hs : Sorted out) : out = putAll l :=
  sorted_one hok hp (putAll_perm hok) hs (putAll_sorted hok)
theorem ref_E (l : List Rec) : refE l = groupE l := by
  unfold refE groupE
  cases hok : l.all okR with
  | false => simp
  | true =>
    have hp := putAll_perm hok
    have hl := hp.length_eq
    have ha : (putAll l).any big = (groups l).any big := by
      cases h : (groups l).any big with
      | true =>
        obtain ⟨s, h1, h2⟩ := List.any_eq_true.1 h
        exact List.any_eq_true.2 ⟨s, hp.mem_iff.2 h1, h2⟩
      | false =>
        cases h' : (putAll l).any big with
        | false => rfl
        | true =>
          obtain ⟨s, h1, h2⟩ := List.any_eq_true.1 h'
          rw [List.any_eq_true.2 ⟨s, hp.mem_iff.1 h1, h2⟩] at h; cases h
    rw [ha, hl]
    simp only [Bool.true_eq_false, if_false]
    split <;> split <;> rfl
def zzone : List Value := [str [], .slice none 0 0]
theorem textS_mem {s x : List UInt8} : ∀ {l : List (List UInt8)}, x ∈ textS s l → x = s ∨ x ∈ l
  | [], h => by simp [textS] at h; exact .inl h
  | y :: l, h => by
    unfold textS at h
    split at h
    · rcases List.mem_cons.1 h with rfl | h
      · exact .inr (by simp)
      · rcases textS_mem h with h | h
        · exact .inl h
        · exact .inr (by simp [h])
    · split at h
      · exact .inr h
      · rcases List.mem_cons.1 h with rfl | h
        · exact .inl rfl
        · exact .inr h
theorem putS_mem {r : Rec} : ∀ {gs : List RSet} {s : RSet} {d : List UInt8}, s ∈ putS r gs → d ∈ s.data → d = r.data ∨ ∃ t ∈ gs, d ∈ t.data
  | [], s, d, h, hd => by
    have : s = recSet r := by simpa [putS] using h
    subst this
    exact .inl (by simpa [recSet] using hd)
  | g :: gs, s, d, h, hd => by
    rw [putS] at h
    split at h
    · rcases List.mem_cons.1 h with rfl | h
      · exact .inr ⟨s, by simp, hd⟩
      · rcases putS_mem h hd with h | ⟨t, ht, h⟩
        · exact .inl h
        · exact .inr ⟨t, by simp [ht], h⟩
    · split at h
      · rcases List.mem_cons.1 h with rfl | h
        · exact .inl (by simpa [recSet] using hd)
        · exact .inr ⟨s, h, hd⟩
      · rcases List.mem_cons.1 h with rfl | h
        · rcases textS_mem hd with h | h
          · exact .inl h
          · exact .inr ⟨g, by simp, h⟩
        · exact .inr ⟨s, by simp [h], hd⟩
theorem putAll_mem {l : List Rec} : ∀ k, k ≤ l.length → ∀ s ∈ putAll (l.take k), ∀ d ∈ s.data, ∃ r ∈ l, d = r.data
  | 0, _, s, hs, _, _ => by simp [putAll] at hs
  | k + 1, h, s, hs, d, hd => by
    rw [putAll_succ (show k < l.length by omega)] at hs
    rcases putS_mem hs hd with h1 | ⟨t, ht, h1⟩
    · exact ⟨_, List.getElem_mem _, h1⟩
    · exact putAll_mem k (by omega) t ht d h1
theorem putAll_data {l : List Rec} {s : RSet} (hs : s ∈ putAll l) {d : List UInt8} (hd : d ∈ s.data) : ∃ r ∈ l, d = r.data :=
  putAll_mem l.length (Nat.le_refl _) s (by rw [List.take_length]; exact hs) d hd
theorem putAll_len (l : List Rec) : ∀ s ∈ putAll l, s.data.length ≤ l.length := by
  have := (putAll_bounds l l.length (Nat.le_refl _)).2
  rwa [List.take_length] at this
def loadE (o : List UInt8) (l : List Rec) : Int := if refE l = 0 then zoneR (fold o) (putAll l) else refE l
def loadO (o : List UInt8) (l : List Rec) : List UInt8 := if loadE o l = 0 then fold o else []
def loadL (o : List UInt8) (l : List Rec) : List RSet := if loadE o l = 0 then putAll l else []
def LoadU (B : Nat) (o : List UInt8) (l : List Rec) (r : Value) (w' : World) : Prop :=
  ∃ v, r = .tuple #[.agg #[str (loadO o l), v], .int .i64 (loadE o l)] ∧ SetsO B w' v (loadL o l)
theorem LoadU.bad {B : Nat} {o : List UInt8} {l : List Rec} {e : Int} {w' : World} (h : loadE o l = e) (he : e ≠ 0) : LoadU B o l (.tuple #[.agg zzone.toArray, .int .i64 e]) w' := by
  refine ⟨.slice none 0 0, ?_, ?_⟩
  · rw [h, loadO, if_neg (by rw [h]; exact he)]; rfl
  · rw [loadL, if_neg (by rw [h]; exact he)]; exact SetsO.nil _ _
theorem LoadU.good {B : Nat} {o : List UInt8} {l : List Rec} {v : Value} {w' : World} (h : loadE o l = 0) (hv : SetsO B w' v (putAll l)) : LoadU B o l (.tuple #[.agg #[str (fold o), v], .int .i64 0]) w' := by
  refine ⟨v, ?_, ?_⟩
  · rw [loadO, if_pos h, h]
  · rw [loadL, if_pos h]; exact hv
def GroupU (B : Nat) (l : List Rec) (r : Value) (w' : World) : Prop := ∃ v, r = .tuple #[v, .int .i64 (refE l)] ∧ (refE l = 0 → SetsO B w' v (putAll l))
theorem RefR.uni {B : Nat} {l : List Rec} {r : Value} {w' : World} (h : RefR B l r w') : GroupU B l r w' := by
  unfold RefR at h
  split at h
  · rename_i h0
    obtain ⟨v, rfl, hv⟩ := h
    exact ⟨v, by rw [h0], fun _ => hv⟩
  · rename_i h0
    exact ⟨_, h, fun h1 => absurd h1 h0⟩
theorem GroupO.uni {B : Nat} {l : List Rec} {r : Value} {w' : World} (h : GroupO B l r w') : GroupU B l r w' := by
  unfold GroupO at h
  rw [← ref_E] at h
  split at h
  · rename_i h0
    obtain ⟨out, v, rfl, hp, hs, hv⟩ := h
    have hok : l.all okR = true := by
      cases hok : l.all okR with
      | true => rfl
      | false => rw [refE, if_pos hok] at h0; cases h0
    have e := ref_out hok hp hs
    exact ⟨v, by rw [h0], fun _ => by rw [← e]; exact hv⟩
  · rename_i h0
    exact ⟨_, h, fun h1 => absurd h1 h0⟩
theorem zone_one {o : List UInt8} {v : Value} (h : v.oneCell' = true) : (Value.agg #[str o, v]).cells.all (·.oneCell') = true := by
  simp [Value.cells, h, show (str o).oneCell' = true from rfl]
set_option maxHeartbeats 3000000 in
theorem p_Load (o : List UInt8) (v : Value) (l : List Rec) (w : World) (hv : Sl 4 w v (rcells l)) (hl : l.length ≤ 10000) (hd : ∀ r ∈ l, r.data.length ≤ 4611686018427387904) : Calls Tryz.prog 64 #[str o, v] w (Ret w (LoadU w.heap.size o l)) := by
  have hb : ∀ s ∈ putAll l, s.data.length ≤ 1000000 := fun s hs => by have := putAll_len l s hs; omega
  have hd2 : ∀ s ∈ putAll l, ∀ d ∈ s.data, d.length ≤ 4611686018427387904 := fun s hs d hd3 => by
    obtain ⟨r, hr, rfl⟩ := putAll_data hs hd3
    exact hd r hr
  go_enter Tryz.func64, Tryz.ntmps64
  repeat' ((fail_if_success (with_reducible refine o_s ?_)); go_step)
  refine wpl_allocB (z := zzone) rfl (by decide +kernel) ?_
  intro w1 x1 s1 h1
  refine gset ?_
  have hv1 := hv.ext x1
  repeat' (first | ((with_reducible refine o_s ?_); (first | (refine o_1 ?_; refine o_2 ?_) | (refine o_g ?_; first | refine o_u ?_ | refine o_k ?_ | refine o_n ?_ | refine o_v ?_ | ((first | refine o_G ?_ ?_ | refine o_N ?_ ?_) <;> intro hc)))) | ((fail_if_success (with_reducible refine o_s ?_)); go_step))
  refine wpl_callR (enters_of Tryz.func107 rfl rfl) rfl rfl (t9o v l _ hv1 hl) ?_
  intro r w2 x2 hr
  obtain ⟨y, rfl, hy⟩ := hr.uni
  clear hr
  have h2 := x2.at h1
  have hx2 := x1.trans x2
  by_cases hE : refE l = 0
  · have hy := hy hE
    have hLE : loadE o l = zoneR (fold o) (putAll l) := by rw [loadE, if_pos hE]
    rw [hE]
    obtain ⟨ya, yn, yc, hys⟩ : ∃ a n c, y = .slice a n c := by obtain ⟨css, h, _⟩ := hy; exact h.slf
    repeat' (first | ((with_reducible refine o_s ?_); (first | (refine o_1 ?_; refine o_2 ?_) | (refine o_g ?_; first | refine o_u ?_ | refine o_k ?_ | refine o_n ?_ | refine o_v ?_ | ((first | refine o_G ?_ ?_ | refine o_N ?_ ?_) <;> intro hc)))) | ((fail_if_success (with_reducible refine o_s ?_)); go_step))
    refine wpl_callV (enters_of Tryz.func84 rfl rfl) rfl rfl (t17 o _) ?_; intro w3 x3; refine gset ?_
    have h3 := x3.at h2
    have hx3 := hx2.trans x3
    have hy3 := hy.ext x3
    repeat' (first | ((with_reducible refine o_s ?_); (first | (refine o_1 ?_; refine o_2 ?_) | (refine o_g ?_; first | refine o_u ?_ | refine o_k ?_ | refine o_n ?_ | refine o_v ?_ | ((first | refine o_G ?_ ?_ | refine o_N ?_ ?_) <;> intro hc)))) | ((fail_if_success (with_reducible refine o_s ?_)); go_step))
    refine wpl_run (v := .agg #[str (fold o), y]) rfl (Runs.build (vals := [(0, str (fold o)), (1, y)]) rfl (by rw [hys]; kernel_rfl)) ?_
    refine gset ?_
    refine wpl_allocB (z := zzone) rfl (by decide +kernel) ?_
    intro w4 x4 s4 h4
    refine gset ?_
    have hy1 : y.oneCell' = true := by rw [hys]; rfl
    refine wpl_storeB (v := .agg #[str (fold o), y]) rfl rfl rfl h4 (show sizeTy Tryz.prog 25 2 = true by decide +kernel) rfl (zone_one hy1) ?_
    intro w5 p5
    have x5 : Ext w3 w5 := x4.move p5.mv (by rintro k ⟨⟩; exact Nat.le_refl _)
    have h5 := pts_block (cs := [str (fold o), y]) p5.this
    have hx5 := hx3.trans x5
    have hy5 := hy3.ext x5
    have hz5 := x5.at h3
    clear p5 h4 x4
    repeat' (first | ((with_reducible refine o_s ?_); (first | (refine o_1 ?_; refine o_2 ?_) | (refine o_g ?_; first | refine o_u ?_ | refine o_k ?_ | refine o_n ?_ | refine o_v ?_ | ((first | refine o_G ?_ ?_ | refine o_N ?_ ?_) <;> intro hc)))) | ((fail_if_success (with_reducible refine o_s ?_)); go_step))
    refine wpl_callV (enters_of Tryz.func37 rfl rfl) rfl rfl (p_Check (fold o) y (putAll l) _ hy5.sets hb) ?_; intro w6 x6; refine gset ?_
    have h6 := h5.ext x6
    have hx6 := hx5.trans x6
    have hy6 := hy5.ext x6
    have hz6 := x6.at hz5
    repeat' (first | ((with_reducible refine o_s ?_); (first | (refine o_1 ?_; refine o_2 ?_) | (refine o_g ?_; first | refine o_u ?_ | refine o_k ?_ | refine o_n ?_ | refine o_v ?_ | ((first | refine o_G ?_ ?_ | refine o_N ?_ ?_) <;> intro hc)))) | ((fail_if_success (with_reducible refine o_s ?_)); go_step))
    · have q : ¬ zoneR (fold o) (putAll l) = 0 := by simpa using (by assumption : (!decide (zoneR (fold o) (putAll l) = 0)) = true)
      refine wpl_run (v := .agg zzone.toArray) rfl (Runs.build0 (by kernel_rfl)) ?_
      refine gset ?_
      repeat' (first | ((with_reducible refine o_s ?_); (first | (refine o_1 ?_; refine o_2 ?_) | (refine o_g ?_; first | refine o_u ?_ | refine o_k ?_ | refine o_n ?_ | refine o_v ?_ | ((first | refine o_G ?_ ?_ | refine o_N ?_ ?_) <;> intro hc)))) | ((fail_if_success (with_reducible refine o_s ?_)); go_step))
      refine wpl_storeB (v := .agg zzone.toArray) rfl rfl rfl hz6 (by decide +kernel) rfl (by decide +kernel) ?_
      intro w7 p7
      have x7 : Ext w w7 := hx6.move p7.mv (by rintro k ⟨⟩; exact Nat.le_refl _)
      repeat' (first | ((with_reducible refine o_s ?_); (first | (refine o_1 ?_; refine o_2 ?_) | (refine o_g ?_; first | refine o_u ?_ | refine o_k ?_ | refine o_n ?_ | refine o_v ?_ | ((first | refine o_G ?_ ?_ | refine o_N ?_ ?_) <;> intro hc)))) | ((fail_if_success (with_reducible refine o_s ?_)); go_step))
      refine bodyPost_ret (results_cellT (cs := zzone) rfl rfl p7.this (by decide +kernel)) rfl ⟨_, rfl, x7, ?_⟩
      exact LoadU.bad hLE q
    · have q : zoneR (fold o) (putAll l) = 0 := by simpa using (by assumption : (!decide (zoneR (fold o) (putAll l) = 0)) = false)
      refine wpl_storeB (v := .agg #[str (fold o), y]) rfl rfl rfl hz6 (show sizeTy Tryz.prog 25 2 = true by decide +kernel) rfl (zone_one hy1) ?_
      intro w7 p7
      have x7 : Ext w w7 := hx6.move p7.mv (by rintro k ⟨⟩; exact Nat.le_refl _)
      have hy7 := hy6.put p7 (by have := s1; omega)
      repeat' (first | ((with_reducible refine o_s ?_); (first | (refine o_1 ?_; refine o_2 ?_) | (refine o_g ?_; first | refine o_u ?_ | refine o_k ?_ | refine o_n ?_ | refine o_v ?_ | ((first | refine o_G ?_ ?_ | refine o_N ?_ ?_) <;> intro hc)))) | ((fail_if_success (with_reducible refine o_s ?_)); go_step))
      refine bodyPost_ret (results_cellT (cs := [str (fold o), y]) rfl rfl p7.this (show aggTy Tryz.prog 25 2 = true by decide +kernel)) rfl ⟨_, rfl, x7, ?_⟩
      exact LoadU.good (by rw [hLE, q]) (hy7.weaken x1.size)
  · have hLE : loadE o l = refE l := by rw [loadE, if_neg hE]
    repeat' (first | ((with_reducible refine o_s ?_); (first | (refine o_1 ?_; refine o_2 ?_) | (refine o_g ?_; first | refine o_u ?_ | refine o_k ?_ | refine o_n ?_ | refine o_v ?_ | ((first | refine o_G ?_ ?_ | refine o_N ?_ ?_) <;> intro hc)))) | ((fail_if_success (with_reducible refine o_s ?_)); go_step))
    · refine wpl_run (v := .agg zzone.toArray) rfl (Runs.build0 (by kernel_rfl)) ?_
      refine gset ?_
      repeat' (first | ((with_reducible refine o_s ?_); (first | (refine o_1 ?_; refine o_2 ?_) | (refine o_g ?_; first | refine o_u ?_ | refine o_k ?_ | refine o_n ?_ | refine o_v ?_ | ((first | refine o_G ?_ ?_ | refine o_N ?_ ?_) <;> intro hc)))) | ((fail_if_success (with_reducible refine o_s ?_)); go_step))
      refine wpl_storeB (v := .agg zzone.toArray) rfl rfl rfl h2 (by decide +kernel) rfl (by decide +kernel) ?_
      intro w3 p3
      have x3 : Ext w w3 := hx2.move p3.mv (by rintro k ⟨⟩; exact Nat.le_refl _)
      repeat' (first | ((with_reducible refine o_s ?_); (first | (refine o_1 ?_; refine o_2 ?_) | (refine o_g ?_; first | refine o_u ?_ | refine o_k ?_ | refine o_n ?_ | refine o_v ?_ | ((first | refine o_G ?_ ?_ | refine o_N ?_ ?_) <;> intro hc)))) | ((fail_if_success (with_reducible refine o_s ?_)); go_step))
      refine bodyPost_ret (results_cellT (cs := zzone) rfl rfl p3.this (by decide +kernel)) rfl ⟨_, rfl, x3, ?_⟩
      exact LoadU.bad hLE hE
    · exact absurd (by assumption : (!decide (refE l = 0)) = false) (by simp [hE])
end Go.Proofs.X
