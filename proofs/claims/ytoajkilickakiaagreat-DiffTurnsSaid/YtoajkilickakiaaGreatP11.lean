/- Laws and walks that the proof of the statement is made of (part 11). -/
import Derived.Test.YtoajkilickakiaaGreatProg
import Derived.Test.YtoajkilickakiaaGreatShelf
import Derived.Shelf.SlSortCmp.NoneTotal
import Derived.Shelf.RegionOpenPlain
import Derived.Lib.Strings
import Derived.Lib.Slices
import Derived.Lib.Walk
import Derived.Lib.Builder
import Derived.Lib.AppendStr
import Derived.Lib.UnsafeStr
import Derived.Lib.MakeNoZero
import Derived.WalkKit
import Derived.Laws.Externs
import Derived.Laws.IdiomCopy
import Derived.Laws.BitsLemmas
import GoSem.Claims
import Derived.Lib.Hide
import Derived.OwnWalk
import Derived.Test.YtoajkilickakiaaGreatP1
import Derived.Test.YtoajkilickakiaaGreatP2
import Derived.Test.YtoajkilickakiaaGreatP3
import Derived.Test.YtoajkilickakiaaGreatP4
import Derived.Test.YtoajkilickakiaaGreatP5
import Derived.Test.YtoajkilickakiaaGreatP6
import Derived.Test.YtoajkilickakiaaGreatP8
import Derived.Test.YtoajkilickakiaaGreatP9
import Derived.Test.YtoajkilickakiaaGreatP10
set_option linter.unusedSimpArgs false
set_option linter.unusedVariables false
namespace Go.Proofs.X
open Go.RowKit
set_option maxRecDepth 100000
/-- a rule: a function that only reads and yields one value -/
def Rule (w : World) (f : Value) (b : Bool) : Prop := ∃ (g : FuncId) (caps : Array Value), f = .func (.func g) #[] caps ∧ Enters Tryz.prog g ∧ ∀ w', Ext w w' → Calls Tryz.prog g (([] : List Value).toArray ++ caps) w' (RetV w' (.bool b))
/-- zone.right's first rule -/
theorem p_right1 (o : List UInt8) (v ps pz : Value) (s : RSet) (u : Value) (w : World) (hs : Pts w ps [str s.name, .int .i64 s.kind, .int .i64 s.ttl, u]) (hz : Pts w pz [str o, v]) : Calls Tryz.prog 120 #[ps, pz] w (RetV w (.bool (underN s.name o))) := by
  go_enter Tryz.func120, Tryz.ntmps120
  repeat' (first | ((with_reducible refine o_s ?_); (first | (refine o_1 ?_; refine o_2 ?_) | (refine o_g ?_; first | refine o_u ?_ | refine o_k ?_ | refine o_n ?_ | refine o_v ?_ | ((first | refine o_G ?_ ?_ | refine o_N ?_ ?_) <;> intro hc)))) | ((fail_if_success (with_reducible refine o_s ?_)); go_step))
  refine wpl_callV (enters_of Tryz.func98 rfl rfl) rfl rfl (p_Under s.name o _) ?_; intro w1 x1; refine gset ?_
  repeat' (first | ((with_reducible refine o_s ?_); (first | (refine o_1 ?_; refine o_2 ?_) | (refine o_g ?_; first | refine o_u ?_ | refine o_k ?_ | refine o_n ?_ | refine o_v ?_ | ((first | refine o_G ?_ ?_ | refine o_N ?_ ?_) <;> intro hc)))) | ((fail_if_success (with_reducible refine o_s ?_)); go_step))
  go_ret
  exact ⟨rfl, x1⟩
def rule2 (o : List UInt8) (s : RSet) (one : Bool) : Bool := decide (s.kind ≠ 6) || (decide (s.name = o) && one)
set_option maxHeartbeats 3000000 in
theorem p_right2 (o : List UInt8) (v ps pz pb : Value) (s : RSet) (u : Value) (one : Bool) (w : World) (hs : Pts w ps [str s.name, .int .i64 s.kind, .int .i64 s.ttl, u]) (hz : Pts w pz [str o, v]) (hb : Pts w pb [.bool one]) : Calls Tryz.prog 121 #[ps, pz, pb] w (RetV w (.bool (rule2 o s one))) := by
  go_enter Tryz.func121, Tryz.ntmps121
  repeat' (first | ((with_reducible refine o_s ?_); (first | (refine o_1 ?_; refine o_2 ?_) | (refine o_g ?_; first | refine o_u ?_ | refine o_k ?_ | refine o_n ?_ | refine o_v ?_ | ((first | refine o_G ?_ ?_ | refine o_N ?_ ?_) <;> intro hc)))) | ((fail_if_success (with_reducible refine o_s ?_)); go_step))
  all_goals
    go_ret
    refine ⟨?_, Ext.refl _⟩
    simp_all [rule2]
set_option maxHeartbeats 3000000 in
/-- of the third rule: the function -/
theorem p_right31 (ps : Value) (s t : RSet) (u x : Value) (w : World) (hs : Pts w ps [str s.name, .int .i64 s.kind, .int .i64 s.ttl, u]) : Calls Tryz.prog 123 #[.agg #[str t.name, .int .i64 t.kind, .int .i64 t.ttl, x], ps] w (RetV w (.bool (clash s t))) := by
  go_enter Tryz.func123, Tryz.ntmps123
  repeat' ((fail_if_success (with_reducible refine o_s ?_)); go_step)
  refine wpl_box (vs := [str t.name, .int .i64 t.kind, .int .i64 t.ttl, x]) rfl rfl ?_
  intro p w1 x1 hp
  refine gset ?_
  have hs1 := hs.ext x1
  repeat' (first | ((with_reducible refine o_s ?_); (first | (refine o_1 ?_; refine o_2 ?_) | (refine o_g ?_; first | refine o_u ?_ | refine o_k ?_ | refine o_n ?_ | refine o_v ?_ | ((first | refine o_G ?_ ?_ | refine o_N ?_ ?_) <;> intro hc)))) | ((fail_if_success (with_reducible refine o_s ?_)); go_step))
  all_goals
    go_ret
    refine ⟨?_, x1⟩
    simp_all [clash]
def rule3 (l : List RSet) (s : RSet) (one : Bool) : Bool := decide (s.kind ≠ 5) || (one && !l.any (clash s))
set_option maxHeartbeats 3000000 in
theorem p_right3 (o : List UInt8) (v ps pz pb : Value) (l : List RSet) (s : RSet) (u : Value) (one : Bool) (w : World) (hs : Pts w ps [str s.name, .int .i64 s.kind, .int .i64 s.ttl, u]) (hz : Pts w pz [str o, v]) (hb : Pts w pb [.bool one]) (hv : SetsAt w v l) : Calls Tryz.prog 122 #[ps, pb, pz] w (RetV w (.bool (rule3 l s one))) := by
  have hf : SetFn w 123 #[ps] l (clash s) := fun t _ x w' hx' _ => p_right31 ps s t u x w' (hs.ext hx')
  go_enter Tryz.func122, Tryz.ntmps122
  cases one with
  | false =>
    repeat' (first | ((with_reducible refine o_s ?_); (first | (refine o_1 ?_; refine o_2 ?_) | (refine o_g ?_; first | refine o_u ?_ | refine o_k ?_ | refine o_n ?_ | refine o_v ?_ | ((first | refine o_G ?_ ?_ | refine o_N ?_ ?_) <;> intro hc)))) | ((fail_if_success (with_reducible refine o_s ?_)); go_step))
    all_goals
      go_ret
      refine ⟨?_, Ext.refl _⟩
      simp_all [rule3]
  | true =>
    repeat' (first | ((with_reducible refine o_s ?_); (first | (refine o_1 ?_; refine o_2 ?_) | (refine o_g ?_; first | refine o_u ?_ | refine o_k ?_ | refine o_n ?_ | refine o_v ?_ | ((first | refine o_G ?_ ?_ | refine o_N ?_ ?_) <;> intro hc)))) | ((fail_if_success (with_reducible refine o_s ?_)); go_step))
    · have h5 : s.kind = 5 := by simpa using (by assumption : (!decide (s.kind = 5)) = false)
      refine wpl_callV (enters_of Tryz.func86 rfl rfl) rfl rfl (p_ContainsFunc v l 123 #[ps] (clash s) _ hv (enters_of Tryz.func123 rfl rfl) hf) ?_; intro w1 x1; refine gset ?_
      repeat' (first | ((with_reducible refine o_s ?_); (first | (refine o_1 ?_; refine o_2 ?_) | (refine o_g ?_; first | refine o_u ?_ | refine o_k ?_ | refine o_n ?_ | refine o_v ?_ | ((first | refine o_G ?_ ?_ | refine o_N ?_ ?_) <;> intro hc)))) | ((fail_if_success (with_reducible refine o_s ?_)); go_step))
      go_ret
      exact ⟨by simp [rule3, h5], x1⟩
    all_goals
      go_ret
      refine ⟨?_, Ext.refl _⟩
      simp_all [rule3]
def rule4 (o : List UInt8) (l : List RSet) (s : RSet) : Bool :=
  !(cutP o l s.name).2 || decide (s.kind = 1) || decide (s.kind = 28) || (decide (s.kind = 2) && decide (s.name = (cutP o l s.name).1))
set_option maxHeartbeats 3000000 in
theorem p_right4 (o : List UInt8) (v ps pz : Value) (l : List RSet) (s : RSet) (u : Value) (w : World) (hs : Pts w ps [str s.name, .int .i64 s.kind, .int .i64 s.ttl, u]) (hz : Pts w pz [str o, v]) (hv : SetsAt w v l) : Calls Tryz.prog 124 #[pz, ps] w (RetV w (.bool (rule4 o l s))) := by
  go_enter Tryz.func124, Tryz.ntmps124
  repeat' (first | ((with_reducible refine o_s ?_); (first | (refine o_1 ?_; refine o_2 ?_) | (refine o_g ?_; first | refine o_u ?_ | refine o_k ?_ | refine o_n ?_ | refine o_v ?_ | ((first | refine o_G ?_ ?_ | refine o_N ?_ ?_) <;> intro hc)))) | ((fail_if_success (with_reducible refine o_s ?_)); go_step))
  refine wpl_callV (enters_of Tryz.func89 rfl rfl) rfl rfl (p_cut o v l s.name _ hv) ?_; intro w1 x1; refine gset ?_
  generalize hcut : cutP o l s.name = g at *
  obtain ⟨c, is⟩ := g
  have hs1 := hs.ext x1
  cases is with
  | false =>
    repeat' (first | ((with_reducible refine o_s ?_); (first | (refine o_1 ?_; refine o_2 ?_) | (refine o_g ?_; first | refine o_u ?_ | refine o_k ?_ | refine o_n ?_ | refine o_v ?_ | ((first | refine o_G ?_ ?_ | refine o_N ?_ ?_) <;> intro hc)))) | ((fail_if_success (with_reducible refine o_s ?_)); go_step))
    go_ret
    exact ⟨by simp [rule4, hcut], x1⟩
  | true =>
    repeat' (first | ((with_reducible refine o_s ?_); (first | (refine o_1 ?_; refine o_2 ?_) | (refine o_g ?_; first | refine o_u ?_ | refine o_k ?_ | refine o_n ?_ | refine o_v ?_ | ((first | refine o_G ?_ ?_ | refine o_N ?_ ?_) <;> intro hc)))) | ((fail_if_success (with_reducible refine o_s ?_)); go_step))
    all_goals
      go_ret
      refine ⟨?_, x1⟩
      simp_all [rule4]
set_option maxHeartbeats 3000000 in
/-- zone.right's last function -/
theorem p_right5 (f : Value) (b : Bool) (w : World) (hf : Rule w f b) : Calls Tryz.prog 126 #[f] w (RetV w (.bool (!b))) := by
  obtain ⟨g, caps, rfl, he, hc⟩ := hf
  go_enter Tryz.func126, Tryz.ntmps126
  repeat' (first | ((with_reducible refine o_s ?_); (first | (refine o_1 ?_; refine o_2 ?_) | (refine o_g ?_; first | refine o_u ?_ | refine o_k ?_ | refine o_n ?_ | refine o_v ?_ | ((first | refine o_G ?_ ?_ | refine o_N ?_ ?_) <;> intro hc)))) | ((fail_if_success (with_reducible refine o_s ?_)); go_step))
  refine wpl_callT he rfl rfl rfl (hc _ (Ext.refl _)) ?_
  rintro e w1 ⟨rfl, x1⟩
  refine ⟨_, rfl, ?_⟩
  refine gset ?_
  repeat' (first | ((with_reducible refine o_s ?_); (first | (refine o_1 ?_; refine o_2 ?_) | (refine o_g ?_; first | refine o_u ?_ | refine o_k ?_ | refine o_n ?_ | refine o_v ?_ | ((first | refine o_G ?_ ?_ | refine o_N ?_ ?_) <;> intro hc)))) | ((fail_if_success (with_reducible refine o_s ?_)); go_step))
  go_ret
  exact ⟨rfl, x1⟩
theorem Rule.ext {w w' : World} {f : Value} {b : Bool} (h : Rule w f b) (hx : Ext w w') : Rule w' f b := by
  obtain ⟨g, caps, h1, h2, h3⟩ := h
  exact ⟨g, caps, h1, h2, fun w2 hx2 => h3 w2 (hx.trans hx2)⟩
def fcells (l : List (Value × Bool)) : List (List Value) := l.map fun x => [x.1]
theorem fcells_length (l : List (Value × Bool)) : (fcells l).length = l.length := by simp [fcells]
theorem fcells_at {l : List (Value × Bool)} {k : Nat} (h : k < l.length) : (fcells l)[k]? = some [l[k].1] := by simp [fcells, h]
def notB (x : Value × Bool) : Bool := !x.2
set_option maxHeartbeats 3000000 in
theorem p_IndexRule (v : Value) (l : List (Value × Bool)) (w : World) (hv : Sl 1 w v (fcells l)) (hf : ∀ x ∈ l, Rule w x.1 x.2) : Calls Tryz.prog 165 #[v, .func (.func 126) #[] #[]] w (RetV w (.int .i64 (idxI notB l))) := by
  have hle := hv.le
  have hlen := fcells_length l
  go_enter Tryz.func165, Tryz.ntmps165
  repeat' (first | ((with_reducible refine o_s ?_); (first | (refine o_1 ?_; refine o_2 ?_) | (refine o_g ?_; first | refine o_u ?_ | refine o_k ?_ | refine o_n ?_ | refine o_v ?_ | ((first | refine o_G ?_ ?_ | refine o_N ?_ ?_) <;> intro hc)))) | ((fail_if_success (with_reducible refine o_s ?_)); go_step))
  go_loopw [5, 8] (fun _ i wr => ∃ k : Nat, k ≤ l.length ∧ i = .int .i64 k ∧ Ext w wr ∧ (l.take k).any notB = false) (fun _ i _ => l.length - (intOf i).toNat)
  case atStart => exact ⟨0, Nat.zero_le _, rfl, Ext.refl _, rfl⟩
  case round =>
    obtain ⟨k, hk, rfl, hx, hall⟩ := hrel
    have hv2 := hv.ext hx
    by_cases hlt : k < l.length
    · have hp := hv2.elem (fcells_at hlt)
      repeat' (first | ((with_reducible refine o_s ?_); (first | (refine o_1 ?_; refine o_2 ?_) | (refine o_g ?_; first | refine o_u ?_ | refine o_k ?_ | refine o_n ?_ | refine o_v ?_ | ((first | refine o_G ?_ ?_ | refine o_N ?_ ?_) <;> intro hc)))) | ((fail_if_success (with_reducible refine o_s ?_)); go_step))
      refine wpl_callT (f := 126) (caps := #[]) (enters_of Tryz.func126 rfl rfl) rfl rfl rfl (p_right5 l[k].1 l[k].2 _ ((hf _ (List.getElem_mem hlt)).ext hx)) ?_
      rintro e w2 ⟨rfl, x2⟩
      refine ⟨_, rfl, ?_⟩
      refine gset ?_
      cases hb : l[k].2 with
      | false =>
        repeat' (first | ((with_reducible refine o_s ?_); (first | (refine o_1 ?_; refine o_2 ?_) | (refine o_g ?_; first | refine o_u ?_ | refine o_k ?_ | refine o_n ?_ | refine o_v ?_ | ((first | refine o_G ?_ ?_ | refine o_N ?_ ?_) <;> intro hc)))) | ((fail_if_success (with_reducible refine o_s ?_)); go_step))
        go_ret
        exact ⟨by rw [idx_at hlt hall (by simp [notB, hb])]; rfl, hx.trans x2⟩
      | true =>
        repeat' (first | ((with_reducible refine o_s ?_); (first | (refine o_1 ?_; refine o_2 ?_) | (refine o_g ?_; first | refine o_u ?_ | refine o_k ?_ | refine o_n ?_ | refine o_v ?_ | ((first | refine o_G ?_ ?_ | refine o_N ?_ ?_) <;> intro hc)))) | ((fail_if_success (with_reducible refine o_s ?_)); go_step))
        exact ⟨⟨k + 1, by omega, by go_num, hx.trans x2, any_take hlt hall (by simp [notB, hb])⟩, by simp [intOf]; omega⟩
    · have : k = l.length := by omega
      subst this
      rw [List.take_length] at hall
      repeat' (first | ((with_reducible refine o_s ?_); (first | (refine o_1 ?_; refine o_2 ?_) | (refine o_g ?_; first | refine o_u ?_ | refine o_k ?_ | refine o_n ?_ | refine o_v ?_ | ((first | refine o_G ?_ ?_ | refine o_N ?_ ?_) <;> intro hc)))) | ((fail_if_success (with_reducible refine o_s ?_)); go_step))
      go_ret
      exact ⟨by rw [idx_no hall]; rfl, hx⟩
theorem p_ContainsRule (v : Value) (l : List (Value × Bool)) (w : World) (hv : Sl 1 w v (fcells l)) (hf : ∀ x ∈ l, Rule w x.1 x.2) : Calls Tryz.prog 125 #[v, .func (.func 126) #[] #[]] w (RetV w (.bool (l.any notB))) := by
  go_enter Tryz.func125, Tryz.ntmps125
  repeat' (first | ((with_reducible refine o_s ?_); (first | (refine o_1 ?_; refine o_2 ?_) | (refine o_g ?_; first | refine o_u ?_ | refine o_k ?_ | refine o_n ?_ | refine o_v ?_ | ((first | refine o_G ?_ ?_ | refine o_N ?_ ?_) <;> intro hc)))) | ((fail_if_success (with_reducible refine o_s ?_)); go_step))
  refine wpl_callV (enters_of Tryz.func165 rfl rfl) rfl rfl (p_IndexRule v l _ hv hf) ?_; intro w1 x1; refine gset ?_
  repeat' (first | ((with_reducible refine o_s ?_); (first | (refine o_1 ?_; refine o_2 ?_) | (refine o_g ?_; first | refine o_u ?_ | refine o_k ?_ | refine o_n ?_ | refine o_v ?_ | ((first | refine o_G ?_ ?_ | refine o_N ?_ ?_) <;> intro hc)))) | ((fail_if_success (with_reducible refine o_s ?_)); go_step))
  go_ret
  exact ⟨by rw [← idx_any]; rfl, x1⟩
set_option maxHeartbeats 6000000 in
/-- zone.right -/
theorem p_right (o : List UInt8) (v : Value) (l : List RSet) (s : RSet) (u : Value) (w : World) (hv : SetsAt w v l) (hu : Sl 1 w u (tcells s.data)) (hck : checkS l = 0) : Calls Tryz.prog 88 #[.agg #[str o, v], .agg #[str s.name, .int .i64 s.kind, .int .i64 s.ttl, u]] w (RetV w (.bool (rightR o l s))) := by
  have hlen := tcells_length s.data
  go_enter Tryz.func88, Tryz.ntmps88
  repeat' ((fail_if_success (with_reducible refine o_s ?_)); go_step)
  refine wpl_box (vs := [str o, v]) rfl rfl ?_
  intro pz w1 x1 hz
  refine gset ?_
  repeat' ((fail_if_success (with_reducible refine o_s ?_)); go_step)
  refine wpl_box (vs := [str s.name, .int .i64 s.kind, .int .i64 s.ttl, u]) rfl rfl ?_
  intro ps w2 x2 hs
  refine gset ?_
  have hz2 := hz.ext x2
  have hx2 := x1.trans x2
  have hu2 := hu.ext hx2
  repeat' (first | ((with_reducible refine o_s ?_); (first | (refine o_1 ?_; refine o_2 ?_) | (refine o_g ?_; first | refine o_u ?_ | refine o_k ?_ | refine o_n ?_ | refine o_v ?_ | ((first | refine o_G ?_ ?_ | refine o_N ?_ ?_) <;> intro hc)))) | ((fail_if_success (with_reducible refine o_s ?_)); go_step))
  refine wpl_allocB (z := [.bool false]) rfl (by decide +kernel) ?_
  intro w3 x3 s3 h3
  refine gset ?_
  have hone : decide (((tcells s.data).length : Int) = 1) = decide (s.data.length = 1) := by rw [hlen, Bool.eq_iff_iff]; simp; omega
  rw [hone]
  refine wpl_store1 (v := .bool (decide (s.data.length = 1))) rfl rfl rfl h3 (by decide +kernel) rfl ?_
  intro w4 p4
  have x4 : Ext w2 w4 := x3.move p4.mv (by rintro k ⟨⟩; exact Nat.le_refl _)
  have hb4 := pts_block (cs := [.bool (decide (s.data.length = 1))]) p4.this
  have hz4 := hz2.ext x4
  have hs4 := hs.ext x4
  have hx4 := hx2.trans x4
  have hv4 := hv.ext hx4
  clear p4 h3 x3
  generalize hpb : Value.pointer (some ⟨w2.heap.size, 0, none⟩) = pb at *
  repeat' (first | ((with_reducible refine o_s ?_); (first | (refine o_1 ?_; refine o_2 ?_) | (refine o_g ?_; first | refine o_u ?_ | refine o_k ?_ | refine o_n ?_ | refine o_v ?_ | ((first | refine o_G ?_ ?_ | refine o_N ?_ ?_) <;> intro hc)))) | ((fail_if_success (with_reducible refine o_s ?_)); go_step))
  have r1 : Rule w4 (.func (.func 120) #[] #[ps, pz]) (underN s.name o) := ⟨120, _, rfl, enters_of Tryz.func120 rfl rfl, fun w' hx' => p_right1 o v ps pz s u w' (hs4.ext hx') (hz4.ext hx')⟩
  have r2 : Rule w4 (.func (.func 121) #[] #[ps, pz, pb]) (rule2 o s (decide (s.data.length = 1))) := ⟨121, _, rfl, enters_of Tryz.func121 rfl rfl, fun w' hx' => p_right2 o v ps pz pb s u _ w' (hs4.ext hx') (hz4.ext hx') (hb4.ext hx')⟩
  have r3 : Rule w4 (.func (.func 122) #[] #[ps, pb, pz]) (rule3 l s (decide (s.data.length = 1))) := ⟨122, _, rfl, enters_of Tryz.func122 rfl rfl, fun w' hx' => p_right3 o v ps pz pb l s u _ w' (hs4.ext hx') (hz4.ext hx') (hb4.ext hx') (hv4.ext hx')⟩
  have r4 : Rule w4 (.func (.func 124) #[] #[pz, ps]) (rule4 o l s) := ⟨124, _, rfl, enters_of Tryz.func124 rfl rfl, fun w' hx' => p_right4 o v ps pz l s u w' (hs4.ext hx') (hz4.ext hx') (hv4.ext hx')⟩
  refine wpl_slice (e := 27) (k := 1) (bytes := 8) (xs := [.func (.func 120) #[] #[ps, pz], .func (.func 121) #[] #[ps, pz, pb], .func (.func 122) #[] #[ps, pb, pz], .func (.func 124) #[] #[pz, ps]]) rfl rfl rfl (by simp [Value.cells]) (by decide +kernel) (by simp) ?_
  intro v5 w5 x5 _ sl5 _
  refine gset ?_
  have sl5 : Sl 1 w5 v5 (fcells [(.func (.func 120) #[] #[ps, pz], underN s.name o), (.func (.func 121) #[] #[ps, pz, pb], rule2 o s (decide (s.data.length = 1))), (.func (.func 122) #[] #[ps, pb, pz], rule3 l s (decide (s.data.length = 1))), (.func (.func 124) #[] #[pz, ps], rule4 o l s)]) := sl5
  repeat' (first | ((with_reducible refine o_s ?_); (first | (refine o_1 ?_; refine o_2 ?_) | (refine o_g ?_; first | refine o_u ?_ | refine o_k ?_ | refine o_n ?_ | refine o_v ?_ | ((first | refine o_G ?_ ?_ | refine o_N ?_ ?_) <;> intro hc)))) | ((fail_if_success (with_reducible refine o_s ?_)); go_step))
  refine wpl_callV (enters_of Tryz.func125 rfl rfl) rfl rfl (p_ContainsRule v5 _ _ sl5 (by
    intro x hx
    simp only [List.mem_cons, List.not_mem_nil, or_false] at hx
    rcases hx with rfl | rfl | rfl | rfl
    · exact r1.ext x5
    · exact r2.ext x5
    · exact r3.ext x5
    · exact r4.ext x5)) ?_; intro w6 x6; refine gset ?_
  repeat' (first | ((with_reducible refine o_s ?_); (first | (refine o_1 ?_; refine o_2 ?_) | (refine o_g ?_; first | refine o_u ?_ | refine o_k ?_ | refine o_n ?_ | refine o_v ?_ | ((first | refine o_G ?_ ?_ | refine o_N ?_ ?_) <;> intro hc)))) | ((fail_if_success (with_reducible refine o_s ?_)); go_step))
  go_ret
  refine ⟨?_, (hx4.trans x5).trans x6⟩
  congr 2
  have h4 : lastR o l s = rule4 o l s := by rw [lastR, rule4, cut_eq hck]
  simp only [rightR, h4, List.any_cons, List.any_nil, notB, rule2, rule3, Bool.or_false]
  cases underN s.name o <;> cases rule4 o l s <;> simp <;> by_cases a6 : s.kind = 6 <;> by_cases a5 : s.kind = 5 <;> by_cases an : s.name = o <;> by_cases a1 : s.data.length = 1 <;> cases l.any (clash s) <;> simp_all
/-- what is found, in one form -/
def zeroS : RSet := ⟨[], 0, 0, []⟩
theorem find_one {w w' : World} {r : Value} {o : Option RSet} (h : match o with
    | some s => ∃ x, r = .tuple #[.agg #[str s.name, .int .i64 s.kind, .int .i64 s.ttl, x], .bool true] ∧ Own w.heap.size 1 9 w' x (tcells s.data)
    | none => r = .tuple #[.agg zset.toArray, .bool false]) : ∃ x, r = .tuple #[.agg #[str (o.getD zeroS).name, .int .i64 (o.getD zeroS).kind, .int .i64 (o.getD zeroS).ttl, x], .bool o.isSome] ∧ Sl 1 w' x (tcells (o.getD zeroS).data) := by
  cases o with
  | none => exact ⟨.slice none 0 0, h, Sl.nil _ _⟩
  | some s => obtain ⟨x, h1, h2⟩ := h; exact ⟨x, h1, h2.sl⟩
set_option maxHeartbeats 3000000 in
/-- zone.Check's function -/
theorem p_Check1 (o : List UInt8) (v pz : Value) (l : List RSet) (s : RSet) (u : Value) (w : World) (hz : Pts w pz [str o, v]) (hv : SetsAt w v l) (hu : Sl 1 w u (tcells s.data)) (hck : checkS l = 0) : Calls Tryz.prog 87 #[.agg #[str s.name, .int .i64 s.kind, .int .i64 s.ttl, u], pz] w (RetV w (.bool (!rightR o l s))) := by
  go_enter Tryz.func87, Tryz.ntmps87
  repeat' ((fail_if_success (with_reducible refine o_s ?_)); go_step)
  refine wpl_box (vs := [str s.name, .int .i64 s.kind, .int .i64 s.ttl, u]) rfl rfl ?_
  intro ps w1 x1 hs
  refine gset ?_
  have hz1 := hz.ext x1
  repeat' (first | ((with_reducible refine o_s ?_); (first | (refine o_1 ?_; refine o_2 ?_) | (refine o_g ?_; first | refine o_u ?_ | refine o_k ?_ | refine o_n ?_ | refine o_v ?_ | ((first | refine o_G ?_ ?_ | refine o_N ?_ ?_) <;> intro hc)))) | ((fail_if_success (with_reducible refine o_s ?_)); go_step))
  refine wpl_callV (enters_of Tryz.func88 rfl rfl) rfl rfl (p_right o v l s u _ (hv.ext x1) (hu.ext x1) hck) ?_; intro w2 x2; refine gset ?_
  repeat' (first | ((with_reducible refine o_s ?_); (first | (refine o_1 ?_; refine o_2 ?_) | (refine o_g ?_; first | refine o_u ?_ | refine o_k ?_ | refine o_n ?_ | refine o_v ?_ | ((first | refine o_G ?_ ?_ | refine o_N ?_ ?_) <;> intro hc)))) | ((fail_if_success (with_reducible refine o_s ?_)); go_step))
  go_ret
  exact ⟨rfl, x1.trans x2⟩
set_option maxHeartbeats 6000000 in
/-- zone.Check -/
theorem p_Check (o : List UInt8) (v : Value) (l : List RSet) (w : World) (hv : SetsAt w v l) (hb : ∀ s ∈ l, s.data.length ≤ 1000000) : Calls Tryz.prog 37 #[.agg #[str o, v]] w (RetV w (.int .i64 (zoneR o l))) := by
  obtain ⟨cv, hv1, hvl⟩ := hv.sl
  have hle := hv1.le
  have hb' : ∀ s ∈ l, s.data.length ≤ 8796093022208 := fun s hs => by have := hb s hs; omega
  go_enter Tryz.func37, Tryz.ntmps37
  repeat' ((fail_if_success (with_reducible refine o_s ?_)); go_step)
  refine wpl_box (vs := [str o, v]) rfl rfl ?_
  intro p w1 x1 hp
  refine gset ?_
  repeat' (first | ((with_reducible refine o_s ?_); (first | (refine o_1 ?_; refine o_2 ?_) | (refine o_g ?_; first | refine o_u ?_ | refine o_k ?_ | refine o_n ?_ | refine o_v ?_ | ((first | refine o_G ?_ ?_ | refine o_N ?_ ?_) <;> intro hc)))) | ((fail_if_success (with_reducible refine o_s ?_)); go_step))
  have c1 : ∀ w', Calls Tryz.prog 83 #[str o] w' (RetV w' (.int .i64 (checkE o))) := fun w' => t27 o w'
  have hv2 := hv.ext x1
  have c3 : ∀ w', Ext w1 w' → Calls Tryz.prog 85 #[v] w' (RetV w' (.int .i64 (checkS l))) := fun w' x' => t12 v l w' (hv2.ext x')
  refine wpq_region (by decide +kernel) (by decide +kernel) ?_
  repeat' (first | ((with_reducible refine q_s ?_); (first | (refine q_1 ?_; refine q_2 ?_) | (refine q_g ?_; first | refine q_u ?_ | refine q_k ?_ | refine q_v ?_))) | (with_reducible refine q_n ?_))
  refine wpq_call (enters_of Tryz.func83 rfl rfl) rfl rfl (fun w' _ => c1 w') ?_
  refine gset ?_
  repeat' (first | ((with_reducible refine q_s ?_); (first | (refine q_1 ?_; refine q_2 ?_) | (refine q_g ?_; first | refine q_u ?_ | refine q_k ?_ | refine q_v ?_))) | (with_reducible refine q_n ?_))
  by_cases q1 : checkE o = 0
  · rw [decide_eq_true q1]
    simp only [Bool.not_true]
    repeat' (first | ((with_reducible refine q_s ?_); (first | (refine q_1 ?_; refine q_2 ?_) | (refine q_g ?_; first | refine q_u ?_ | refine q_k ?_ | refine q_v ?_))) | (with_reducible refine q_n ?_))
    refine wpq_call (enters_of Tryz.func84 rfl rfl) rfl rfl (fun w' _ => t17 o w') ?_
    refine gset ?_
    repeat' (first | ((with_reducible refine q_s ?_); (first | (refine q_1 ?_; refine q_2 ?_) | (refine q_g ?_; first | refine q_u ?_ | refine q_k ?_ | refine q_v ?_))) | (with_reducible refine q_n ?_))
    by_cases q2 : fold o = o
    · rw [decide_eq_true q2]
      simp only [Bool.not_true]
      repeat' (first | ((with_reducible refine q_s ?_); (first | (refine q_1 ?_; refine q_2 ?_) | (refine q_g ?_; first | refine q_u ?_ | refine q_k ?_ | refine q_v ?_))) | (with_reducible refine q_n ?_))
      refine wpq_call (enters_of Tryz.func85 rfl rfl) rfl rfl (fun w' x' => c3 w' x') ?_
      refine gset ?_
      repeat' (first | ((with_reducible refine q_s ?_); (first | (refine q_1 ?_; refine q_2 ?_) | (refine q_g ?_; first | refine q_u ?_ | refine q_k ?_ | refine q_v ?_))) | (with_reducible refine q_n ?_))
      intro w2 x2
      by_cases q3 : checkS l = 0
      · rw [decide_eq_true q3]
        simp only [Bool.not_true]
        have hx2 := x1.trans x2
        have hp2 := hp.ext x2
        have hs2 := hv.ext hx2
        repeat' (first | ((with_reducible refine o_s ?_); (first | (refine o_1 ?_; refine o_2 ?_) | (refine o_g ?_; first | refine o_u ?_ | refine o_k ?_ | refine o_n ?_ | refine o_v ?_ | ((first | refine o_G ?_ ?_ | refine o_N ?_ ?_) <;> intro hc)))) | ((fail_if_success (with_reducible refine o_s ?_)); go_step))
        refine wpl_callR (enters_of Tryz.func40 rfl rfl) rfl rfl (t13 v l o 6 _ hs2 hb') ?_
        intro r3 w3 x3 hr3
        obtain ⟨y3, rfl, hy3⟩ := find_one hr3
        clear hr3
        repeat' (first | ((with_reducible refine o_s ?_); (first | (refine o_1 ?_; refine o_2 ?_) | (refine o_g ?_; first | refine o_u ?_ | refine o_k ?_ | refine o_n ?_ | refine o_v ?_ | ((first | refine o_G ?_ ?_ | refine o_N ?_ ?_) <;> intro hc)))) | ((fail_if_success (with_reducible refine o_s ?_)); go_step))
        refine wpl_allocB (z := zset) rfl (by decide +kernel) ?_
        intro w4 x4 s4 h4
        refine gset ?_
        refine wpl_storeB rfl rfl rfl h4 (show sizeTy Tryz.prog 55 4 = true by decide +kernel) rfl (all4 rfl rfl rfl (hy3.one)) ?_
        intro w5 p5
        have x5 : Ext w3 w5 := x4.move p5.mv (by rintro k ⟨⟩; exact Nat.le_refl _)
        have hx5 := hx2.trans (x3.trans x5)
        have hp5 := hp.ext (x2.trans (x3.trans x5))
        have hs5 := hv.ext hx5
        clear p5 h4 x4
        repeat' (first | ((with_reducible refine o_s ?_); (first | (refine o_1 ?_; refine o_2 ?_) | (refine o_g ?_; first | refine o_u ?_ | refine o_k ?_ | refine o_n ?_ | refine o_v ?_ | ((first | refine o_G ?_ ?_ | refine o_N ?_ ?_) <;> intro hc)))) | ((fail_if_success (with_reducible refine o_s ?_)); go_step))
        refine wpl_callR (enters_of Tryz.func40 rfl rfl) rfl rfl (t13 v l o 2 _ hs5 hb') ?_
        intro r6 w6 x6 hr6
        obtain ⟨y6, rfl, hy6⟩ := find_one hr6
        clear hr6
        repeat' (first | ((with_reducible refine o_s ?_); (first | (refine o_1 ?_; refine o_2 ?_) | (refine o_g ?_; first | refine o_u ?_ | refine o_k ?_ | refine o_n ?_ | refine o_v ?_ | ((first | refine o_G ?_ ?_ | refine o_N ?_ ?_) <;> intro hc)))) | ((fail_if_success (with_reducible refine o_s ?_)); go_step))
        refine wpl_allocB (z := zset) rfl (by decide +kernel) ?_
        intro w7 x7 s7 h7
        refine gset ?_
        refine wpl_storeB rfl rfl rfl h7 (show sizeTy Tryz.prog 55 4 = true by decide +kernel) rfl (all4 rfl rfl rfl (hy6.one)) ?_
        intro w8 p8
        have x8 : Ext w6 w8 := x7.move p8.mv (by rintro k ⟨⟩; exact Nat.le_refl _)
        have hx8 := hx5.trans (x6.trans x8)
        have hp8 := hp5.ext (x6.trans x8)
        have hs8 := hv.ext hx8
        clear p8 h7 x7
        cases f6 : (findS l o 6).isSome with
        | false =>
          repeat' (first | ((with_reducible refine o_s ?_); (first | (refine o_1 ?_; refine o_2 ?_) | (refine o_g ?_; first | refine o_u ?_ | refine o_k ?_ | refine o_n ?_ | refine o_v ?_ | ((first | refine o_G ?_ ?_ | refine o_N ?_ ?_) <;> intro hc)))) | ((fail_if_success (with_reducible refine o_s ?_)); go_step))
          go_ret
          exact ⟨by rw [show zoneR o l = 2 by simp [zoneR, q1, q2, q3, f6]]; rfl, hx8⟩
        | true =>
          cases f2 : (findS l o 2).isSome with
          | false =>
            repeat' (first | ((with_reducible refine o_s ?_); (first | (refine o_1 ?_; refine o_2 ?_) | (refine o_g ?_; first | refine o_u ?_ | refine o_k ?_ | refine o_n ?_ | refine o_v ?_ | ((first | refine o_G ?_ ?_ | refine o_N ?_ ?_) <;> intro hc)))) | ((fail_if_success (with_reducible refine o_s ?_)); go_step))
            go_ret
            exact ⟨by rw [show zoneR o l = 2 by simp [zoneR, q1, q2, q3, f6, f2]]; rfl, hx8⟩
          | true =>
            repeat' (first | ((with_reducible refine o_s ?_); (first | (refine o_1 ?_; refine o_2 ?_) | (refine o_g ?_; first | refine o_u ?_ | refine o_k ?_ | refine o_n ?_ | refine o_v ?_ | ((first | refine o_G ?_ ?_ | refine o_N ?_ ?_) <;> intro hc)))) | ((fail_if_success (with_reducible refine o_s ?_)); go_step))
            have hf : SetFn w8 87 #[p] l (fun s => !rightR o l s) := fun s _ x w' hx' hd' => p_Check1 o v p l s x w' (hp8.ext hx') (hs8.ext hx') hd' q3
            refine wpl_callV (enters_of Tryz.func86 rfl rfl) rfl rfl (p_ContainsFunc v l 87 #[p] (fun s => !rightR o l s) _ hs8 (enters_of Tryz.func87 rfl rfl) hf) ?_; intro w9 x9; refine gset ?_
            cases ha : l.any (fun s => !rightR o l s) with
            | true =>
              repeat' (first | ((with_reducible refine o_s ?_); (first | (refine o_1 ?_; refine o_2 ?_) | (refine o_g ?_; first | refine o_u ?_ | refine o_k ?_ | refine o_n ?_ | refine o_v ?_ | ((first | refine o_G ?_ ?_ | refine o_N ?_ ?_) <;> intro hc)))) | ((fail_if_success (with_reducible refine o_s ?_)); go_step))
              go_ret
              exact ⟨by rw [show zoneR o l = 2 by simp only [zoneR, q1, q2, q3, f6, f2, ha]; simp]; rfl, hx8.trans x9⟩
            | false =>
              repeat' (first | ((with_reducible refine o_s ?_); (first | (refine o_1 ?_; refine o_2 ?_) | (refine o_g ?_; first | refine o_u ?_ | refine o_k ?_ | refine o_n ?_ | refine o_v ?_ | ((first | refine o_G ?_ ?_ | refine o_N ?_ ?_) <;> intro hc)))) | ((fail_if_success (with_reducible refine o_s ?_)); go_step))
              go_ret
              exact ⟨by rw [show zoneR o l = 0 by simp only [zoneR, q1, q2, q3, f6, f2, ha]; simp]; rfl, hx8.trans x9⟩
      · rw [decide_eq_false q3]
        simp only [Bool.not_false]
        repeat' (first | ((with_reducible refine o_s ?_); (first | (refine o_1 ?_; refine o_2 ?_) | (refine o_g ?_; first | refine o_u ?_ | refine o_k ?_ | refine o_n ?_ | refine o_v ?_ | ((first | refine o_G ?_ ?_ | refine o_N ?_ ?_) <;> intro hc)))) | ((fail_if_success (with_reducible refine o_s ?_)); go_step))
        go_ret
        exact ⟨by rw [show zoneR o l = 1 by simp [zoneR, q3]]; rfl, x1.trans x2⟩
    · rw [decide_eq_false q2]
      simp only [Bool.not_false]
      repeat' (first | ((with_reducible refine q_s ?_); (first | (refine q_1 ?_; refine q_2 ?_) | (refine q_g ?_; first | refine q_u ?_ | refine q_k ?_ | refine q_v ?_))) | (with_reducible refine q_n ?_))
      intro w2 x2
      repeat' (first | ((with_reducible refine o_s ?_); (first | (refine o_1 ?_; refine o_2 ?_) | (refine o_g ?_; first | refine o_u ?_ | refine o_k ?_ | refine o_n ?_ | refine o_v ?_ | ((first | refine o_G ?_ ?_ | refine o_N ?_ ?_) <;> intro hc)))) | ((fail_if_success (with_reducible refine o_s ?_)); go_step))
      go_ret
      exact ⟨by rw [show zoneR o l = 1 by simp [zoneR, q2]]; rfl, x1.trans x2⟩
  · rw [decide_eq_false q1]
    simp only [Bool.not_false]
    repeat' (first | ((with_reducible refine q_s ?_); (first | (refine q_1 ?_; refine q_2 ?_) | (refine q_g ?_; first | refine q_u ?_ | refine q_k ?_ | refine q_v ?_))) | (with_reducible refine q_n ?_))
    intro w2 x2
    repeat' (first | ((with_reducible refine o_s ?_); (first | (refine o_1 ?_; refine o_2 ?_) | (refine o_g ?_; first | refine o_u ?_ | refine o_k ?_ | refine o_n ?_ | refine o_v ?_ | ((first | refine o_G ?_ ?_ | refine o_N ?_ ?_) <;> intro hc)))) | ((fail_if_success (with_reducible refine o_s ?_)); go_step))
    go_ret
    exact ⟨by rw [show zoneR o l = 1 by simp [zoneR, q1]]; rfl, x1.trans x2⟩
set_option maxHeartbeats 3000000 in
/-- zone.Cut -/
theorem p_Cut (o : List UInt8) (v : Value) (l : List RSet) (n : List UInt8) (w : World) (hv : SetsAt w v l) (hb : ∀ s ∈ l, s.data.length ≤ 1000000) : Calls Tryz.prog 39 #[.agg #[str o, v], str n] w (RetV w (.tuple (if zoneR o l = 0 then #[str (cutR o l n).1, .bool (cutR o l n).2] else #[str [], .bool false]))) := by
  go_enter Tryz.func39, Tryz.ntmps39
  repeat' ((fail_if_success (with_reducible refine o_s ?_)); go_step)
  refine wpl_box (vs := [str o, v]) rfl rfl ?_
  intro p w1 x1 hp
  refine gset ?_
  have hv1 := hv.ext x1
  repeat' (first | ((with_reducible refine o_s ?_); (first | (refine o_1 ?_; refine o_2 ?_) | (refine o_g ?_; first | refine o_u ?_ | refine o_k ?_ | refine o_n ?_ | refine o_v ?_ | ((first | refine o_G ?_ ?_ | refine o_N ?_ ?_) <;> intro hc)))) | ((fail_if_success (with_reducible refine o_s ?_)); go_step))
  refine wpl_callV (enters_of Tryz.func37 rfl rfl) rfl rfl (p_Check o v l _ hv1 hb) ?_; intro w2 x2; refine gset ?_
  have hx2 := x1.trans x2
  have hp2 := hp.ext x2
  have hv2 := hv1.ext x2
  repeat' (first | ((with_reducible refine o_s ?_); (first | (refine o_1 ?_; refine o_2 ?_) | (refine o_g ?_; first | refine o_u ?_ | refine o_k ?_ | refine o_n ?_ | refine o_v ?_ | ((first | refine o_G ?_ ?_ | refine o_N ?_ ?_) <;> intro hc)))) | ((fail_if_success (with_reducible refine o_s ?_)); go_step))
  · rename_i q
    have q' : ¬ zoneR o l = 0 := by simpa using q
    go_ret2
    exact ⟨by rw [if_neg q']; rfl, hx2⟩
  · have q' : zoneR o l = 0 := by simpa using (by assumption : (!decide (zoneR o l = 0)) = false)
    refine wpl_callV (enters_of Tryz.func89 rfl rfl) rfl rfl (p_cut o v l n _ hv2) ?_; intro w3 x3; refine gset ?_
    repeat' (first | ((with_reducible refine o_s ?_); (first | (refine o_1 ?_; refine o_2 ?_) | (refine o_g ?_; first | refine o_u ?_ | refine o_k ?_ | refine o_n ?_ | refine o_v ?_ | ((first | refine o_G ?_ ?_ | refine o_N ?_ ?_) <;> intro hc)))) | ((fail_if_success (with_reducible refine o_s ?_)); go_step))
    go_ret2
    exact ⟨by rw [if_pos q', cut_eq (zone_ok q').chk]; rfl, hx2.trans x3⟩
/-- zone.Exists's function -/
theorem p_Exists1 (pn : Value) (n : List UInt8) (s : RSet) (u : Value) (w : World) (hn : Pts w pn [str n]) : Calls Tryz.prog 99 #[.agg #[str s.name, .int .i64 s.kind, .int .i64 s.ttl, u], pn] w (RetV w (.bool (underN s.name n))) := by
  go_enter Tryz.func99, Tryz.ntmps99
  repeat' ((fail_if_success (with_reducible refine o_s ?_)); go_step)
  refine wpl_box (vs := [str s.name, .int .i64 s.kind, .int .i64 s.ttl, u]) rfl rfl ?_
  intro ps w1 x1 hs
  refine gset ?_
  have hn1 := hn.ext x1
  repeat' (first | ((with_reducible refine o_s ?_); (first | (refine o_1 ?_; refine o_2 ?_) | (refine o_g ?_; first | refine o_u ?_ | refine o_k ?_ | refine o_n ?_ | refine o_v ?_ | ((first | refine o_G ?_ ?_ | refine o_N ?_ ?_) <;> intro hc)))) | ((fail_if_success (with_reducible refine o_s ?_)); go_step))
  refine wpl_callV (enters_of Tryz.func98 rfl rfl) rfl rfl (p_Under s.name n _) ?_; intro w2 x2; refine gset ?_
  repeat' (first | ((with_reducible refine o_s ?_); (first | (refine o_1 ?_; refine o_2 ?_) | (refine o_g ?_; first | refine o_u ?_ | refine o_k ?_ | refine o_n ?_ | refine o_v ?_ | ((first | refine o_G ?_ ?_ | refine o_N ?_ ?_) <;> intro hc)))) | ((fail_if_success (with_reducible refine o_s ?_)); go_step))
  go_ret
  exact ⟨rfl, x1.trans x2⟩
set_option maxHeartbeats 3000000 in
/-- zone.Exists -/
theorem p_Exists (o : List UInt8) (v : Value) (l : List RSet) (n : List UInt8) (w : World) (hv : SetsAt w v l) (hb : ∀ s ∈ l, s.data.length ≤ 1000000) : Calls Tryz.prog 49 #[.agg #[str o, v], str n] w (RetV w (.bool (decide (zoneR o l = 0) && thereS o l n))) := by
  go_enter Tryz.func49, Tryz.ntmps49
  repeat' ((fail_if_success (with_reducible refine o_s ?_)); go_step)
  refine wpl_box (vs := [str o, v]) rfl rfl ?_
  intro p w1 x1 hp
  refine gset ?_
  repeat' ((fail_if_success (with_reducible refine o_s ?_)); go_step)
  refine wpl_box (vs := [str n]) rfl rfl ?_
  intro pn w2 x2 hn
  refine gset ?_
  have hx2 := x1.trans x2
  have hp2 := hp.ext x2
  have hv2 := hv.ext hx2
  repeat' (first | ((with_reducible refine o_s ?_); (first | (refine o_1 ?_; refine o_2 ?_) | (refine o_g ?_; first | refine o_u ?_ | refine o_k ?_ | refine o_n ?_ | refine o_v ?_ | ((first | refine o_G ?_ ?_ | refine o_N ?_ ?_) <;> intro hc)))) | ((fail_if_success (with_reducible refine o_s ?_)); go_step))
  refine wpl_callV (enters_of Tryz.func37 rfl rfl) rfl rfl (p_Check o v l _ hv2 hb) ?_; intro w3 x3; refine gset ?_
  have hx3 := hx2.trans x3
  have hp3 := hp2.ext x3
  have hn3 := hn.ext x3
  have hv3 := hv2.ext x3
  repeat' (first | ((with_reducible refine o_s ?_); (first | (refine o_1 ?_; refine o_2 ?_) | (refine o_g ?_; first | refine o_u ?_ | refine o_k ?_ | refine o_n ?_ | refine o_v ?_ | ((first | refine o_G ?_ ?_ | refine o_N ?_ ?_) <;> intro hc)))) | ((fail_if_success (with_reducible refine o_s ?_)); go_step))
  · have q : zoneR o l = 0 := hc
    refine wpl_callV (enters_of Tryz.func98 rfl rfl) rfl rfl (p_Under n o _) ?_; intro w4 x4; refine gset ?_
    have hx4 := hx3.trans x4
    have hp4 := hp3.ext x4
    have hn4 := hn3.ext x4
    have hv4 := hv3.ext x4
    cases hu : underN n o with
    | false =>
      repeat' (first | ((with_reducible refine o_s ?_); (first | (refine o_1 ?_; refine o_2 ?_) | (refine o_g ?_; first | refine o_u ?_ | refine o_k ?_ | refine o_n ?_ | refine o_v ?_ | ((first | refine o_G ?_ ?_ | refine o_N ?_ ?_) <;> intro hc)))) | ((fail_if_success (with_reducible refine o_s ?_)); go_step))
      go_ret
      exact ⟨by simp [q, thereS, hu], hx4⟩
    | true =>
      repeat' (first | ((with_reducible refine o_s ?_); (first | (refine o_1 ?_; refine o_2 ?_) | (refine o_g ?_; first | refine o_u ?_ | refine o_k ?_ | refine o_n ?_ | refine o_v ?_ | ((first | refine o_G ?_ ?_ | refine o_N ?_ ?_) <;> intro hc)))) | ((fail_if_success (with_reducible refine o_s ?_)); go_step))
      have hf : SetFn w4 99 #[pn] l (fun s => underN s.name n) := fun s _ x w' hx' _ => p_Exists1 pn n s x w' (hn4.ext hx')
      refine wpl_callV (enters_of Tryz.func86 rfl rfl) rfl rfl (p_ContainsFunc v l 99 #[pn] (fun s => underN s.name n) _ hv4 (enters_of Tryz.func99 rfl rfl) hf) ?_; intro w5 x5; refine gset ?_
      repeat' (first | ((with_reducible refine o_s ?_); (first | (refine o_1 ?_; refine o_2 ?_) | (refine o_g ?_; first | refine o_u ?_ | refine o_k ?_ | refine o_n ?_ | refine o_v ?_ | ((first | refine o_G ?_ ?_ | refine o_N ?_ ?_) <;> intro hc)))) | ((fail_if_success (with_reducible refine o_s ?_)); go_step))
      go_ret
      exact ⟨by simp [q, thereS, hu], hx4.trans x5⟩
  · have q : ¬ zoneR o l = 0 := hc
    go_ret
    exact ⟨by rw [decide_eq_false q]; rfl, hx3⟩
/-! ### a zone's beginning of authority -/
theorem may_at {s : RSet} (h : mayS s = true) {i : Nat} (hi : i < s.data.length) : checkR ⟨s.name, s.kind, s.ttl, s.data[i]⟩ = 0 := by
  simp only [mayS, Bool.and_eq_true, List.all_eq_true] at h
  have := h.2 i (by simpa using hi)
  simp only [badAt, Bool.not_eq_true', Bool.or_eq_false_iff, decide_eq_false_iff_not, ne_eq, Decidable.not_not] at this
  have e : s.data.getD i [] = s.data[i] := by simp [hi]
  rw [e] at this
  exact this.1
theorem checkR_data {r : Rec} (h : checkR r = 0) : r.data.length ≤ 4000 ∧ fits r.kind r.data = true := by
  unfold checkR at h
  split at h
  · omega
  · split at h
    · omega
    · rename_i h2
      simp only [not_or, Bool.not_eq_false] at h2
      exact ⟨by omega, h2.2.2.2.2.2⟩
def zR : SoaR := ⟨[], [], 0, 0, 0, 0, 0⟩
theorem zR_cells : zR.cells = zeroSoa := rfl
/-- the datum of the set at the origin -/
def soaD (o : List UInt8) (l : List RSet) : List UInt8 := ((findS l o 6).getD zeroS).data.getD 0 []
def soaZ (o : List UInt8) (l : List RSet) : SoaR := if zoneR o l = 0 then soaOf (soaD o l) else zR
theorem parse_some {d : List UInt8} (h : (parseSoa d).isSome = true) : parseSoa d = some (soaOf d) := by
  unfold parseSoa at *
  simp only at *
  split at h
  · rename_i h1; rw [if_pos h1]
  · cases h
theorem ZoneOk.soaSet {o : List UInt8} {l : List RSet} (h : ZoneOk o l) : ∃ s, findS l o 6 = some s ∧ s ∈ l ∧ s.name = o ∧ s.kind = 6 ∧ s.data = [soaD o l] ∧ parseSoa (soaD o l) = some (soaOf (soaD o l)) ∧ (soaD o l).length ≤ 4000 := by
  obtain ⟨s, hs⟩ := Option.isSome_iff_exists.1 h.soa
  obtain ⟨h1, h2, h3⟩ := findS_mem hs
  have hr := h.right s h1
  have hm := h.may h1
  have hl : s.data.length = 1 := by
    simp only [rightR, Bool.and_eq_true, Bool.not_eq_true', h3] at hr
    have := hr.1.1.2
    simp only [decide_true, Bool.true_and, Bool.or_eq_false_iff, decide_eq_false_iff_not, ne_eq, Decidable.not_not] at this
    exact this.2
  have hd : s.data = [soaD o l] := by
    have e : soaD o l = s.data.getD 0 [] := by rw [soaD, hs]; rfl
    rw [e]
    match s.data, hl with
    | [d], _ => rfl
  have hc := may_at hm (i := 0) (by omega)
  obtain ⟨c1, c2⟩ := checkR_data hc
  have e0 : s.data[0]'(by omega) = soaD o l := by simp [hd]
  simp only [e0, h3] at c1 c2
  refine ⟨s, hs, h1, by rw [h2, h.fold], h3, hd, parse_some ?_, c1⟩
  simpa [fits] using c2
theorem soaR_one (s : SoaR) : (Value.agg s.cells.toArray).cells.all (·.oneCell') = true := by
  simp [SoaR.cells, Value.cells, Value.oneCell', str]
set_option maxHeartbeats 3000000 in
/-- zone.Soa -/
theorem p_Soa (o : List UInt8) (v : Value) (l : List RSet) (w : World) (hv : SetsAt w v l) (hb : ∀ s ∈ l, s.data.length ≤ 1000000) (hd : ∀ s ∈ l, ∀ d ∈ s.data, d.length ≤ 4611686018427387904) : Calls Tryz.prog 63 #[.agg #[str o, v]] w (RetV w (.tuple #[.agg (soaZ o l).cells.toArray, .int .i64 (zoneR o l)])) := by
  go_enter Tryz.func63, Tryz.ntmps63
  repeat' ((fail_if_success (with_reducible refine o_s ?_)); go_step)
  refine wpl_box (vs := [str o, v]) rfl rfl ?_
  intro p w1 x1 hp
  refine gset ?_
  refine wpl_allocB (z := zeroSoa) rfl (by decide +kernel) ?_
  intro w2 x2 s2 h2
  refine gset ?_
  have hx2 := x1.trans x2
  have hp2 := hp.ext x2
  have hv2 := hv.ext hx2
  repeat' (first | ((with_reducible refine o_s ?_); (first | (refine o_1 ?_; refine o_2 ?_) | (refine o_g ?_; first | refine o_u ?_ | refine o_k ?_ | refine o_n ?_ | refine o_v ?_ | ((first | refine o_G ?_ ?_ | refine o_N ?_ ?_) <;> intro hc)))) | ((fail_if_success (with_reducible refine o_s ?_)); go_step))
  refine wpl_callV (enters_of Tryz.func37 rfl rfl) rfl rfl (p_Check o v l _ hv2 hb) ?_; intro w3 x3; refine gset ?_
  have hx3 := hx2.trans x3
  have hp3 := hp2.ext x3
  have hv3 := hv2.ext x3
  have h3 := x3.at h2
  repeat' (first | ((with_reducible refine o_s ?_); (first | (refine o_1 ?_; refine o_2 ?_) | (refine o_g ?_; first | refine o_u ?_ | refine o_k ?_ | refine o_n ?_ | refine o_v ?_ | ((first | refine o_G ?_ ?_ | refine o_N ?_ ?_) <;> intro hc)))) | ((fail_if_success (with_reducible refine o_s ?_)); go_step))
  · have q : ¬ zoneR o l = 0 := by simpa using (by assumption : (!decide (zoneR o l = 0)) = true)
    refine wpl_run (v := .agg zeroSoa.toArray) rfl (Runs.build0 (by kernel_rfl)) ?_
    refine gset ?_
    repeat' (first | ((with_reducible refine o_s ?_); (first | (refine o_1 ?_; refine o_2 ?_) | (refine o_g ?_; first | refine o_u ?_ | refine o_k ?_ | refine o_n ?_ | refine o_v ?_ | ((first | refine o_G ?_ ?_ | refine o_N ?_ ?_) <;> intro hc)))) | ((fail_if_success (with_reducible refine o_s ?_)); go_step))
    refine wpl_storeB (v := .agg zeroSoa.toArray) rfl rfl rfl h3 (by decide +kernel) rfl (by decide +kernel) ?_
    intro w4 p4
    have x4 : Ext w w4 := hx3.move p4.mv (by rintro k ⟨⟩; exact x1.size)
    repeat' (first | ((with_reducible refine o_s ?_); (first | (refine o_1 ?_; refine o_2 ?_) | (refine o_g ?_; first | refine o_u ?_ | refine o_k ?_ | refine o_n ?_ | refine o_v ?_ | ((first | refine o_G ?_ ?_ | refine o_N ?_ ?_) <;> intro hc)))) | ((fail_if_success (with_reducible refine o_s ?_)); go_step))
    refine bodyPost_ret (results_cellT (cs := zeroSoa) rfl rfl p4.this (by decide +kernel)) rfl ⟨?_, x4⟩
    rw [show soaZ o l = zR by rw [soaZ, if_neg q], zR_cells]
    rfl
  · have q : zoneR o l = 0 := by simpa using (by assumption : (!decide (zoneR o l = 0)) = false)
    obtain ⟨s, hf, hs, hn, hk, hdat, hpar, hlen⟩ := (zone_ok q).soaSet
    have hZ : soaZ o l = soaOf (soaD o l) := by rw [soaZ, if_pos q]
    have hP : ∀ w', Calls Tryz.prog 106 #[str (soaD o l)] w' (RetV w' (.tuple #[.agg (soaOf (soaD o l)).cells.toArray, .int .i64 0])) := fun w' => by
      have := t38 (soaD o l) w' (by omega)
      rw [hpar] at this
      exact this
    clear hpar
    generalize soaD o l = dd at *
    generalize hgen : soaOf dd = ss at *
    refine wpl_callR (enters_of Tryz.func40 rfl rfl) rfl rfl (t13 v l o 6 _ hv3 (fun s hs => by have := hb s hs; omega)) ?_
    intro r4 w4 x4 hr4
    rw [hf] at hr4
    obtain ⟨y, rfl, oy⟩ := hr4
    have hx4 := hx3.trans x4
    repeat' (first | ((with_reducible refine o_s ?_); (first | (refine o_1 ?_; refine o_2 ?_) | (refine o_g ?_; first | refine o_u ?_ | refine o_k ?_ | refine o_n ?_ | refine o_v ?_ | ((first | refine o_G ?_ ?_ | refine o_N ?_ ?_) <;> intro hc)))) | ((fail_if_success (with_reducible refine o_s ?_)); go_step))
    refine wpl_allocB (z := zset) rfl (by decide +kernel) ?_
    intro w5 x5 s5 h5
    refine gset ?_
    refine wpl_storeB (v := .agg #[str s.name, .int .i64 s.kind, .int .i64 s.ttl, y]) rfl rfl rfl h5 (show sizeTy Tryz.prog 55 4 = true by decide +kernel) rfl (all4 rfl rfl rfl oy.one) ?_
    intro w6 p6
    have x6 : Ext w4 w6 := x5.move p6.mv (by rintro k ⟨⟩; exact Nat.le_refl _)
    have hp6 := pts_block (cs := [str s.name, .int .i64 s.kind, .int .i64 s.ttl, y]) p6.this
    have hy6 := oy.sl.ext x6
    rw [hdat] at hy6
    have hx6 := hx4.trans x6
    have h6 := (x4.trans x6).at h3
    have hy0 := hy6.elem (i := 0) (e := [str dd]) rfl
    clear p6 h5 x5
    have hl1 : (tcells [dd]).length = 1 := rfl
    repeat' (first | ((with_reducible refine o_s ?_); (first | (refine o_1 ?_; refine o_2 ?_) | (refine o_g ?_; first | refine o_u ?_ | refine o_k ?_ | refine o_n ?_ | refine o_v ?_ | ((first | refine o_G ?_ ?_ | refine o_N ?_ ?_) <;> intro hc)))) | ((fail_if_success (with_reducible refine o_s ?_)); go_step))
    refine wpl_callV (enters_of Tryz.func106 rfl rfl) rfl rfl (hP _) ?_; intro w7 x7; refine gset ?_
    have h7 := x7.at h6
    repeat' (first | ((with_reducible refine o_s ?_); (first | (refine o_1 ?_; refine o_2 ?_) | (refine o_g ?_; first | refine o_u ?_ | refine o_k ?_ | refine o_n ?_ | refine o_v ?_ | ((first | refine o_G ?_ ?_ | refine o_N ?_ ?_) <;> intro hc)))) | ((fail_if_success (with_reducible refine o_s ?_)); go_step))
    refine wpl_storeB (v := .agg ss.cells.toArray) rfl rfl rfl h7 (show sizeTy Tryz.prog 103 7 = true by decide +kernel) rfl (soaR_one _) ?_
    intro w8 p8
    have x8 : Ext w w8 := (hx6.trans x7).move p8.mv (by rintro k ⟨⟩; exact x1.size)
    repeat' (first | ((with_reducible refine o_s ?_); (first | (refine o_1 ?_; refine o_2 ?_) | (refine o_g ?_; first | refine o_u ?_ | refine o_k ?_ | refine o_n ?_ | refine o_v ?_ | ((first | refine o_G ?_ ?_ | refine o_N ?_ ?_) <;> intro hc)))) | ((fail_if_success (with_reducible refine o_s ?_)); go_step))
    refine bodyPost_ret (results_cellT (cs := ss.cells) rfl rfl p8.this (show aggTy Tryz.prog 103 7 = true by decide +kernel)) rfl ⟨?_, x8⟩
    rw [hZ, q]
    rfl
set_option maxHeartbeats 3000000 in
/-- lodestarref08.Soa -/
theorem r8_Soa (o : List UInt8) (v : Value) (l : List RSet) (w : World) (hv : SetsAt w v l) (hb : ∀ s ∈ l, s.data.length ≤ 1000000) (hd : ∀ s ∈ l, ∀ d ∈ s.data, d.length ≤ 4611686018427387904) : Calls Tryz.prog 68 #[.agg #[str o, v]] w (RetV w (.tuple #[.agg (soaZ o l).cells.toArray, .int .i64 (zoneR o l)])) := by
  go_enter Tryz.func68, Tryz.ntmps68
  repeat' ((fail_if_success (with_reducible refine o_s ?_)); go_step)
  refine wpl_box (vs := [str o, v]) rfl rfl ?_
  intro p w1 x1 hp
  refine gset ?_
  refine wpl_allocB (z := zeroSoa) rfl (by decide +kernel) ?_
  intro w2 x2 s2 h2
  refine gset ?_
  have hx2 := x1.trans x2
  have hp2 := hp.ext x2
  have hv2 := hv.ext hx2
  repeat' (first | ((with_reducible refine o_s ?_); (first | (refine o_1 ?_; refine o_2 ?_) | (refine o_g ?_; first | refine o_u ?_ | refine o_k ?_ | refine o_n ?_ | refine o_v ?_ | ((first | refine o_G ?_ ?_ | refine o_N ?_ ?_) <;> intro hc)))) | ((fail_if_success (with_reducible refine o_s ?_)); go_step))
  refine wpl_callV (enters_of Tryz.func101 rfl rfl) rfl rfl (r8_Check o v l _ hv2 hb hd) ?_; intro w3 x3; refine gset ?_
  have hx3 := hx2.trans x3
  have hp3 := hp2.ext x3
  have hv3 := hv2.ext x3
  have h3 := x3.at h2
  repeat' (first | ((with_reducible refine o_s ?_); (first | (refine o_1 ?_; refine o_2 ?_) | (refine o_g ?_; first | refine o_u ?_ | refine o_k ?_ | refine o_n ?_ | refine o_v ?_ | ((first | refine o_G ?_ ?_ | refine o_N ?_ ?_) <;> intro hc)))) | ((fail_if_success (with_reducible refine o_s ?_)); go_step))
  · have q : ¬ zoneR o l = 0 := by simpa using (by assumption : (!decide (zoneR o l = 0)) = true)
    refine wpl_run (v := .agg zeroSoa.toArray) rfl (Runs.build0 (by kernel_rfl)) ?_
    refine gset ?_
    repeat' (first | ((with_reducible refine o_s ?_); (first | (refine o_1 ?_; refine o_2 ?_) | (refine o_g ?_; first | refine o_u ?_ | refine o_k ?_ | refine o_n ?_ | refine o_v ?_ | ((first | refine o_G ?_ ?_ | refine o_N ?_ ?_) <;> intro hc)))) | ((fail_if_success (with_reducible refine o_s ?_)); go_step))
    refine wpl_storeB (v := .agg zeroSoa.toArray) rfl rfl rfl h3 (by decide +kernel) rfl (by decide +kernel) ?_
    intro w4 p4
    have x4 : Ext w w4 := hx3.move p4.mv (by rintro k ⟨⟩; exact x1.size)
    repeat' (first | ((with_reducible refine o_s ?_); (first | (refine o_1 ?_; refine o_2 ?_) | (refine o_g ?_; first | refine o_u ?_ | refine o_k ?_ | refine o_n ?_ | refine o_v ?_ | ((first | refine o_G ?_ ?_ | refine o_N ?_ ?_) <;> intro hc)))) | ((fail_if_success (with_reducible refine o_s ?_)); go_step))
    refine bodyPost_ret (results_cellT (cs := zeroSoa) rfl rfl p4.this (by decide +kernel)) rfl ⟨?_, x4⟩
    rw [show soaZ o l = zR by rw [soaZ, if_neg q], zR_cells]
    rfl
  · have q : zoneR o l = 0 := by simpa using (by assumption : (!decide (zoneR o l = 0)) = false)
    obtain ⟨s, hf, hs, hn, hk, hdat, hpar, hlen⟩ := (zone_ok q).soaSet
    have hZ : soaZ o l = soaOf (soaD o l) := by rw [soaZ, if_pos q]
    have hP : ∀ w', Calls Tryz.prog 110 #[str (soaD o l)] w' (RetV w' (.tuple #[.agg (soaOf (soaD o l)).cells.toArray, .int .i64 0])) := fun w' => by
      have := r3_ParseSoa (soaD o l) w' (by omega)
      rw [hpar] at this
      exact this
    clear hpar
    generalize soaD o l = dd at *
    generalize hgen : soaOf dd = ss at *
    refine wpl_callR (enters_of Tryz.func48 rfl rfl) rfl rfl (r7_Find v l o 6 _ hv3 hb) ?_
    intro r4 w4 x4 hr4
    rw [hf] at hr4
    obtain ⟨y, rfl, oy⟩ := hr4
    have hx4 := hx3.trans x4
    repeat' (first | ((with_reducible refine o_s ?_); (first | (refine o_1 ?_; refine o_2 ?_) | (refine o_g ?_; first | refine o_u ?_ | refine o_k ?_ | refine o_n ?_ | refine o_v ?_ | ((first | refine o_G ?_ ?_ | refine o_N ?_ ?_) <;> intro hc)))) | ((fail_if_success (with_reducible refine o_s ?_)); go_step))
    refine wpl_allocB (z := zset) rfl (by decide +kernel) ?_
    intro w5 x5 s5 h5
    refine gset ?_
    refine wpl_storeB (v := .agg #[str s.name, .int .i64 s.kind, .int .i64 s.ttl, y]) rfl rfl rfl h5 (show sizeTy Tryz.prog 55 4 = true by decide +kernel) rfl (all4 rfl rfl rfl oy.one) ?_
    intro w6 p6
    have x6 : Ext w4 w6 := x5.move p6.mv (by rintro k ⟨⟩; exact Nat.le_refl _)
    have hp6 := pts_block (cs := [str s.name, .int .i64 s.kind, .int .i64 s.ttl, y]) p6.this
    have hy6 := oy.sl.ext x6
    rw [hdat] at hy6
    have hx6 := hx4.trans x6
    have h6 := (x4.trans x6).at h3
    have hy0 := hy6.elem (i := 0) (e := [str dd]) rfl
    clear p6 h5 x5
    have hl1 : (tcells [dd]).length = 1 := rfl
    repeat' (first | ((with_reducible refine o_s ?_); (first | (refine o_1 ?_; refine o_2 ?_) | (refine o_g ?_; first | refine o_u ?_ | refine o_k ?_ | refine o_n ?_ | refine o_v ?_ | ((first | refine o_G ?_ ?_ | refine o_N ?_ ?_) <;> intro hc)))) | ((fail_if_success (with_reducible refine o_s ?_)); go_step))
    refine wpl_callV (enters_of Tryz.func110 rfl rfl) rfl rfl (hP _) ?_; intro w7 x7; refine gset ?_
    have h7 := x7.at h6
    repeat' (first | ((with_reducible refine o_s ?_); (first | (refine o_1 ?_; refine o_2 ?_) | (refine o_g ?_; first | refine o_u ?_ | refine o_k ?_ | refine o_n ?_ | refine o_v ?_ | ((first | refine o_G ?_ ?_ | refine o_N ?_ ?_) <;> intro hc)))) | ((fail_if_success (with_reducible refine o_s ?_)); go_step))
    refine wpl_storeB (v := .agg ss.cells.toArray) rfl rfl rfl h7 (show sizeTy Tryz.prog 103 7 = true by decide +kernel) rfl (soaR_one _) ?_
    intro w8 p8
    have x8 : Ext w w8 := (hx6.trans x7).move p8.mv (by rintro k ⟨⟩; exact x1.size)
    repeat' (first | ((with_reducible refine o_s ?_); (first | (refine o_1 ?_; refine o_2 ?_) | (refine o_g ?_; first | refine o_u ?_ | refine o_k ?_ | refine o_n ?_ | refine o_v ?_ | ((first | refine o_G ?_ ?_ | refine o_N ?_ ?_) <;> intro hc)))) | ((fail_if_success (with_reducible refine o_s ?_)); go_step))
    refine bodyPost_ret (results_cellT (cs := ss.cells) rfl rfl p8.this (show aggTy Tryz.prog 103 7 = true by decide +kernel)) rfl ⟨?_, x8⟩
    rw [hZ, q]
    rfl
/-- one put among others, in its place, once -/
def textS (s : List UInt8) : List (List UInt8) → List (List UInt8)
  | [] => [s]
  | x :: l => if Op.bytesLess x s = true then x :: textS s l else if x = s then x :: l else s :: x :: l
theorem textS_take {s : List UInt8} : ∀ {l : List (List UInt8)} {k : Nat}, (∀ x ∈ l.take k, Op.bytesLess x s = true) → textS s l = l.take k ++ textS s (l.drop k)
  | l, 0, _ => by simp
  | [], k + 1, _ => by simp
  | x :: l, k + 1, h => by
    have h1 := h x (by simp)
    simp only [List.take_succ_cons, List.drop_succ_cons, List.cons_append]
    rw [textS, if_pos h1, textS_take (k := k) (fun y hy => h y (by simp [hy]))]
theorem textS_len (s : List UInt8) : ∀ l : List (List UInt8), (textS s l).length ≤ l.length + 1
  | [] => by simp [textS]
  | x :: l => by
    rw [textS]
    split
    · have := textS_len s l; simp; omega
    · split <;> simp
theorem tcells_one (l : List (List UInt8)) : ∀ f ∈ tcells l, ∀ u ∈ f, u.oneCell' = true := by
  intro f hf u hu
  obtain ⟨x, _, rfl⟩ := List.mem_map.1 hf
  simp only [List.mem_singleton] at hu
  subst hu; rfl
set_option maxHeartbeats 6000000 in
/-- lodestarref07.text -/
theorem r7_text (v : Value) (l : List (List UInt8)) (s : List UInt8) (w : World) (hv : Sl 1 w v (tcells l)) (hl : l.length ≤ 100000) : Calls Tryz.prog 186 #[v, str s] w (Ret w fun r w' => (r = v ∧ textS s l = l) ∨ Own w.heap.size 1 9 w' r (tcells (textS s l))) := by
  have hlen := tcells_length l
  go_enter Tryz.func186, Tryz.ntmps186
  repeat' (first | ((with_reducible refine o_s ?_); (first | (refine o_1 ?_; refine o_2 ?_) | (refine o_g ?_; first | refine o_u ?_ | refine o_k ?_ | refine o_n ?_ | refine o_v ?_ | ((first | refine o_G ?_ ?_ | refine o_N ?_ ?_) <;> intro hc)))) | ((fail_if_success (with_reducible refine o_s ?_)); go_step))
  go_loopw [5, 6] (fun o i wr => ∃ k : Nat, k ≤ l.length ∧ i = .int .i64 k ∧ Ext w wr ∧ Own w.heap.size 1 9 wr o (tcells (l.take k)) ∧ ∀ x ∈ l.take k, Op.bytesLess x s = true) (fun _ i _ => l.length - (intOf i).toNat)
  case atStart => exact ⟨0, Nat.zero_le _, rfl, Ext.refl _, Own.nil _ _ _ _, by simp⟩
  case round =>
    obtain ⟨k, hk, rfl, hx, ho, hall⟩ := hrel
    have hv1 := hv.ext hx
    have htx := textS_take hall
    by_cases hlt : k < l.length
    · have hp := hv1.elem (tcells_at hlt)
      have hd : l.drop k = l[k] :: l.drop (k + 1) := List.drop_eq_getElem_cons hlt
      rw [hd, textS] at htx
      repeat' (first | ((with_reducible refine o_s ?_); (first | (refine o_1 ?_; refine o_2 ?_) | (refine o_g ?_; first | refine o_u ?_ | refine o_k ?_ | refine o_n ?_ | refine o_v ?_ | ((first | refine o_G ?_ ?_ | refine o_N ?_ ?_) <;> intro hc)))) | ((fail_if_success (with_reducible refine o_s ?_)); go_step))
      all_goals try (exfalso; omega)
      · have hb := ‹Op.bytesLess l[k] s = true›
        refine ap1 [str l[k]] hx ho (by rw [tcells_length]; simp; omega) ?_
        intro s2 v2 w1 w2 _ _ x2 o2
        refine gset ?_
        repeat' (first | ((with_reducible refine o_s ?_); (first | (refine o_1 ?_; refine o_2 ?_) | (refine o_g ?_; first | refine o_u ?_ | refine o_k ?_ | refine o_n ?_ | refine o_v ?_ | ((first | refine o_G ?_ ?_ | refine o_N ?_ ?_) <;> intro hc)))) | ((fail_if_success (with_reducible refine o_s ?_)); go_step))
        refine ⟨⟨k + 1, by omega, by go_num, x2, ?_, ?_⟩, by simp [intOf]; omega⟩
        · rw [show tcells (l.take (k + 1)) = tcells (l.take k) ++ [[str l[k]]] by rw [tcells, tcells, map_take_succ hlt]]
          exact o2
        · intro x hm
          rw [List.take_add_one, List.getElem?_eq_getElem hlt] at hm
          simp only [Option.toList_some, List.mem_append, List.mem_singleton] at hm
          rcases hm with hm | rfl
          · exact hall x hm
          · exact hb
      · have hb := ‹Op.bytesLess l[k] s = false›
        have he := ‹l[k] = s›
        rw [hb, if_neg (by simp), if_pos he, ← hd, List.take_append_drop] at htx
        go_ret
        exact ⟨_, rfl, hx, .inl ⟨rfl, htx⟩⟩
      · have hb := ‹Op.bytesLess l[k] s = false›
        have he := ‹¬l[k] = s›
        rw [hb, if_neg (by simp), if_neg he, ← hd] at htx
        refine ap1 [str s] hx ho (by rw [tcells_length]; simp; omega) ?_
        intro s2 v2 w1 w2 xa _ x2 o2
        refine gset ?_
        have hv3 := (hv.ext x2)
        repeat' (first | ((with_reducible refine o_s ?_); (first | (refine o_1 ?_; refine o_2 ?_) | (refine o_g ?_; first | refine o_u ?_ | refine o_k ?_ | refine o_n ?_ | refine o_v ?_ | ((first | refine o_G ?_ ?_ | refine o_N ?_ ?_) <;> intro hc)))) | ((fail_if_success (with_reducible refine o_s ?_)); go_step))
        have hcut := hv3.cut (m := k) (n := (tcells l).length) (by omega) (Nat.le_refl _)
        have e : (((tcells l).take (tcells l).length).drop k) = tcells (l.drop k) := by rw [List.take_length]; simp [tcells]
        rw [e] at hcut
        refine wpl_appendO (B := w.heap.size) rfl o2 rfl hcut (tcells_one _) x2.size (by simp only [List.length_append, tcells_length, List.length_take, List.length_drop, List.length_cons, List.length_nil]; omega) ?_
        intro v3 w3 o3 m3 _
        refine gset ?_
        have x3 := o2.mvx m3 x2 (Nat.le_refl _)
        repeat' (first | ((with_reducible refine o_s ?_); (first | (refine o_1 ?_; refine o_2 ?_) | (refine o_g ?_; first | refine o_u ?_ | refine o_k ?_ | refine o_n ?_ | refine o_v ?_ | ((first | refine o_G ?_ ?_ | refine o_N ?_ ?_) <;> intro hc)))) | ((fail_if_success (with_reducible refine o_s ?_)); go_step))
        go_ret
        refine ⟨_, rfl, x3, .inr ?_⟩
        rw [htx]
        simpa [tcells] using o3
    · have : k = l.length := by omega
      subst this
      rw [List.drop_length, List.take_length, textS] at htx
      rw [List.take_length] at ho
      repeat' (first | ((with_reducible refine o_s ?_); (first | (refine o_1 ?_; refine o_2 ?_) | (refine o_g ?_; first | refine o_u ?_ | refine o_k ?_ | refine o_n ?_ | refine o_v ?_ | ((first | refine o_G ?_ ?_ | refine o_N ?_ ?_) <;> intro hc)))) | ((fail_if_success (with_reducible refine o_s ?_)); go_step))
      all_goals try (exfalso; omega)
      refine ap1 [str s] hx ho (by rw [tcells_length]; omega) ?_
      intro s2 v2 w1 w2 xa _ x2 o2
      refine gset ?_
      have hv3 := (hv.ext x2)
      repeat' (first | ((with_reducible refine o_s ?_); (first | (refine o_1 ?_; refine o_2 ?_) | (refine o_g ?_; first | refine o_u ?_ | refine o_k ?_ | refine o_n ?_ | refine o_v ?_ | ((first | refine o_G ?_ ?_ | refine o_N ?_ ?_) <;> intro hc)))) | ((fail_if_success (with_reducible refine o_s ?_)); go_step))
      have hcut := hv3.cut (m := l.length) (n := (tcells l).length) (by omega) (Nat.le_refl _)
      have e : (((tcells l).take (tcells l).length).drop l.length) = tcells [] := by rw [List.take_length]; simp [tcells]
      rw [e] at hcut
      refine wpl_appendO (B := w.heap.size) rfl o2 rfl hcut (tcells_one _) x2.size (by simp only [List.length_append, tcells_length, List.length_take, List.length_drop, List.length_cons, List.length_nil]; omega) ?_
      intro v3 w3 o3 m3 _
      refine gset ?_
      have x3 := o2.mvx m3 x2 (Nat.le_refl _)
      repeat' (first | ((with_reducible refine o_s ?_); (first | (refine o_1 ?_; refine o_2 ?_) | (refine o_g ?_; first | refine o_u ?_ | refine o_k ?_ | refine o_n ?_ | refine o_v ?_ | ((first | refine o_G ?_ ?_ | refine o_N ?_ ?_) <;> intro hc)))) | ((fail_if_success (with_reducible refine o_s ?_)); go_step))
      go_ret
      refine ⟨_, rfl, x3, .inr ?_⟩
      rw [htx]
      simpa [tcells] using o3
end Go.Proofs.X
