/- Laws and walks that the proof of the statement is made of (part 9). -/
import Derived.Test.YtedoaagdhcimiaaGreatProg
import Derived.Test.YtedoaagdhcimiaaGreatShelf
import Derived.Lib.Hide
import Derived.Shelf.SlSortCmp.NoneTotal
import Derived.OwnWalk
import Derived.Shelf.RegionOpenPlain
import Derived.Lib.Strings
import Derived.Lib.Slices
import Derived.Lib.Walk
import Derived.Lib.Builder
import Derived.Lib.AppendStr
import Derived.Lib.UnsafeStr
import Derived.Lib.MakeNoZero
import Derived.WalkKit
import Derived.Laws.Externs
import Derived.Laws.IdiomCopy
import Derived.Laws.BitsLemmas
import GoSem.Claims
import Derived.Test.YtedoaagdhcimiaaGreatP1
import Derived.Test.YtedoaagdhcimiaaGreatP2
import Derived.Test.YtedoaagdhcimiaaGreatP3
import Derived.Test.YtedoaagdhcimiaaGreatP4
import Derived.Test.YtedoaagdhcimiaaGreatP5
import Derived.Test.YtedoaagdhcimiaaGreatP7
import Derived.Test.YtedoaagdhcimiaaGreatP8
set_option linter.unusedSimpArgs false
set_option linter.unusedVariables false
namespace Go.Proofs.X
open Go.RowKit
set_option maxRecDepth 100000
def idxI {α : Type} (p : α → Bool) (l : List α) : Int := match l.findIdx? p with
 | some i => (i : Int)
 | none => -1
theorem idx_cases {α : Type} (p : α → Bool) (l : List α) : (∃ (k : Nat) (hk : k < l.length), idxI p l = k ∧ p l[k] = true ∧ l.find? p = some l[k]) ∨ (idxI p l = -1 ∧ l.any p = false ∧ l.find? p = none) := by
 unfold idxI
 cases h : l.findIdx? p with
 | none =>
  rw [List.findIdx?_eq_none_iff] at h
  refine .inr ⟨rfl, ?_, ?_⟩
  ·rw [List.any_eq_false]; intro x hx; simp [h x hx]
  ·rw [List.find?_eq_none]; intro x hx; simp [h x hx]
 | some k =>
  rw [List.findIdx?_eq_some_iff_getElem] at h
  obtain ⟨hk, hp, hj⟩ := h
  refine .inl ⟨k, hk, rfl, hp, ?_⟩
  rw [List.find?_eq_some_iff_getElem]
  exact ⟨hp, k, hk, rfl, fun j hjk => by simpa using hj j hjk⟩
theorem idx_at {α : Type} {p : α → Bool} {l : List α} {k : Nat} (hk : k < l.length) (ha : (l.take k).any p = false) (hp : p l[k] = true) : idxI p l = k := by
 have : l.findIdx? p = some k := by
  rw [List.findIdx?_eq_some_iff_getElem]
  refine ⟨hk, hp, fun j hj => ?_⟩
  rw [List.any_eq_false] at ha
  exact ha l[j] (by rw [List.mem_take_iff_getElem]; exact ⟨j, by omega, rfl⟩)
 rw [idxI, this]
theorem idx_no {α : Type} {p : α → Bool} {l : List α} (ha : l.any p = false) : idxI p l = -1 := by
 have : l.findIdx? p = none := by
  rw [List.findIdx?_eq_none_iff]
  intro x hx
  rw [List.any_eq_false] at ha
  simpa using ha x hx
 rw [idxI, this]
theorem idx_any {α : Type} (p : α → Bool) (l : List α) : decide (0 ≤ idxI p l) = l.any p := by
 rcases idx_cases p l with ⟨k, hk, e, hp, _⟩ | ⟨e, h, _⟩
 ·rw [e, any_at hk hp]; simp
 ·rw [e, h]; rfl
def SetFn (w : World) (f : FuncId) (caps : Array Value) (l : List RSet) (p : RSet → Bool) : Prop :=
 ∀ s ∈ l, ∀ x w', Ext w w' → Sl 1 w' x (tcells s.data) → Calls Tryz.prog f ([Value.agg #[str s.name, .int .i64 s.kind, .int .i64 s.ttl, x]].toArray ++ caps) w' (RetV w' (.bool (p s)))
theorem SetFn.ext {w w1 : World} {f : FuncId} {caps : Array Value} {l : List RSet} {p : RSet → Bool} (h : SetFn w f caps l p) (hx : Ext w w1) : SetFn w1 f caps l p :=
 fun s hs x w' hx' hd => h s hs x w' (hx.trans hx') hd
set_option maxHeartbeats 3000000 in
theorem p_IndexFunc (v : Value) (l : List RSet) (f : FuncId) (caps : Array Value) (p : RSet → Bool) (w : World) (hv : SetsAt w v l) (he : Enters Tryz.prog f) (hf : SetFn w f caps l p) : Calls Tryz.prog 139 #[v, .func (.func f) #[] caps] w (RetV w (.int .i64 (idxI p l))) := by
 obtain ⟨cv, hv1, hvl⟩ := hv.sl
 have hle := hv1.le
 go_enter Tryz.func139, Tryz.ntmps139
 (repeat' first | ((with_reducible refine nx0 ?_); go_step) | ((with_reducible refine o_s ?_); first | refine wk0 ?_ | (refine wg0 ?_ ?_ <;> intro hc)) | fail)
 go_loopw [5, 8] (fun _ i wr => ∃ k : Nat, k ≤ l.length ∧ i = .int .i64 k ∧ Ext w wr ∧ (l.take k).any p = false) (fun _ i _ => l.length - (intOf i).toNat)
 case atStart => exact ⟨0, Nat.zero_le _, rfl, Ext.refl _, rfl⟩
 case round =>
  obtain ⟨k, hk, rfl, hx, hall⟩ := hrel
  have hv2 := hv1.ext hx
  by_cases hlt : k < l.length
  ·obtain ⟨x, h4, h4d⟩ := (hv.ext hx).elem (List.getElem?_eq_getElem hlt)
   (repeat' first | ((with_reducible refine nx0 ?_); go_step) | ((with_reducible refine o_s ?_); first | refine wk0 ?_ | (refine wg0 ?_ ?_ <;> intro hc)) | fail)
   refine wpl_callT he rfl rfl rfl (hf _ (List.getElem_mem hlt) x _ hx h4d) ?_
   rintro e w2 ⟨rfl, x2⟩
   refine ⟨_, rfl, ?_⟩
   refine gset ?_
   cases hp : p l[k] with
   | true =>
    (repeat' first | ((with_reducible refine nx0 ?_); go_step) | ((with_reducible refine o_s ?_); first | refine wk0 ?_ | (refine wg0 ?_ ?_ <;> intro hc)) | fail)
    go_ret
    exact ⟨by rw [idx_at hlt hall hp]; rfl, hx.trans x2⟩
   | false =>
    (repeat' first | ((with_reducible refine nx0 ?_); go_step) | ((with_reducible refine o_s ?_); first | refine wk0 ?_ | (refine wg0 ?_ ?_ <;> intro hc)) | fail)
    exact ⟨⟨k + 1, by omega, by go_num, hx.trans x2, any_take hlt hall hp⟩, by simp [intOf]; omega⟩
  ·have : k = l.length := by omega
   subst this
   rw [List.take_length] at hall
   (repeat' first | ((with_reducible refine nx0 ?_); go_step) | ((with_reducible refine o_s ?_); first | refine wk0 ?_ | (refine wg0 ?_ ?_ <;> intro hc)) | fail)
   go_ret
   exact ⟨by rw [idx_no hall]; rfl, hx⟩
theorem p_ContainsFunc (v : Value) (l : List RSet) (f : FuncId) (caps : Array Value) (p : RSet → Bool) (w : World) (hv : SetsAt w v l) (he : Enters Tryz.prog f) (hf : SetFn w f caps l p) : Calls Tryz.prog 85 #[v, .func (.func f) #[] caps] w (RetV w (.bool (l.any p))) := by
 go_enter Tryz.func85, Tryz.ntmps85
 (repeat' first | ((with_reducible refine nx0 ?_); go_step) | ((with_reducible refine o_s ?_); first | refine wk0 ?_ | (refine wg0 ?_ ?_ <;> intro hc)) | fail)
 refine wpl_callV (enters_of Tryz.func139 rfl rfl) rfl rfl (p_IndexFunc v l f caps p _ hv he hf) ?_; intro w1 x1; refine gset ?_
 (repeat' first | ((with_reducible refine nx0 ?_); go_step) | ((with_reducible refine o_s ?_); first | refine wk0 ?_ | (refine wg0 ?_ ?_ <;> intro hc)) | fail)
 go_ret
 exact ⟨by rw [← idx_any]; rfl, x1⟩
set_option maxHeartbeats 3000000 in
theorem p_cut1 (o n : List UInt8) (v pz pn : Value) (s : RSet) (x : Value) (w : World) (hz : Pts w pz [str o, v]) (hn : Pts w pn [str n]) : Calls Tryz.prog 197 #[.agg #[str s.name, .int .i64 s.kind, .int .i64 s.ttl, x], pz, pn] w (RetV w (.bool (isCut o n s))) := by
 go_enter Tryz.func197, Tryz.ntmps197
 repeat' (first | ((with_reducible refine nx0 ?_); go_step) | fail)
 refine wpl_box (vs := [str s.name, .int .i64 s.kind, .int .i64 s.ttl, x]) rfl rfl ?_
 intro p w1 x1 hp
 refine gset ?_
 have hz1 := hz.ext x1
 have hn1 := hn.ext x1
 (repeat' first | ((with_reducible refine nx0 ?_); go_step) | ((with_reducible refine o_s ?_); first | refine wk0 ?_ | (refine wg0 ?_ ?_ <;> intro hc)) | fail)
 ·have hk := ‹s.kind = 2›
  have hne := ‹(!decide (s.name = o)) = true›
  refine wpl_callV (enters_of Tryz.func141 rfl rfl) rfl rfl (p_Under n s.name _) ?_; intro w2 x2; refine gset ?_
  (repeat' first | ((with_reducible refine nx0 ?_); go_step) | ((with_reducible refine o_s ?_); first | refine wk0 ?_ | (refine wg0 ?_ ?_ <;> intro hc)) | fail)
  go_ret
  refine ⟨?_, x1.trans x2⟩
  have hne' : s.name ≠ o := by simpa using hne
  simp [isCut, hk, hne']
 all_goals
  go_ret
  refine ⟨?_, x1⟩
  simp_all [isCut]
set_option maxHeartbeats 3000000 in
theorem p_cut (o : List UInt8) (v : Value) (l : List RSet) (n : List UInt8) (w : World) (hv : SetsAt w v l) : Calls Tryz.prog 146 #[.agg #[str o, v], str n] w (RetV w (.tuple #[str (cutP o l n).1, .bool (cutP o l n).2])) := by
 obtain ⟨cv, hv1, hvl⟩ := hv.sl
 go_enter Tryz.func146, Tryz.ntmps146
 repeat' (first | ((with_reducible refine nx0 ?_); go_step) | fail)
 refine wpl_box (vs := [str o, v]) rfl rfl ?_
 intro pz w1 x1 hz
 refine gset ?_
 repeat' (first | ((with_reducible refine nx0 ?_); go_step) | fail)
 refine wpl_box (vs := [str n]) rfl rfl ?_
 intro pn w2 x2 hn
 refine gset ?_
 have hx2 := x1.trans x2
 have hz2 := hz.ext x2
 (repeat' first | ((with_reducible refine nx0 ?_); go_step) | ((with_reducible refine o_s ?_); first | refine wk0 ?_ | (refine wg0 ?_ ?_ <;> intro hc)) | fail)
 have hf : SetFn w2 197 #[pz, pn] l (isCut o n) := fun s _ x w' hx' _ => p_cut1 o n v pz pn s x w' (hz2.ext hx') (hn.ext hx')
 refine wpl_callV (enters_of Tryz.func139 rfl rfl) rfl rfl (p_IndexFunc v l 197 #[pz, pn] (isCut o n) _ (hv.ext hx2) (enters_of Tryz.func197 rfl rfl) hf) ?_; intro w3 x3; refine gset ?_
 have hx3 := hx2.trans x3
 have hz3 := hz2.ext x3
 rcases idx_cases (isCut o n) l with ⟨k, hk, e, hp, hfi⟩ | ⟨e, h, hfi⟩
 ·rw [e]
  obtain ⟨x, h4, h4d⟩ := (hv.ext hx3).elem (List.getElem?_eq_getElem hk)
  have hv3 := hv1.ext hx3
  (repeat' first | ((with_reducible refine nx0 ?_); go_step) | ((with_reducible refine o_s ?_); first | refine wk0 ?_ | (refine wg0 ?_ ?_ <;> intro hc)) | fail)
  go_ret2
  exact ⟨by simp only [cutP, hfi]; rfl, hx3⟩
 ·rw [e]
  (repeat' first | ((with_reducible refine nx0 ?_); go_step) | ((with_reducible refine o_s ?_); first | refine wk0 ?_ | (refine wg0 ?_ ?_ <;> intro hc)) | fail)
  go_ret2
  exact ⟨by simp only [cutP, hfi]; rfl, hx3⟩
def Rule (w : World) (f : Value) (b : Bool) : Prop := ∃ (g : FuncId) (caps : Array Value), f = .func (.func g) #[] caps ∧ Enters Tryz.prog g ∧ ∀ w', Ext w w' → Calls Tryz.prog g (([] : List Value).toArray ++ caps) w' (RetV w' (.bool b))
theorem p_right1 (o : List UInt8) (v ps pz : Value) (s : RSet) (u : Value) (w : World) (hs : Pts w ps [str s.name, .int .i64 s.kind, .int .i64 s.ttl, u]) (hz : Pts w pz [str o, v]) : Calls Tryz.prog 140 #[ps, pz] w (RetV w (.bool (underN s.name o))) := by
 go_enter Tryz.func140, Tryz.ntmps140
 (repeat' first | ((with_reducible refine nx0 ?_); go_step) | ((with_reducible refine o_s ?_); first | refine wk0 ?_ | (refine wg0 ?_ ?_ <;> intro hc)) | fail)
 refine wpl_callV (enters_of Tryz.func141 rfl rfl) rfl rfl (p_Under s.name o _) ?_; intro w1 x1; refine gset ?_
 (repeat' first | ((with_reducible refine nx0 ?_); go_step) | ((with_reducible refine o_s ?_); first | refine wk0 ?_ | (refine wg0 ?_ ?_ <;> intro hc)) | fail)
 go_ret
 exact ⟨rfl, x1⟩
def rule2 (o : List UInt8) (s : RSet) (one : Bool) : Bool := decide (s.kind ≠ 6) || (decide (s.name = o) && one)
set_option maxHeartbeats 3000000 in
theorem p_right2 (o : List UInt8) (v ps pz pb : Value) (s : RSet) (u : Value) (one : Bool) (w : World) (hs : Pts w ps [str s.name, .int .i64 s.kind, .int .i64 s.ttl, u]) (hz : Pts w pz [str o, v]) (hb : Pts w pb [.bool one]) : Calls Tryz.prog 142 #[ps, pz, pb] w (RetV w (.bool (rule2 o s one))) := by
 go_enter Tryz.func142, Tryz.ntmps142
 (repeat' first | ((with_reducible refine nx0 ?_); go_step) | ((with_reducible refine o_s ?_); first | refine wk0 ?_ | (refine wg0 ?_ ?_ <;> intro hc)) | fail)
 all_goals
  go_ret
  refine ⟨?_, Ext.refl _⟩
  simp_all [rule2]
set_option maxHeartbeats 3000000 in
theorem p_right31 (ps : Value) (s t : RSet) (u x : Value) (w : World) (hs : Pts w ps [str s.name, .int .i64 s.kind, .int .i64 s.ttl, u]) : Calls Tryz.prog 144 #[.agg #[str t.name, .int .i64 t.kind, .int .i64 t.ttl, x], ps] w (RetV w (.bool (clash s t))) := by
 go_enter Tryz.func144, Tryz.ntmps144
 repeat' (first | ((with_reducible refine nx0 ?_); go_step) | fail)
 refine wpl_box (vs := [str t.name, .int .i64 t.kind, .int .i64 t.ttl, x]) rfl rfl ?_
 intro p w1 x1 hp
 refine gset ?_
 have hs1 := hs.ext x1
 (repeat' first | ((with_reducible refine nx0 ?_); go_step) | ((with_reducible refine o_s ?_); first | refine wk0 ?_ | (refine wg0 ?_ ?_ <;> intro hc)) | fail)
 all_goals
  go_ret
  refine ⟨?_, x1⟩
  simp_all [clash]
def rule3 (l : List RSet) (s : RSet) (one : Bool) : Bool := decide (s.kind ≠ 5) || (one && !l.any (clash s))
set_option maxHeartbeats 3000000 in
theorem p_right3 (o : List UInt8) (v ps pz pb : Value) (l : List RSet) (s : RSet) (u : Value) (one : Bool) (w : World) (hs : Pts w ps [str s.name, .int .i64 s.kind, .int .i64 s.ttl, u]) (hz : Pts w pz [str o, v]) (hb : Pts w pb [.bool one]) (hv : SetsAt w v l) : Calls Tryz.prog 143 #[ps, pb, pz] w (RetV w (.bool (rule3 l s one))) := by
 have hf : SetFn w 144 #[ps] l (clash s) := fun t _ x w' hx' _ => p_right31 ps s t u x w' (hs.ext hx')
 go_enter Tryz.func143, Tryz.ntmps143
 cases one with
 | false =>
  (repeat' first | ((with_reducible refine nx0 ?_); go_step) | ((with_reducible refine o_s ?_); first | refine wk0 ?_ | (refine wg0 ?_ ?_ <;> intro hc)) | fail)
  all_goals
   go_ret
   refine ⟨?_, Ext.refl _⟩
   simp_all [rule3]
 | true =>
  (repeat' first | ((with_reducible refine nx0 ?_); go_step) | ((with_reducible refine o_s ?_); first | refine wk0 ?_ | (refine wg0 ?_ ?_ <;> intro hc)) | fail)
  ·have h5 : s.kind = 5 := by simpa using (by assumption : (!decide (s.kind = 5)) = false)
   refine wpl_callV (enters_of Tryz.func85 rfl rfl) rfl rfl (p_ContainsFunc v l 144 #[ps] (clash s) _ hv (enters_of Tryz.func144 rfl rfl) hf) ?_; intro w1 x1; refine gset ?_
   (repeat' first | ((with_reducible refine nx0 ?_); go_step) | ((with_reducible refine o_s ?_); first | refine wk0 ?_ | (refine wg0 ?_ ?_ <;> intro hc)) | fail)
   go_ret
   exact ⟨by simp [rule3, h5], x1⟩
  all_goals
   go_ret
   refine ⟨?_, Ext.refl _⟩
   simp_all [rule3]
def rule4 (o : List UInt8) (l : List RSet) (s : RSet) : Bool :=
 !(cutP o l s.name).2 || decide (s.kind = 1) || decide (s.kind = 28) || (decide (s.kind = 2) && decide (s.name = (cutP o l s.name).1))
set_option maxHeartbeats 3000000 in
theorem p_right4 (o : List UInt8) (v ps pz : Value) (l : List RSet) (s : RSet) (u : Value) (w : World) (hs : Pts w ps [str s.name, .int .i64 s.kind, .int .i64 s.ttl, u]) (hz : Pts w pz [str o, v]) (hv : SetsAt w v l) : Calls Tryz.prog 145 #[pz, ps] w (RetV w (.bool (rule4 o l s))) := by
 go_enter Tryz.func145, Tryz.ntmps145
 (repeat' first | ((with_reducible refine nx0 ?_); go_step) | ((with_reducible refine o_s ?_); first | refine wk0 ?_ | (refine wg0 ?_ ?_ <;> intro hc)) | fail)
 refine wpl_callV (enters_of Tryz.func146 rfl rfl) rfl rfl (p_cut o v l s.name _ hv) ?_; intro w1 x1; refine gset ?_
 generalize hcut : cutP o l s.name = g at *
 obtain ⟨c, is⟩ := g
 have hs1 := hs.ext x1
 cases is with
 | false =>
  (repeat' first | ((with_reducible refine nx0 ?_); go_step) | ((with_reducible refine o_s ?_); first | refine wk0 ?_ | (refine wg0 ?_ ?_ <;> intro hc)) | fail)
  go_ret
  exact ⟨by simp [rule4, hcut], x1⟩
 | true =>
  (repeat' first | ((with_reducible refine nx0 ?_); go_step) | ((with_reducible refine o_s ?_); first | refine wk0 ?_ | (refine wg0 ?_ ?_ <;> intro hc)) | fail)
  all_goals
   go_ret
   refine ⟨?_, x1⟩
   simp_all [rule4]
set_option maxHeartbeats 3000000 in
theorem p_right5 (f : Value) (b : Bool) (w : World) (hf : Rule w f b) : Calls Tryz.prog 148 #[f] w (RetV w (.bool (!b))) := by
 obtain ⟨g, caps, rfl, he, hc⟩ := hf
 go_enter Tryz.func148, Tryz.ntmps148
 (repeat' first | ((with_reducible refine nx0 ?_); go_step) | ((with_reducible refine o_s ?_); first | refine wk0 ?_ | (refine wg0 ?_ ?_ <;> intro hc)) | fail)
 refine wpl_callT he rfl rfl rfl (hc _ (Ext.refl _)) ?_
 rintro e w1 ⟨rfl, x1⟩
 refine ⟨_, rfl, ?_⟩
 refine gset ?_
 (repeat' first | ((with_reducible refine nx0 ?_); go_step) | ((with_reducible refine o_s ?_); first | refine wk0 ?_ | (refine wg0 ?_ ?_ <;> intro hc)) | fail)
 go_ret
 exact ⟨rfl, x1⟩
theorem Rule.ext {w w' : World} {f : Value} {b : Bool} (h : Rule w f b) (hx : Ext w w') : Rule w' f b := by
 obtain ⟨g, caps, h1, h2, h3⟩ := h
 exact ⟨g, caps, h1, h2, fun w2 hx2 => h3 w2 (hx.trans hx2)⟩
def fcells (l : List (Value × Bool)) : List (List Value) := l.map fun x => [x.1]
theorem fcells_length (l : List (Value × Bool)) : (fcells l).length = l.length := by simp [fcells]
theorem fcells_at {l : List (Value × Bool)} {k : Nat} (h : k < l.length) : (fcells l)[k]? = some [l[k].1] := by simp [fcells, h]
def notB (x : Value × Bool) : Bool := !x.2
set_option maxHeartbeats 3000000 in
theorem p_IndexRule (v : Value) (l : List (Value × Bool)) (w : World) (hv : Sl 1 w v (fcells l)) (hf : ∀ x ∈ l, Rule w x.1 x.2) : Calls Tryz.prog 198 #[v, .func (.func 148) #[] #[]] w (RetV w (.int .i64 (idxI notB l))) := by
 have hle := hv.le
 have hlen := fcells_length l
 go_enter Tryz.func198, Tryz.ntmps198
 (repeat' first | ((with_reducible refine nx0 ?_); go_step) | ((with_reducible refine o_s ?_); first | refine wk0 ?_ | (refine wg0 ?_ ?_ <;> intro hc)) | fail)
 go_loopw [5, 8] (fun _ i wr => ∃ k : Nat, k ≤ l.length ∧ i = .int .i64 k ∧ Ext w wr ∧ (l.take k).any notB = false) (fun _ i _ => l.length - (intOf i).toNat)
 case atStart => exact ⟨0, Nat.zero_le _, rfl, Ext.refl _, rfl⟩
 case round =>
  obtain ⟨k, hk, rfl, hx, hall⟩ := hrel
  have hv2 := hv.ext hx
  by_cases hlt : k < l.length
  ·have hp := hv2.elem (fcells_at hlt)
   (repeat' first | ((with_reducible refine nx0 ?_); go_step) | ((with_reducible refine o_s ?_); first | refine wk0 ?_ | (refine wg0 ?_ ?_ <;> intro hc)) | fail)
   refine wpl_callT (f := 148) (caps := #[]) (enters_of Tryz.func148 rfl rfl) rfl rfl rfl (p_right5 l[k].1 l[k].2 _ ((hf _ (List.getElem_mem hlt)).ext hx)) ?_
   rintro e w2 ⟨rfl, x2⟩
   refine ⟨_, rfl, ?_⟩
   refine gset ?_
   cases hb : l[k].2 with
   | false =>
    (repeat' first | ((with_reducible refine nx0 ?_); go_step) | ((with_reducible refine o_s ?_); first | refine wk0 ?_ | (refine wg0 ?_ ?_ <;> intro hc)) | fail)
    go_ret
    exact ⟨by rw [idx_at hlt hall (by simp [notB, hb])]; rfl, hx.trans x2⟩
   | true =>
    (repeat' first | ((with_reducible refine nx0 ?_); go_step) | ((with_reducible refine o_s ?_); first | refine wk0 ?_ | (refine wg0 ?_ ?_ <;> intro hc)) | fail)
    exact ⟨⟨k + 1, by omega, by go_num, hx.trans x2, any_take hlt hall (by simp [notB, hb])⟩, by simp [intOf]; omega⟩
  ·have : k = l.length := by omega
   subst this
   rw [List.take_length] at hall
   (repeat' first | ((with_reducible refine nx0 ?_); go_step) | ((with_reducible refine o_s ?_); first | refine wk0 ?_ | (refine wg0 ?_ ?_ <;> intro hc)) | fail)
   go_ret
   exact ⟨by rw [idx_no hall]; rfl, hx⟩
theorem p_ContainsRule (v : Value) (l : List (Value × Bool)) (w : World) (hv : Sl 1 w v (fcells l)) (hf : ∀ x ∈ l, Rule w x.1 x.2) : Calls Tryz.prog 147 #[v, .func (.func 148) #[] #[]] w (RetV w (.bool (l.any notB))) := by
 go_enter Tryz.func147, Tryz.ntmps147
 (repeat' first | ((with_reducible refine nx0 ?_); go_step) | ((with_reducible refine o_s ?_); first | refine wk0 ?_ | (refine wg0 ?_ ?_ <;> intro hc)) | fail)
 refine wpl_callV (enters_of Tryz.func198 rfl rfl) rfl rfl (p_IndexRule v l _ hv hf) ?_; intro w1 x1; refine gset ?_
 (repeat' first | ((with_reducible refine nx0 ?_); go_step) | ((with_reducible refine o_s ?_); first | refine wk0 ?_ | (refine wg0 ?_ ?_ <;> intro hc)) | fail)
 go_ret
 exact ⟨by rw [← idx_any]; rfl, x1⟩
set_option maxHeartbeats 6000000 in
theorem p_right (o : List UInt8) (v : Value) (l : List RSet) (s : RSet) (u : Value) (w : World) (hv : SetsAt w v l) (hu : Sl 1 w u (tcells s.data)) (hck : checkS l = 0) : Calls Tryz.prog 87 #[.agg #[str o, v], .agg #[str s.name, .int .i64 s.kind, .int .i64 s.ttl, u]] w (RetV w (.bool (rightR o l s))) := by
 have hlen := tcells_length s.data
 go_enter Tryz.func87, Tryz.ntmps87
 repeat' (first | ((with_reducible refine nx0 ?_); go_step) | fail)
 refine wpl_box (vs := [str o, v]) rfl rfl ?_
 intro pz w1 x1 hz
 refine gset ?_
 repeat' (first | ((with_reducible refine nx0 ?_); go_step) | fail)
 refine wpl_box (vs := [str s.name, .int .i64 s.kind, .int .i64 s.ttl, u]) rfl rfl ?_
 intro ps w2 x2 hs
 refine gset ?_
 have hz2 := hz.ext x2
 have hx2 := x1.trans x2
 have hu2 := hu.ext hx2
 (repeat' first | ((with_reducible refine nx0 ?_); go_step) | ((with_reducible refine o_s ?_); first | refine wk0 ?_ | (refine wg0 ?_ ?_ <;> intro hc)) | fail)
 refine wpl_allocB (z := [.bool false]) rfl (by decide +kernel) ?_
 intro w3 x3 s3 h3
 refine gset ?_
 have hone : decide (((tcells s.data).length : Int) = 1) = decide (s.data.length = 1) := by rw [hlen, Bool.eq_iff_iff]; simp; omega
 rw [hone]
 refine wpl_store1 (v := .bool (decide (s.data.length = 1))) rfl rfl rfl h3 (by decide +kernel) rfl ?_
 intro w4 p4
 have x4 : Ext w2 w4 := x3.move p4.mv (by rintro k ⟨⟩; exact Nat.le_refl _)
 have hb4 := pts_block (cs := [.bool (decide (s.data.length = 1))]) p4.this
 have hz4 := hz2.ext x4
 have hs4 := hs.ext x4
 have hx4 := hx2.trans x4
 have hv4 := hv.ext hx4
 clear p4 h3 x3
 generalize hpb : Value.pointer (some ⟨w2.heap.size, 0, none⟩) = pb at *
 (repeat' first | ((with_reducible refine nx0 ?_); go_step) | ((with_reducible refine o_s ?_); first | refine wk0 ?_ | (refine wg0 ?_ ?_ <;> intro hc)) | fail)
 have r1 : Rule w4 (.func (.func 140) #[] #[ps, pz]) (underN s.name o) := ⟨140, _, rfl, enters_of Tryz.func140 rfl rfl, fun w' hx' => p_right1 o v ps pz s u w' (hs4.ext hx') (hz4.ext hx')⟩
 have r2 : Rule w4 (.func (.func 142) #[] #[ps, pz, pb]) (rule2 o s (decide (s.data.length = 1))) := ⟨142, _, rfl, enters_of Tryz.func142 rfl rfl, fun w' hx' => p_right2 o v ps pz pb s u _ w' (hs4.ext hx') (hz4.ext hx') (hb4.ext hx')⟩
 have r3 : Rule w4 (.func (.func 143) #[] #[ps, pb, pz]) (rule3 l s (decide (s.data.length = 1))) := ⟨143, _, rfl, enters_of Tryz.func143 rfl rfl, fun w' hx' => p_right3 o v ps pz pb l s u _ w' (hs4.ext hx') (hz4.ext hx') (hb4.ext hx') (hv4.ext hx')⟩
 have r4 : Rule w4 (.func (.func 145) #[] #[pz, ps]) (rule4 o l s) := ⟨145, _, rfl, enters_of Tryz.func145 rfl rfl, fun w' hx' => p_right4 o v ps pz l s u w' (hs4.ext hx') (hz4.ext hx') (hv4.ext hx')⟩
 refine wpl_slice (e := 22) (k := 1) (bytes := 8) (xs := [.func (.func 140) #[] #[ps, pz], .func (.func 142) #[] #[ps, pz, pb], .func (.func 143) #[] #[ps, pb, pz], .func (.func 145) #[] #[pz, ps]]) rfl rfl rfl (by simp [Value.cells]) (by decide +kernel) (by simp) ?_
 intro v5 w5 x5 _ sl5 _
 refine gset ?_
 have sl5 : Sl 1 w5 v5 (fcells [(.func (.func 140) #[] #[ps, pz], underN s.name o), (.func (.func 142) #[] #[ps, pz, pb], rule2 o s (decide (s.data.length = 1))), (.func (.func 143) #[] #[ps, pb, pz], rule3 l s (decide (s.data.length = 1))), (.func (.func 145) #[] #[pz, ps], rule4 o l s)]) := sl5
 (repeat' first | ((with_reducible refine nx0 ?_); go_step) | ((with_reducible refine o_s ?_); first | refine wk0 ?_ | (refine wg0 ?_ ?_ <;> intro hc)) | fail)
 refine wpl_callV (enters_of Tryz.func147 rfl rfl) rfl rfl (p_ContainsRule v5 _ _ sl5 (by
  intro x hx
  simp only [List.mem_cons, List.not_mem_nil, or_false] at hx
  rcases hx with rfl | rfl | rfl | rfl
  ·exact r1.ext x5
  ·exact r2.ext x5
  ·exact r3.ext x5
  ·exact r4.ext x5)) ?_; intro w6 x6; refine gset ?_
 (repeat' first | ((with_reducible refine nx0 ?_); go_step) | ((with_reducible refine o_s ?_); first | refine wk0 ?_ | (refine wg0 ?_ ?_ <;> intro hc)) | fail)
 go_ret
 refine ⟨?_, (hx4.trans x5).trans x6⟩
 congr 2
 have h4 : lastR o l s = rule4 o l s := by rw [lastR, rule4, cut_eq hck]
 simp only [rightR, h4, List.any_cons, List.any_nil, notB, rule2, rule3, Bool.or_false]
 cases underN s.name o <;> cases rule4 o l s <;> simp <;> by_cases a6 : s.kind = 6 <;> by_cases a5 : s.kind = 5 <;> by_cases an : s.name = o <;> by_cases a1 : s.data.length = 1 <;> cases l.any (clash s) <;> simp_all
def zeroS : RSet := ⟨[], 0, 0, []⟩
theorem find_one {w w' : World} {r : Value} {o : Option RSet} (h : match o with
 | some s => ∃ x, r = .tuple #[.agg #[str s.name, .int .i64 s.kind, .int .i64 s.ttl, x], .bool true] ∧ Own w.heap.size 1 9 w' x (tcells s.data)
 | none => r = .tuple #[.agg zset.toArray, .bool false]) : ∃ x, r = .tuple #[.agg #[str (o.getD zeroS).name, .int .i64 (o.getD zeroS).kind, .int .i64 (o.getD zeroS).ttl, x], .bool o.isSome] ∧ Sl 1 w' x (tcells (o.getD zeroS).data) := by
 cases o with
 | none => exact ⟨.slice none 0 0, h, Sl.nil _ _⟩
 | some s => obtain ⟨x, h1, h2⟩ := h; exact ⟨x, h1, h2.sl⟩
set_option maxHeartbeats 3000000 in
theorem p_Check1 (o : List UInt8) (v pz : Value) (l : List RSet) (s : RSet) (u : Value) (w : World) (hz : Pts w pz [str o, v]) (hv : SetsAt w v l) (hu : Sl 1 w u (tcells s.data)) (hck : checkS l = 0) : Calls Tryz.prog 86 #[.agg #[str s.name, .int .i64 s.kind, .int .i64 s.ttl, u], pz] w (RetV w (.bool (!rightR o l s))) := by
 go_enter Tryz.func86, Tryz.ntmps86
 repeat' (first | ((with_reducible refine nx0 ?_); go_step) | fail)
 refine wpl_box (vs := [str s.name, .int .i64 s.kind, .int .i64 s.ttl, u]) rfl rfl ?_
 intro ps w1 x1 hs
 refine gset ?_
 have hz1 := hz.ext x1
 (repeat' first | ((with_reducible refine nx0 ?_); go_step) | ((with_reducible refine o_s ?_); first | refine wk0 ?_ | (refine wg0 ?_ ?_ <;> intro hc)) | fail)
 refine wpl_callV (enters_of Tryz.func87 rfl rfl) rfl rfl (p_right o v l s u _ (hv.ext x1) (hu.ext x1) hck) ?_; intro w2 x2; refine gset ?_
 (repeat' first | ((with_reducible refine nx0 ?_); go_step) | ((with_reducible refine o_s ?_); first | refine wk0 ?_ | (refine wg0 ?_ ?_ <;> intro hc)) | fail)
 go_ret
 exact ⟨rfl, x1.trans x2⟩
set_option maxHeartbeats 6000000 in
theorem p_Check (o : List UInt8) (v : Value) (l : List RSet) (w : World) (hv : SetsAt w v l) (hb : ∀ s ∈ l, s.data.length ≤ 1000000) : Calls Tryz.prog 39 #[.agg #[str o, v]] w (RetV w (.int .i64 (zoneR o l))) := by
 obtain ⟨cv, hv1, hvl⟩ := hv.sl
 have hle := hv1.le
 have hb' : ∀ s ∈ l, s.data.length ≤ 8796093022208 := fun s hs => by have := hb s hs; omega
 go_enter Tryz.func39, Tryz.ntmps39
 repeat' (first | ((with_reducible refine nx0 ?_); go_step) | fail)
 refine wpl_box (vs := [str o, v]) rfl rfl ?_
 intro p w1 x1 hp
 refine gset ?_
 (repeat' first | ((with_reducible refine nx0 ?_); go_step) | ((with_reducible refine o_s ?_); first | refine wk0 ?_ | (refine wg0 ?_ ?_ <;> intro hc)) | fail)
 have c1 : ∀ w', Calls Tryz.prog 63 #[str o] w' (RetV w' (.int .i64 (checkE o))) := fun w' => t27 o w'
 have hv2 := hv.ext x1
 have c3 : ∀ w', Ext w1 w' → Calls Tryz.prog 83 #[v] w' (RetV w' (.int .i64 (checkS l))) := fun w' x' => t12 v l w' (hv2.ext x')
 refine wpq_region (by decide +kernel) (by decide +kernel) ?_
 (try ((with_reducible refine qh0 ?_); refine qk0 ?_))
 refine wpq_call (enters_of Tryz.func63 rfl rfl) rfl rfl (fun w' _ => c1 w') ?_
 refine gset ?_
 (try ((with_reducible refine qh0 ?_); refine qk0 ?_))
 by_cases q1 : checkE o = 0
 ·rw [decide_eq_true q1]
  simp only [Bool.not_true]
  (try ((with_reducible refine qh0 ?_); refine qk0 ?_))
  refine wpq_call (enters_of Tryz.func69 rfl rfl) rfl rfl (fun w' _ => t17 o w') ?_
  refine gset ?_
  (try ((with_reducible refine qh0 ?_); refine qk0 ?_))
  by_cases q2 : fold o = o
  ·rw [decide_eq_true q2]
   simp only [Bool.not_true]
   (try ((with_reducible refine qh0 ?_); refine qk0 ?_))
   refine wpq_call (enters_of Tryz.func83 rfl rfl) rfl rfl (fun w' x' => c3 w' x') ?_
   refine gset ?_
   (try ((with_reducible refine qh0 ?_); refine qk0 ?_))
   intro w2 x2
   by_cases q3 : checkS l = 0
   ·rw [decide_eq_true q3]
    simp only [Bool.not_true]
    have hx2 := x1.trans x2
    have hp2 := hp.ext x2
    have hs2 := hv.ext hx2
    (repeat' first | ((with_reducible refine nx0 ?_); go_step) | ((with_reducible refine o_s ?_); first | refine wk0 ?_ | (refine wg0 ?_ ?_ <;> intro hc)) | fail)
    refine wpl_callR (enters_of Tryz.func84 rfl rfl) rfl rfl (t13 v l o 6 _ hs2 hb') ?_
    intro r3 w3 x3 hr3
    obtain ⟨y3, rfl, hy3⟩ := find_one hr3
    clear hr3
    (repeat' first | ((with_reducible refine nx0 ?_); go_step) | ((with_reducible refine o_s ?_); first | refine wk0 ?_ | (refine wg0 ?_ ?_ <;> intro hc)) | fail)
    refine wpl_allocB (z := zset) rfl (by decide +kernel) ?_
    intro w4 x4 s4 h4
    refine gset ?_
    refine wpl_storeB rfl rfl rfl h4 (show sizeTy Tryz.prog 115 4 = true by decide +kernel) rfl (all4 rfl rfl rfl (hy3.one)) ?_
    intro w5 p5
    have x5 : Ext w3 w5 := x4.move p5.mv (by rintro k ⟨⟩; exact Nat.le_refl _)
    have hx5 := hx2.trans (x3.trans x5)
    have hp5 := hp.ext (x2.trans (x3.trans x5))
    have hs5 := hv.ext hx5
    clear p5 h4 x4
    (repeat' first | ((with_reducible refine nx0 ?_); go_step) | ((with_reducible refine o_s ?_); first | refine wk0 ?_ | (refine wg0 ?_ ?_ <;> intro hc)) | fail)
    refine wpl_callR (enters_of Tryz.func84 rfl rfl) rfl rfl (t13 v l o 2 _ hs5 hb') ?_
    intro r6 w6 x6 hr6
    obtain ⟨y6, rfl, hy6⟩ := find_one hr6
    clear hr6
    (repeat' first | ((with_reducible refine nx0 ?_); go_step) | ((with_reducible refine o_s ?_); first | refine wk0 ?_ | (refine wg0 ?_ ?_ <;> intro hc)) | fail)
    refine wpl_allocB (z := zset) rfl (by decide +kernel) ?_
    intro w7 x7 s7 h7
    refine gset ?_
    refine wpl_storeB rfl rfl rfl h7 (show sizeTy Tryz.prog 115 4 = true by decide +kernel) rfl (all4 rfl rfl rfl (hy6.one)) ?_
    intro w8 p8
    have x8 : Ext w6 w8 := x7.move p8.mv (by rintro k ⟨⟩; exact Nat.le_refl _)
    have hx8 := hx5.trans (x6.trans x8)
    have hp8 := hp5.ext (x6.trans x8)
    have hs8 := hv.ext hx8
    clear p8 h7 x7
    cases f6 : (findS l o 6).isSome with
    | false =>
     (repeat' first | ((with_reducible refine nx0 ?_); go_step) | ((with_reducible refine o_s ?_); first | refine wk0 ?_ | (refine wg0 ?_ ?_ <;> intro hc)) | fail)
     go_ret
     exact ⟨by rw [show zoneR o l = 2 by simp [zoneR, q1, q2, q3, f6]]; rfl, hx8⟩
    | true =>
     cases f2 : (findS l o 2).isSome with
     | false =>
      (repeat' first | ((with_reducible refine nx0 ?_); go_step) | ((with_reducible refine o_s ?_); first | refine wk0 ?_ | (refine wg0 ?_ ?_ <;> intro hc)) | fail)
      go_ret
      exact ⟨by rw [show zoneR o l = 2 by simp [zoneR, q1, q2, q3, f6, f2]]; rfl, hx8⟩
     | true =>
      (repeat' first | ((with_reducible refine nx0 ?_); go_step) | ((with_reducible refine o_s ?_); first | refine wk0 ?_ | (refine wg0 ?_ ?_ <;> intro hc)) | fail)
      have hf : SetFn w8 86 #[p] l (fun s => !rightR o l s) := fun s _ x w' hx' hd' => p_Check1 o v p l s x w' (hp8.ext hx') (hs8.ext hx') hd' q3
      refine wpl_callV (enters_of Tryz.func85 rfl rfl) rfl rfl (p_ContainsFunc v l 86 #[p] (fun s => !rightR o l s) _ hs8 (enters_of Tryz.func86 rfl rfl) hf) ?_; intro w9 x9; refine gset ?_
      cases ha : l.any (fun s => !rightR o l s) with
      | true =>
       (repeat' first | ((with_reducible refine nx0 ?_); go_step) | ((with_reducible refine o_s ?_); first | refine wk0 ?_ | (refine wg0 ?_ ?_ <;> intro hc)) | fail)
       go_ret
       exact ⟨by rw [show zoneR o l = 2 by simp only [zoneR, q1, q2, q3, f6, f2, ha]; simp]; rfl, hx8.trans x9⟩
      | false =>
       (repeat' first | ((with_reducible refine nx0 ?_); go_step) | ((with_reducible refine o_s ?_); first | refine wk0 ?_ | (refine wg0 ?_ ?_ <;> intro hc)) | fail)
       go_ret
       exact ⟨by rw [show zoneR o l = 0 by simp only [zoneR, q1, q2, q3, f6, f2, ha]; simp]; rfl, hx8.trans x9⟩
   ·rw [decide_eq_false q3]
    simp only [Bool.not_false]
    (repeat' first | ((with_reducible refine nx0 ?_); go_step) | ((with_reducible refine o_s ?_); first | refine wk0 ?_ | (refine wg0 ?_ ?_ <;> intro hc)) | fail)
    go_ret
    exact ⟨by rw [show zoneR o l = 1 by simp [zoneR, q3]]; rfl, x1.trans x2⟩
  ·rw [decide_eq_false q2]
   simp only [Bool.not_false]
   (try ((with_reducible refine qh0 ?_); refine qk0 ?_))
   intro w2 x2
   (repeat' first | ((with_reducible refine nx0 ?_); go_step) | ((with_reducible refine o_s ?_); first | refine wk0 ?_ | (refine wg0 ?_ ?_ <;> intro hc)) | fail)
   go_ret
   exact ⟨by rw [show zoneR o l = 1 by simp [zoneR, q2]]; rfl, x1.trans x2⟩
 ·rw [decide_eq_false q1]
  simp only [Bool.not_false]
  (try ((with_reducible refine qh0 ?_); refine qk0 ?_))
  intro w2 x2
  (repeat' first | ((with_reducible refine nx0 ?_); go_step) | ((with_reducible refine o_s ?_); first | refine wk0 ?_ | (refine wg0 ?_ ?_ <;> intro hc)) | fail)
  go_ret
  exact ⟨by rw [show zoneR o l = 1 by simp [zoneR, q1]]; rfl, x1.trans x2⟩
theorem may_at {s : RSet} (h : mayS s = true) {i : Nat} (hi : i < s.data.length) : checkR ⟨s.name, s.kind, s.ttl, s.data[i]⟩ = 0 := by
 simp only [mayS, Bool.and_eq_true, List.all_eq_true] at h
 have := h.2 i (by simpa using hi)
 simp only [badAt, Bool.not_eq_true', Bool.or_eq_false_iff, decide_eq_false_iff_not, ne_eq, Decidable.not_not] at this
 have e : s.data.getD i [] = s.data[i] := by simp [hi]
 rw [e] at this
 exact this.1
theorem checkR_data {r : Rec} (h : checkR r = 0) : r.data.length ≤ 4000 ∧ fits r.kind r.data = true := by
 unfold checkR at h
 split at h
 ·omega
 ·split at h
  ·omega
  ·rename_i h2
   simp only [not_or, Bool.not_eq_false] at h2
   exact ⟨by omega, h2.2.2.2.2.2⟩
def zR : SoaR := ⟨[], [], 0, 0, 0, 0, 0⟩
theorem zR_cells : zR.cells = zeroSoa := rfl
def soaD (o : List UInt8) (l : List RSet) : List UInt8 := ((findS l o 6).getD zeroS).data.getD 0 []
def soaZ (o : List UInt8) (l : List RSet) : SoaR := if zoneR o l = 0 then soaOf (soaD o l) else zR
theorem parse_some {d : List UInt8} (h : (parseSoa d).isSome = true) : parseSoa d = some (soaOf d) := by
 unfold parseSoa at *
 simp only at *
 split at h
 ·rename_i h1; rw [if_pos h1]
 ·cases h
theorem ZoneOk.soaSet {o : List UInt8} {l : List RSet} (h : ZoneOk o l) : ∃ s, findS l o 6 = some s ∧ s ∈ l ∧ s.name = o ∧ s.kind = 6 ∧ s.data = [soaD o l] ∧ parseSoa (soaD o l) = some (soaOf (soaD o l)) ∧ (soaD o l).length ≤ 4000 := by
 obtain ⟨s, hs⟩ := Option.isSome_iff_exists.1 h.soa
 obtain ⟨h1, h2, h3⟩ := findS_mem hs
 have hr := h.right s h1
 have hm := h.may h1
 have hl : s.data.length = 1 := by
  simp only [rightR, Bool.and_eq_true, Bool.not_eq_true', h3] at hr
  have := hr.1.1.2
  simp only [decide_true, Bool.true_and, Bool.or_eq_false_iff, decide_eq_false_iff_not, ne_eq, Decidable.not_not] at this
  exact this.2
 have hd : s.data = [soaD o l] := by
  have e : soaD o l = s.data.getD 0 [] := by rw [soaD, hs]; rfl
  rw [e]
  match s.data, hl with
  | [d], _ => rfl
 have hc := may_at hm (i := 0) (by omega)
 obtain ⟨c1, c2⟩ := checkR_data hc
 have e0 : s.data[0]'(by omega) = soaD o l := by simp [hd]
 simp only [e0, h3] at c1 c2
 refine ⟨s, hs, h1, by rw [h2, h.fold], h3, hd, parse_some ?_, c1⟩
 simpa [fits] using c2
theorem soaR_one (s : SoaR) : (Value.agg s.cells.toArray).cells.all (·.oneCell') = true := by
 simp [SoaR.cells, Value.cells, Value.oneCell', str]
set_option maxHeartbeats 3000000 in
theorem p_Soa (o : List UInt8) (v : Value) (l : List RSet) (w : World) (hv : SetsAt w v l) (hb : ∀ s ∈ l, s.data.length ≤ 1000000) (hd : ∀ s ∈ l, ∀ d ∈ s.data, d.length ≤ 4611686018427387904) : Calls Tryz.prog 40 #[.agg #[str o, v]] w (RetV w (.tuple #[.agg (soaZ o l).cells.toArray, .int .i64 (zoneR o l)])) := by
 go_enter Tryz.func40, Tryz.ntmps40
 repeat' (first | ((with_reducible refine nx0 ?_); go_step) | fail)
 refine wpl_box (vs := [str o, v]) rfl rfl ?_
 intro p w1 x1 hp
 refine gset ?_
 refine wpl_allocB (z := zeroSoa) rfl (by decide +kernel) ?_
 intro w2 x2 s2 h2
 refine gset ?_
 have hx2 := x1.trans x2
 have hp2 := hp.ext x2
 have hv2 := hv.ext hx2
 (repeat' first | ((with_reducible refine nx0 ?_); go_step) | ((with_reducible refine o_s ?_); first | refine wk0 ?_ | (refine wg0 ?_ ?_ <;> intro hc)) | fail)
 refine wpl_callV (enters_of Tryz.func39 rfl rfl) rfl rfl (p_Check o v l _ hv2 hb) ?_; intro w3 x3; refine gset ?_
 have hx3 := hx2.trans x3
 have hp3 := hp2.ext x3
 have hv3 := hv2.ext x3
 have h3 := x3.at h2
 (repeat' first | ((with_reducible refine nx0 ?_); go_step) | ((with_reducible refine o_s ?_); first | refine wk0 ?_ | (refine wg0 ?_ ?_ <;> intro hc)) | fail)
 ·have q : ¬ zoneR o l = 0 := by simpa using (by assumption : (!decide (zoneR o l = 0)) = true)
  refine wpl_run (v := .agg zeroSoa.toArray) rfl (Runs.build0 (by kernel_rfl)) ?_
  refine gset ?_
  (repeat' first | ((with_reducible refine nx0 ?_); go_step) | ((with_reducible refine o_s ?_); first | refine wk0 ?_ | (refine wg0 ?_ ?_ <;> intro hc)) | fail)
  refine wpl_storeB (v := .agg zeroSoa.toArray) rfl rfl rfl h3 (by decide +kernel) rfl (by decide +kernel) ?_
  intro w4 p4
  have x4 : Ext w w4 := hx3.move p4.mv (by rintro k ⟨⟩; exact x1.size)
  (repeat' first | ((with_reducible refine nx0 ?_); go_step) | ((with_reducible refine o_s ?_); first | refine wk0 ?_ | (refine wg0 ?_ ?_ <;> intro hc)) | fail)
  refine bodyPost_ret (results_cellT (cs := zeroSoa) rfl rfl p4.this (by decide +kernel)) rfl ⟨?_, x4⟩
  rw [show soaZ o l = zR by rw [soaZ, if_neg q], zR_cells]
  rfl
 ·have q : zoneR o l = 0 := by simpa using (by assumption : (!decide (zoneR o l = 0)) = false)
  obtain ⟨s, hf, hs, hn, hk, hdat, hpar, hlen⟩ := (zone_ok q).soaSet
  have hZ : soaZ o l = soaOf (soaD o l) := by rw [soaZ, if_pos q]
  have hP : ∀ w', Calls Tryz.prog 88 #[str (soaD o l)] w' (RetV w' (.tuple #[.agg (soaOf (soaD o l)).cells.toArray, .int .i64 0])) := fun w' => by
   have := t38 (soaD o l) w' (by omega)
   rw [hpar] at this
   exact this
  clear hpar
  generalize soaD o l = dd at *
  generalize hgen : soaOf dd = ss at *
  refine wpl_callR (enters_of Tryz.func84 rfl rfl) rfl rfl (t13 v l o 6 _ hv3 (fun s hs => by have := hb s hs; omega)) ?_
  intro r4 w4 x4 hr4
  rw [hf] at hr4
  obtain ⟨y, rfl, oy⟩ := hr4
  have hx4 := hx3.trans x4
  (repeat' first | ((with_reducible refine nx0 ?_); go_step) | ((with_reducible refine o_s ?_); first | refine wk0 ?_ | (refine wg0 ?_ ?_ <;> intro hc)) | fail)
  refine wpl_allocB (z := zset) rfl (by decide +kernel) ?_
  intro w5 x5 s5 h5
  refine gset ?_
  refine wpl_storeB (v := .agg #[str s.name, .int .i64 s.kind, .int .i64 s.ttl, y]) rfl rfl rfl h5 (show sizeTy Tryz.prog 115 4 = true by decide +kernel) rfl (all4 rfl rfl rfl oy.one) ?_
  intro w6 p6
  have x6 : Ext w4 w6 := x5.move p6.mv (by rintro k ⟨⟩; exact Nat.le_refl _)
  have hp6 := pts_block (cs := [str s.name, .int .i64 s.kind, .int .i64 s.ttl, y]) p6.this
  have hy6 := oy.sl.ext x6
  rw [hdat] at hy6
  have hx6 := hx4.trans x6
  have h6 := (x4.trans x6).at h3
  have hy0 := hy6.elem (i := 0) (e := [str dd]) rfl
  clear p6 h5 x5
  have hl1 : (tcells [dd]).length = 1 := rfl
  (repeat' first | ((with_reducible refine nx0 ?_); go_step) | ((with_reducible refine o_s ?_); first | refine wk0 ?_ | (refine wg0 ?_ ?_ <;> intro hc)) | fail)
  refine wpl_callV (enters_of Tryz.func88 rfl rfl) rfl rfl (hP _) ?_; intro w7 x7; refine gset ?_
  have h7 := x7.at h6
  (repeat' first | ((with_reducible refine nx0 ?_); go_step) | ((with_reducible refine o_s ?_); first | refine wk0 ?_ | (refine wg0 ?_ ?_ <;> intro hc)) | fail)
  refine wpl_storeB (v := .agg ss.cells.toArray) rfl rfl rfl h7 (show sizeTy Tryz.prog 61 7 = true by decide +kernel) rfl (soaR_one _) ?_
  intro w8 p8
  have x8 : Ext w w8 := (hx6.trans x7).move p8.mv (by rintro k ⟨⟩; exact x1.size)
  (repeat' first | ((with_reducible refine nx0 ?_); go_step) | ((with_reducible refine o_s ?_); first | refine wk0 ?_ | (refine wg0 ?_ ?_ <;> intro hc)) | fail)
  refine bodyPost_ret (results_cellT (cs := ss.cells) rfl rfl p8.this (show aggTy Tryz.prog 61 7 = true by decide +kernel)) rfl ⟨?_, x8⟩
  rw [hZ, q]
  rfl
set_option maxHeartbeats 3000000 in
theorem r8_Soa (o : List UInt8) (v : Value) (l : List RSet) (w : World) (hv : SetsAt w v l) (hb : ∀ s ∈ l, s.data.length ≤ 1000000) (hd : ∀ s ∈ l, ∀ d ∈ s.data, d.length ≤ 4611686018427387904) : Calls Tryz.prog 96 #[.agg #[str o, v]] w (RetV w (.tuple #[.agg (soaZ o l).cells.toArray, .int .i64 (zoneR o l)])) := by
 go_enter Tryz.func96, Tryz.ntmps96
 repeat' (first | ((with_reducible refine nx0 ?_); go_step) | fail)
 refine wpl_box (vs := [str o, v]) rfl rfl ?_
 intro p w1 x1 hp
 refine gset ?_
 refine wpl_allocB (z := zeroSoa) rfl (by decide +kernel) ?_
 intro w2 x2 s2 h2
 refine gset ?_
 have hx2 := x1.trans x2
 have hp2 := hp.ext x2
 have hv2 := hv.ext hx2
 (repeat' first | ((with_reducible refine nx0 ?_); go_step) | ((with_reducible refine o_s ?_); first | refine wk0 ?_ | (refine wg0 ?_ ?_ <;> intro hc)) | fail)
 refine wpl_callV (enters_of Tryz.func91 rfl rfl) rfl rfl (r8_Check o v l _ hv2 hb hd) ?_; intro w3 x3; refine gset ?_
 have hx3 := hx2.trans x3
 have hp3 := hp2.ext x3
 have hv3 := hv2.ext x3
 have h3 := x3.at h2
 (repeat' first | ((with_reducible refine nx0 ?_); go_step) | ((with_reducible refine o_s ?_); first | refine wk0 ?_ | (refine wg0 ?_ ?_ <;> intro hc)) | fail)
 ·have q : ¬ zoneR o l = 0 := by simpa using (by assumption : (!decide (zoneR o l = 0)) = true)
  refine wpl_run (v := .agg zeroSoa.toArray) rfl (Runs.build0 (by kernel_rfl)) ?_
  refine gset ?_
  (repeat' first | ((with_reducible refine nx0 ?_); go_step) | ((with_reducible refine o_s ?_); first | refine wk0 ?_ | (refine wg0 ?_ ?_ <;> intro hc)) | fail)
  refine wpl_storeB (v := .agg zeroSoa.toArray) rfl rfl rfl h3 (by decide +kernel) rfl (by decide +kernel) ?_
  intro w4 p4
  have x4 : Ext w w4 := hx3.move p4.mv (by rintro k ⟨⟩; exact x1.size)
  (repeat' first | ((with_reducible refine nx0 ?_); go_step) | ((with_reducible refine o_s ?_); first | refine wk0 ?_ | (refine wg0 ?_ ?_ <;> intro hc)) | fail)
  refine bodyPost_ret (results_cellT (cs := zeroSoa) rfl rfl p4.this (by decide +kernel)) rfl ⟨?_, x4⟩
  rw [show soaZ o l = zR by rw [soaZ, if_neg q], zR_cells]
  rfl
 ·have q : zoneR o l = 0 := by simpa using (by assumption : (!decide (zoneR o l = 0)) = false)
  obtain ⟨s, hf, hs, hn, hk, hdat, hpar, hlen⟩ := (zone_ok q).soaSet
  have hZ : soaZ o l = soaOf (soaD o l) := by rw [soaZ, if_pos q]
  have hP : ∀ w', Calls Tryz.prog 157 #[str (soaD o l)] w' (RetV w' (.tuple #[.agg (soaOf (soaD o l)).cells.toArray, .int .i64 0])) := fun w' => by
   have := r3_ParseSoa (soaD o l) w' (by omega)
   rw [hpar] at this
   exact this
  clear hpar
  generalize soaD o l = dd at *
  generalize hgen : soaOf dd = ss at *
  refine wpl_callR (enters_of Tryz.func155 rfl rfl) rfl rfl (r7_Find v l o 6 _ hv3 hb) ?_
  intro r4 w4 x4 hr4
  rw [hf] at hr4
  obtain ⟨y, rfl, oy⟩ := hr4
  have hx4 := hx3.trans x4
  (repeat' first | ((with_reducible refine nx0 ?_); go_step) | ((with_reducible refine o_s ?_); first | refine wk0 ?_ | (refine wg0 ?_ ?_ <;> intro hc)) | fail)
  refine wpl_allocB (z := zset) rfl (by decide +kernel) ?_
  intro w5 x5 s5 h5
  refine gset ?_
  refine wpl_storeB (v := .agg #[str s.name, .int .i64 s.kind, .int .i64 s.ttl, y]) rfl rfl rfl h5 (show sizeTy Tryz.prog 115 4 = true by decide +kernel) rfl (all4 rfl rfl rfl oy.one) ?_
  intro w6 p6
  have x6 : Ext w4 w6 := x5.move p6.mv (by rintro k ⟨⟩; exact Nat.le_refl _)
  have hp6 := pts_block (cs := [str s.name, .int .i64 s.kind, .int .i64 s.ttl, y]) p6.this
  have hy6 := oy.sl.ext x6
  rw [hdat] at hy6
  have hx6 := hx4.trans x6
  have h6 := (x4.trans x6).at h3
  have hy0 := hy6.elem (i := 0) (e := [str dd]) rfl
  clear p6 h5 x5
  have hl1 : (tcells [dd]).length = 1 := rfl
  (repeat' first | ((with_reducible refine nx0 ?_); go_step) | ((with_reducible refine o_s ?_); first | refine wk0 ?_ | (refine wg0 ?_ ?_ <;> intro hc)) | fail)
  refine wpl_callV (enters_of Tryz.func157 rfl rfl) rfl rfl (hP _) ?_; intro w7 x7; refine gset ?_
  have h7 := x7.at h6
  (repeat' first | ((with_reducible refine nx0 ?_); go_step) | ((with_reducible refine o_s ?_); first | refine wk0 ?_ | (refine wg0 ?_ ?_ <;> intro hc)) | fail)
  refine wpl_storeB (v := .agg ss.cells.toArray) rfl rfl rfl h7 (show sizeTy Tryz.prog 61 7 = true by decide +kernel) rfl (soaR_one _) ?_
  intro w8 p8
  have x8 : Ext w w8 := (hx6.trans x7).move p8.mv (by rintro k ⟨⟩; exact x1.size)
  (repeat' first | ((with_reducible refine nx0 ?_); go_step) | ((with_reducible refine o_s ?_); first | refine wk0 ?_ | (refine wg0 ?_ ?_ <;> intro hc)) | fail)
  refine bodyPost_ret (results_cellT (cs := ss.cells) rfl rfl p8.this (show aggTy Tryz.prog 61 7 = true by decide +kernel)) rfl ⟨?_, x8⟩
  rw [hZ, q]
  rfl
def textS (s : List UInt8) : List (List UInt8) → List (List UInt8)
 | [] => [s]
 | x :: l => if Op.bytesLess x s = true then x :: textS s l else if x = s then x :: l else s :: x :: l
theorem textS_take {s : List UInt8} : ∀ {l : List (List UInt8)} {k : Nat}, (∀ x ∈ l.take k, Op.bytesLess x s = true) → textS s l = l.take k ++ textS s (l.drop k)
 | l, 0, _ => by simp
 | [], k + 1, _ => by simp
 | x :: l, k + 1, h => by
   have h1 := h x (by simp)
   simp only [List.take_succ_cons, List.drop_succ_cons, List.cons_append]
   rw [textS, if_pos h1, textS_take (k := k) (fun y hy => h y (by simp [hy]))]
theorem textS_len (s : List UInt8) : ∀ l : List (List UInt8), (textS s l).length ≤ l.length + 1
 | [] => by simp [textS]
 | x :: l => by
   rw [textS]
   split
   ·have := textS_len s l; simp; omega
   ·split <;> simp
theorem tcells_one (l : List (List UInt8)) : ∀ f ∈ tcells l, ∀ u ∈ f, u.oneCell' = true := by
 intro f hf u hu
 obtain ⟨x, _, rfl⟩ := List.mem_map.1 hf
 simp only [List.mem_singleton] at hu
 subst hu; rfl
set_option maxHeartbeats 6000000 in
theorem r7_text (v : Value) (l : List (List UInt8)) (s : List UInt8) (w : World) (hv : Sl 1 w v (tcells l)) (hl : l.length ≤ 100000) : Calls Tryz.prog 258 #[v, str s] w (Ret w fun r w' => (r = v ∧ textS s l = l) ∨ Own w.heap.size 1 9 w' r (tcells (textS s l))) := by
 have hlen := tcells_length l
 go_enter Tryz.func258, Tryz.ntmps258
 (repeat' first | ((with_reducible refine nx0 ?_); go_step) | ((with_reducible refine o_s ?_); first | refine wk0 ?_ | (refine wg0 ?_ ?_ <;> intro hc)) | fail)
 go_loopw [5, 6] (fun o i wr => ∃ k : Nat, k ≤ l.length ∧ i = .int .i64 k ∧ Ext w wr ∧ Own w.heap.size 1 9 wr o (tcells (l.take k)) ∧ ∀ x ∈ l.take k, Op.bytesLess x s = true) (fun _ i _ => l.length - (intOf i).toNat)
 case atStart => exact ⟨0, Nat.zero_le _, rfl, Ext.refl _, Own.nil _ _ _ _, by simp⟩
 case round =>
  obtain ⟨k, hk, rfl, hx, ho, hall⟩ := hrel
  have hv1 := hv.ext hx
  have htx := textS_take hall
  by_cases hlt : k < l.length
  ·have hp := hv1.elem (tcells_at hlt)
   have hd : l.drop k = l[k] :: l.drop (k + 1) := List.drop_eq_getElem_cons hlt
   rw [hd, textS] at htx
   (repeat' first | ((with_reducible refine nx0 ?_); go_step) | ((with_reducible refine o_s ?_); first | refine wk0 ?_ | (refine wg0 ?_ ?_ <;> intro hc)) | fail)
   all_goals try (exfalso; omega)
   ·have hb := ‹Op.bytesLess l[k] s = true›
    refine ap1 [str l[k]] hx ho (by rw [tcells_length]; simp; omega) ?_
    intro s2 v2 w1 w2 _ _ x2 o2
    refine gset ?_
    (repeat' first | ((with_reducible refine nx0 ?_); go_step) | ((with_reducible refine o_s ?_); first | refine wk0 ?_ | (refine wg0 ?_ ?_ <;> intro hc)) | fail)
    refine ⟨⟨k + 1, by omega, by go_num, x2, ?_, ?_⟩, by simp [intOf]; omega⟩
    ·rw [show tcells (l.take (k + 1)) = tcells (l.take k) ++ [[str l[k]]] by rw [tcells, tcells, map_take_succ hlt]]
     exact o2
    ·intro x hm
     rw [List.take_add_one, List.getElem?_eq_getElem hlt] at hm
     simp only [Option.toList_some, List.mem_append, List.mem_singleton] at hm
     rcases hm with hm | rfl
     ·exact hall x hm
     ·exact hb
   ·have hb := ‹Op.bytesLess l[k] s = false›
    have he := ‹l[k] = s›
    rw [hb, if_neg (by simp), if_pos he, ← hd, List.take_append_drop] at htx
    go_ret
    exact ⟨_, rfl, hx, .inl ⟨rfl, htx⟩⟩
   ·have hb := ‹Op.bytesLess l[k] s = false›
    have he := ‹¬l[k] = s›
    rw [hb, if_neg (by simp), if_neg he, ← hd] at htx
    refine ap1 [str s] hx ho (by rw [tcells_length]; simp; omega) ?_
    intro s2 v2 w1 w2 xa _ x2 o2
    refine gset ?_
    have hv3 := (hv.ext x2)
    (repeat' first | ((with_reducible refine nx0 ?_); go_step) | ((with_reducible refine o_s ?_); first | refine wk0 ?_ | (refine wg0 ?_ ?_ <;> intro hc)) | fail)
    have hcut := hv3.cut (m := k) (n := (tcells l).length) (by omega) (Nat.le_refl _)
    have e : (((tcells l).take (tcells l).length).drop k) = tcells (l.drop k) := by rw [List.take_length]; simp [tcells]
    rw [e] at hcut
    refine wpl_appendO (B := w.heap.size) rfl o2 rfl hcut (tcells_one _) x2.size (by simp only [List.length_append, tcells_length, List.length_take, List.length_drop, List.length_cons, List.length_nil]; omega) ?_
    intro v3 w3 o3 m3 _
    refine gset ?_
    have x3 := o2.mvx m3 x2 (Nat.le_refl _)
    (repeat' first | ((with_reducible refine nx0 ?_); go_step) | ((with_reducible refine o_s ?_); first | refine wk0 ?_ | (refine wg0 ?_ ?_ <;> intro hc)) | fail)
    go_ret
    refine ⟨_, rfl, x3, .inr ?_⟩
    rw [htx]
    simpa [tcells] using o3
  ·have : k = l.length := by omega
   subst this
   rw [List.drop_length, List.take_length, textS] at htx
   rw [List.take_length] at ho
   (repeat' first | ((with_reducible refine nx0 ?_); go_step) | ((with_reducible refine o_s ?_); first | refine wk0 ?_ | (refine wg0 ?_ ?_ <;> intro hc)) | fail)
   all_goals try (exfalso; omega)
   refine ap1 [str s] hx ho (by rw [tcells_length]; omega) ?_
   intro s2 v2 w1 w2 xa _ x2 o2
   refine gset ?_
   have hv3 := (hv.ext x2)
   (repeat' first | ((with_reducible refine nx0 ?_); go_step) | ((with_reducible refine o_s ?_); first | refine wk0 ?_ | (refine wg0 ?_ ?_ <;> intro hc)) | fail)
   have hcut := hv3.cut (m := l.length) (n := (tcells l).length) (by omega) (Nat.le_refl _)
   have e : (((tcells l).take (tcells l).length).drop l.length) = tcells [] := by rw [List.take_length]; simp [tcells]
   rw [e] at hcut
   refine wpl_appendO (B := w.heap.size) rfl o2 rfl hcut (tcells_one _) x2.size (by simp only [List.length_append, tcells_length, List.length_take, List.length_drop, List.length_cons, List.length_nil]; omega) ?_
   intro v3 w3 o3 m3 _
   refine gset ?_
   have x3 := o2.mvx m3 x2 (Nat.le_refl _)
   (repeat' first | ((with_reducible refine nx0 ?_); go_step) | ((with_reducible refine o_s ?_); first | refine wk0 ?_ | (refine wg0 ?_ ?_ <;> intro hc)) | fail)
   go_ret
   refine ⟨_, rfl, x3, .inr ?_⟩
   rw [htx]
   simpa [tcells] using o3
def recSet (r : Rec) : RSet := ⟨fold r.name, r.kind, r.ttl, [r.data]⟩
def putS (r : Rec) : List RSet → List RSet
 | [] => [recSet r]
 | g :: gs => if aheadS g (recSet r) = true then g :: putS r gs else if aheadS (recSet r) g = true then recSet r :: g :: gs else ⟨fold r.name, r.kind, min r.ttl g.ttl, textS r.data g.data⟩ :: gs
theorem putS_take {r : Rec} : ∀ {l : List RSet} {k : Nat}, (∀ g ∈ l.take k, aheadS g (recSet r) = true) → putS r l = l.take k ++ putS r (l.drop k)
 | l, 0, _ => by simp
 | [], k + 1, _ => by simp
 | x :: l, k + 1, h => by
   have h1 := h x (by simp)
   simp only [List.take_succ_cons, List.drop_succ_cons, List.cons_append]
   rw [putS, if_pos h1, putS_take (k := k) (fun y hy => h y (by simp [hy]))]
set_option maxHeartbeats 6000000 in
theorem r7_put {B : Nat} (v : Value) (l : List RSet) (r : Rec) (w : World) (hv : SetsO B w v l) (hB : B ≤ w.heap.size) (hl : l.length ≤ 100000) (hd : ∀ s ∈ l, s.data.length ≤ 100000) :
 Calls Tryz.prog 219 #[v, .agg #[str r.name, .int .i64 r.kind, .int .i64 r.ttl, str r.data]] w (Ret w fun u w' => SetsO B w' u (putS r l)) := by
 obtain ⟨css, hv1, hvf, hcs, hcf⟩ := hv
 have hcl := hcs.len
 go_enter Tryz.func219, Tryz.ntmps219
 repeat' (first | ((with_reducible refine nx0 ?_); go_step) | fail)
 refine wpl_box (vs := Rec.cells r) rfl rfl ?_
 intro p w1 x1 hp
 refine gset ?_
 have hp : Pts w1 p [str r.name, .int .i64 r.kind, .int .i64 r.ttl, str r.data] := hp
 (repeat' first | ((with_reducible refine nx0 ?_); go_step) | ((with_reducible refine o_s ?_); first | refine wk0 ?_ | (refine wg0 ?_ ?_ <;> intro hc)) | fail)
 refine wph_region (S := fun w' => Ext w1 w') (by decide +kernel) ?_
 intro w2 x2 hh2
 refine tk 0 ?_; refine gset ?_; refine tk 1 ?_; refine gset ?_; refine tk 3 ?_; refine gset ?_; refine tk 4 ?_; refine gset ?_; refine tk 5 ?_; refine gset ?_; refine tk 6 ?_; refine gset ?_; refine tk 7 ?_; refine gset ?_; refine tk 8 ?_; refine gset ?_
 apply meet3 (F := fun (vS : Value) (b : Nat) w' => Ext w1 w' ∧ w1.heap.size ≤ b ∧ w'.heap[b]? = some (.cells zset.toArray 115 (0, 0)) ∧ Own w1.heap.size 1 9 w' vS ([str r.data].map (·.cells.toList)))
 ·intro hG
  have hx0 := x2
  have hx : Ext w2 w2 := Ext.refl _
  have hz12 := x2.size
  refine wph_three (i := 2) (j := 9) (k := 11) (by decide +kernel) rfl rfl rfl rfl ?_ ?_ ?_
  ·refine wpl_callV (enters_of Tryz.func113 rfl rfl) rfl rfl (r1_Fold r.name _) ?_
   intro w_1 x_1
   have hx := hx.trans x_1
   refine gset ?_
   refine wph_nil ⟨hx0.trans hx, ?_⟩
   refine wph_two (i := 9) (j := 11) (by decide +kernel) rfl rfl rfl ?_ ?_
   ·refine wpl_slice (e := 9) (k := 1) (bytes := 16) (xs := [str r.data]) rfl rfl rfl (by simp [str, Value.cells]) (by decide +kernel) (by simp) ?_
    intro vS w_4 x_4 _ _ hs
    have hs := hs.weaken (Nat.le_trans hz12 (by have := hx.size; omega))
    have hx := hx.trans x_4
    refine gset ?_
    refine wph_nil ⟨hx0.trans hx, ?_⟩
    refine wph_take (i := 10) (v := .agg #[str (fold r.name), .int .i64 r.kind, .int .i64 r.ttl, vS]) rfl rfl (by decide +kernel) (by decide +kernel) (by decide +kernel) rfl (hx0.trans hx) (fun w' _ => Runs.build rfl (by obtain ⟨_, _, _, rfl⟩ := hs.sl.slf; kernel_rfl)) (fun _ _ _ h => h) ?_; refine gset ?_
    refine wph_one (i := 11) (by decide +kernel) rfl rfl ?_
    refine wpl_allocB (z := zset) rfl (by decide +kernel) ?_
    intro w_6 x_6 s_6 ha
    have hb := hx.size
    have hx := hx.trans x_6
    have hs := hs.ext x_6
    generalize hbE : w_4.heap.size = b at *
    refine gset ?_
    refine wph_nil ⟨hx0.trans hx, ?_⟩
    exact hG vS b _ ⟨hx0.trans hx, by omega, ha, hs⟩
   ·refine wpl_allocB (z := zset) rfl (by decide +kernel) ?_
    intro w_5 x_5 s_5 ha
    have hb := hx.size
    have hx := hx.trans x_5
    generalize hbE : w_1.heap.size = b at *
    refine gset ?_
    refine wph_nil ⟨hx0.trans hx, ?_⟩
    refine wph_one (i := 9) (by decide +kernel) rfl rfl ?_
    refine wpl_slice (e := 9) (k := 1) (bytes := 16) (xs := [str r.data]) rfl rfl rfl (by simp [str, Value.cells]) (by decide +kernel) (by simp) ?_
    intro vS w_7 x_7 _ _ hs
    have hs := hs.weaken (Nat.le_trans hz12 (by have := hx.size; omega))
    have hx := hx.trans x_7
    have ha := x_7.at ha
    refine gset ?_
    refine wph_nil ⟨hx0.trans hx, ?_⟩
    refine wph_take (i := 10) (v := .agg #[str (fold r.name), .int .i64 r.kind, .int .i64 r.ttl, vS]) rfl rfl (by decide +kernel) (by decide +kernel) (by decide +kernel) rfl (hx0.trans hx) (fun w' _ => Runs.build rfl (by obtain ⟨_, _, _, rfl⟩ := hs.sl.slf; kernel_rfl)) (fun _ _ _ h => h) ?_; refine gset ?_
    exact hG vS b _ ⟨hx0.trans hx, by omega, ha, hs⟩
  ·refine wpl_slice (e := 9) (k := 1) (bytes := 16) (xs := [str r.data]) rfl rfl rfl (by simp [str, Value.cells]) (by decide +kernel) (by simp) ?_
   intro vS w_2 x_2 _ _ hs
   have hs := hs.weaken (Nat.le_trans hz12 (by have := hx.size; omega))
   have hx := hx.trans x_2
   refine gset ?_
   refine wph_nil ⟨hx0.trans hx, ?_⟩
   refine wph_two (i := 2) (j := 11) (by decide +kernel) rfl rfl rfl ?_ ?_
   ·refine wpl_callV (enters_of Tryz.func113 rfl rfl) rfl rfl (r1_Fold r.name _) ?_
    intro w_8 x_8
    have hx := hx.trans x_8
    have hs := hs.ext x_8
    refine gset ?_
    refine wph_nil ⟨hx0.trans hx, ?_⟩
    refine wph_take (i := 10) (v := .agg #[str (fold r.name), .int .i64 r.kind, .int .i64 r.ttl, vS]) rfl rfl (by decide +kernel) (by decide +kernel) (by decide +kernel) rfl (hx0.trans hx) (fun w' _ => Runs.build rfl (by obtain ⟨_, _, _, rfl⟩ := hs.sl.slf; kernel_rfl)) (fun _ _ _ h => h) ?_; refine gset ?_
    refine wph_one (i := 11) (by decide +kernel) rfl rfl ?_
    refine wpl_allocB (z := zset) rfl (by decide +kernel) ?_
    intro w_10 x_10 s_10 ha
    have hb := hx.size
    have hx := hx.trans x_10
    have hs := hs.ext x_10
    generalize hbE : w_8.heap.size = b at *
    refine gset ?_
    refine wph_nil ⟨hx0.trans hx, ?_⟩
    exact hG vS b _ ⟨hx0.trans hx, by omega, ha, hs⟩
   ·refine wpl_allocB (z := zset) rfl (by decide +kernel) ?_
    intro w_9 x_9 s_9 ha
    have hb := hx.size
    have hx := hx.trans x_9
    have hs := hs.ext x_9
    generalize hbE : w_2.heap.size = b at *
    refine gset ?_
    refine wph_nil ⟨hx0.trans hx, ?_⟩
    refine wph_one (i := 2) (by decide +kernel) rfl rfl ?_
    refine wpl_callV (enters_of Tryz.func113 rfl rfl) rfl rfl (r1_Fold r.name _) ?_
    intro w_11 x_11
    have hx := hx.trans x_11
    have hs := hs.ext x_11
    have ha := x_11.at ha
    refine gset ?_
    refine wph_nil ⟨hx0.trans hx, ?_⟩
    refine wph_take (i := 10) (v := .agg #[str (fold r.name), .int .i64 r.kind, .int .i64 r.ttl, vS]) rfl rfl (by decide +kernel) (by decide +kernel) (by decide +kernel) rfl (hx0.trans hx) (fun w' _ => Runs.build rfl (by obtain ⟨_, _, _, rfl⟩ := hs.sl.slf; kernel_rfl)) (fun _ _ _ h => h) ?_; refine gset ?_
    exact hG vS b _ ⟨hx0.trans hx, by omega, ha, hs⟩
  ·refine wpl_allocB (z := zset) rfl (by decide +kernel) ?_
   intro w_3 x_3 s_3 ha
   have hb := hx.size
   have hx := hx.trans x_3
   generalize hbE : w2.heap.size = b at *
   refine gset ?_
   refine wph_nil ⟨hx0.trans hx, ?_⟩
   refine wph_two (i := 2) (j := 9) (by decide +kernel) rfl rfl rfl ?_ ?_
   ·refine wpl_callV (enters_of Tryz.func113 rfl rfl) rfl rfl (r1_Fold r.name _) ?_
    intro w_12 x_12
    have hx := hx.trans x_12
    have ha := x_12.at ha
    refine gset ?_
    refine wph_nil ⟨hx0.trans hx, ?_⟩
    refine wph_one (i := 9) (by decide +kernel) rfl rfl ?_
    refine wpl_slice (e := 9) (k := 1) (bytes := 16) (xs := [str r.data]) rfl rfl rfl (by simp [str, Value.cells]) (by decide +kernel) (by simp) ?_
    intro vS w_14 x_14 _ _ hs
    have hs := hs.weaken (Nat.le_trans hz12 (by have := hx.size; omega))
    have hx := hx.trans x_14
    have ha := x_14.at ha
    refine gset ?_
    refine wph_nil ⟨hx0.trans hx, ?_⟩
    refine wph_take (i := 10) (v := .agg #[str (fold r.name), .int .i64 r.kind, .int .i64 r.ttl, vS]) rfl rfl (by decide +kernel) (by decide +kernel) (by decide +kernel) rfl (hx0.trans hx) (fun w' _ => Runs.build rfl (by obtain ⟨_, _, _, rfl⟩ := hs.sl.slf; kernel_rfl)) (fun _ _ _ h => h) ?_; refine gset ?_
    exact hG vS b _ ⟨hx0.trans hx, by omega, ha, hs⟩
   ·refine wpl_slice (e := 9) (k := 1) (bytes := 16) (xs := [str r.data]) rfl rfl rfl (by simp [str, Value.cells]) (by decide +kernel) (by simp) ?_
    intro vS w_13 x_13 _ _ hs
    have hs := hs.weaken (Nat.le_trans hz12 (by have := hx.size; omega))
    have hx := hx.trans x_13
    have ha := x_13.at ha
    refine gset ?_
    refine wph_nil ⟨hx0.trans hx, ?_⟩
    refine wph_one (i := 2) (by decide +kernel) rfl rfl ?_
    refine wpl_callV (enters_of Tryz.func113 rfl rfl) rfl rfl (r1_Fold r.name _) ?_
    intro w_15 x_15
    have hx := hx.trans x_15
    have hs := hs.ext x_15
    have ha := x_15.at ha
    refine gset ?_
    refine wph_nil ⟨hx0.trans hx, ?_⟩
    refine wph_take (i := 10) (v := .agg #[str (fold r.name), .int .i64 r.kind, .int .i64 r.ttl, vS]) rfl rfl (by decide +kernel) (by decide +kernel) (by decide +kernel) rfl (hx0.trans hx) (fun w' _ => Runs.build rfl (by obtain ⟨_, _, _, rfl⟩ := hs.sl.slf; kernel_rfl)) (fun _ _ _ h => h) ?_; refine gset ?_
    exact hG vS b _ ⟨hx0.trans hx, by omega, ha, hs⟩
 ·intro vS b w3 hF
  obtain ⟨x3, hb, h3, hs3⟩ := hF
  have hs3 : Own w1.heap.size 1 9 w3 vS (tcells [r.data]) := by simpa [tcells, Value.cells, str] using hs3
  have x13 : Ext w w3 := x1.trans x3
  have s1 := x1.size
  refine wph_one (i := 12) (by decide +kernel) rfl rfl ?_
  refine wpl_storeB (v := .agg #[str (fold r.name), .int .i64 r.kind, .int .i64 r.ttl, vS]) rfl rfl rfl h3 (show sizeTy Tryz.prog 115 4 = true by decide +kernel) rfl (all4 rfl rfl rfl hs3.sl.one) ?_
  intro w4 p4
  have x14 : Ext w1 w4 := x3.move p4.mv (by rintro k ⟨⟩; exact hb)
  have x4 : Ext w w4 := x13.move p4.mv (by rintro k ⟨⟩; omega)
  have hB4 : B ≤ w4.heap.size := Nat.le_trans hB x4.size
  have hf4 : From B vS := hs3.from' (Nat.le_trans hB s1)
  have hs4 : Sl 1 w4 vS (tcells [r.data]) := (hs3.mv p4.mv (.inr (hs3.neBlock h3 (by decide)))).sl
  have h4 : w4.heap[b]? = some (.cells [str (fold r.name), .int .i64 r.kind, .int .i64 r.ttl, vS].toArray 115 (0, 0)) := p4.this
  have hbz : b < w4.heap.size := (Array.getElem?_eq_some_iff.1 h4).1
  refine wph_nil ⟨x14, ?_⟩
  refine wph_done (by decide +kernel) ?_
  clear p4 h3 hs3 x3 x13
  (repeat' first | ((with_reducible refine nx0 ?_); go_step) | ((with_reducible refine o_s ?_); first | refine wk0 ?_ | (refine wg0 ?_ ?_ <;> intro hc)) | fail)
  have hb4 := pts_block h4
  go_loopw [6, 7] (fun o i wr => ∃ k : Nat, k ≤ l.length ∧ i = .int .i64 k ∧ Ext w4 wr ∧ Own w4.heap.size 4 115 wr o (css.take k) ∧ ∀ g ∈ l.take k, aheadS g (recSet r) = true) (fun _ i _ => l.length - (intOf i).toNat)
  case atStart => exact ⟨0, Nat.zero_le _, rfl, Ext.refl _, Own.nil _ _ _ _, by simp⟩
  case round =>
   obtain ⟨k, hk, rfl, hx, ho, hall⟩ := hrel
   have hxw := x4.trans hx
   have hvr := hv1.ext hxw
   have hcr := hcs.ext hxw
   have hbr := hb4.ext hx
   have hput := putS_take hall
   by_cases hlt : k < l.length
   ·obtain ⟨x, hc1, hc2w⟩ := hcs.at' k _ (List.getElem?_eq_getElem hlt)
    have hc2 := hc2w.ext hxw
    have hdk := hd _ (List.getElem_mem hlt)
    have hp1 := hvr.elem hc1
    rw [List.drop_eq_getElem_cons hlt, putS] at hput
    have hah : ∀ w', Calls Tryz.prog 203 #[.agg #[str l[k].name, .int .i64 l[k].kind, .int .i64 l[k].ttl, x], .agg #[str (fold r.name), .int .i64 r.kind, .int .i64 r.ttl, vS]] w' (RetV w' (.bool (aheadS l[k] (recSet r)))) := fun w' => r7_ahead l[k] (recSet r) x vS w'
    have hha : ∀ w', Calls Tryz.prog 203 #[.agg #[str (fold r.name), .int .i64 r.kind, .int .i64 r.ttl, vS], .agg #[str l[k].name, .int .i64 l[k].kind, .int .i64 l[k].ttl, x]] w' (RetV w' (.bool (aheadS (recSet r) l[k]))) := fun w' => r7_ahead (recSet r) l[k] vS x w'
    (repeat' first | ((with_reducible refine nx0 ?_); go_step) | ((with_reducible refine o_s ?_); first | refine wk0 ?_ | (refine wg0 ?_ ?_ <;> intro hc)) | fail)
    refine wpq_region (by decide +kernel) (by decide +kernel) ?_
    (try ((with_reducible refine qh0 ?_); refine qk0 ?_))
    rw [show decide ((k : Int) < (css.length : Int)) = true by simp; omega]
    (try ((with_reducible refine qh0 ?_); refine qk0 ?_))
    refine wpq_call (enters_of Tryz.func203 rfl rfl) rfl rfl (fun w' _ => hah w') ?_
    refine gset ?_
    (try ((with_reducible refine qh0 ?_); refine qk0 ?_))
    intro w5 x5
    cases ha : aheadS l[k] (recSet r) with
    | true =>
     (repeat' first | ((with_reducible refine nx0 ?_); go_step) | ((with_reducible refine o_s ?_); first | refine wk0 ?_ | (refine wg0 ?_ ?_ <;> intro hc)) | fail)
     have ho5 := ho.ext x5
     have hx5 := hx.trans x5
     refine ap1 [str l[k].name, .int .i64 l[k].kind, .int .i64 l[k].ttl, x] hx5 ho5 (by rw [List.length_take]; omega) ?_ (by exact ⟨rfl, rfl, rfl, by intro u hu; simp only [List.mem_cons, List.not_mem_nil, or_false] at hu; rcases hu with rfl | rfl | rfl | rfl <;> first | rfl | exact hc2.one⟩)
     intro s6 v6 w6 w7 x6 _ x7 o7
     refine gset ?_
     (repeat' first | ((with_reducible refine nx0 ?_); go_step) | ((with_reducible refine o_s ?_); first | refine wk0 ?_ | (refine wg0 ?_ ?_ <;> intro hc)) | fail)
     refine ⟨⟨k + 1, by omega, by go_num, x7, ?_, ?_⟩, by simp [intOf]; omega⟩
     ·rw [List.take_add_one, hc1]
      exact o7
     ·intro g hg
      rw [List.take_add_one, List.getElem?_eq_getElem hlt] at hg
      simp only [Option.toList_some, List.mem_append, List.mem_singleton] at hg
      rcases hg with hg | rfl
      ·exact hall g hg
      ·exact ha
    | false =>
     rw [ha, if_neg (by simp)] at hput
     (repeat' first | ((with_reducible refine nx0 ?_); go_step) | ((with_reducible refine o_s ?_); first | refine wk0 ?_ | (refine wg0 ?_ ?_ <;> intro hc)) | fail)
     have hp5 := hp1.ext x5
     have hv5 := hvr.ext x5
     have hb5 := hbr.ext x5
     refine wpq_region (by decide +kernel) (by decide +kernel) ?_
     (try ((with_reducible refine qh0 ?_); refine qk0 ?_))
     rw [show decide ((k : Int) < (css.length : Int)) = true by simp; omega]
     (try ((with_reducible refine qh0 ?_); refine qk0 ?_))
     refine wpq_call (enters_of Tryz.func203 rfl rfl) rfl rfl (fun w' _ => hha w') ?_
     refine gset ?_
     (try ((with_reducible refine qh0 ?_); refine qk0 ?_))
     intro w6 x6
     have hx6 := (hx.trans x5).trans x6
     have ho6 := (ho.ext x5).ext x6
     cases hb2 : aheadS (recSet r) l[k] with
     | true =>
      rw [hb2, if_pos rfl] at hput
      have hv6 := hv1.ext (x4.trans hx6)
      have hb6 := hb5.ext x6
      (repeat' first | ((with_reducible refine nx0 ?_); go_step) | ((with_reducible refine o_s ?_); first | refine wk0 ?_ | (refine wg0 ?_ ?_ <;> intro hc)) | fail)
      refine ap1 [str (fold r.name), .int .i64 r.kind, .int .i64 r.ttl, vS] hx6 ho6 (by rw [List.length_take]; omega) ?_ (by exact ⟨rfl, rfl, rfl, by intro u hu; simp only [List.mem_cons, List.not_mem_nil, or_false] at hu; rcases hu with rfl | rfl | rfl | rfl <;> first | rfl | exact hs4.one⟩)
      intro s7 v7 w7 w8 x7 _ x8 o8
      refine gset ?_
      have hv8 := hv1.ext (x4.trans x8)
      (repeat' first | ((with_reducible refine nx0 ?_); go_step) | ((with_reducible refine o_s ?_); first | refine wk0 ?_ | (refine wg0 ?_ ?_ <;> intro hc)) | fail)
      have hcut := hv8.cut (m := k) (n := css.length) (by omega) (Nat.le_refl _)
      rw [List.take_length] at hcut
      have hc8 := hcs.ext (x4.trans x8)
      refine wpl_appendO (B := w4.heap.size) rfl o8 rfl hcut ((hc8.drop k).cell) x8.size (by simp only [List.length_append, List.length_take, List.length_drop, List.length_cons, List.length_nil]; omega) ?_
      intro v9 w9 o9 m9 _
      refine gset ?_
      have x9 := o8.mvx m9 x8 (Nat.le_refl _)
      have hc9 := hcs.ext (x4.trans x9)
      (repeat' first | ((with_reducible refine nx0 ?_); go_step) | ((with_reducible refine o_s ?_); first | refine wk0 ?_ | (refine wg0 ?_ ?_ <;> intro hc)) | fail)
      go_ret
      refine ⟨_, rfl, x4.trans x9, ?_⟩
      rw [hput, show l.take k ++ recSet r :: l[k] :: l.drop (k + 1) = l.take k ++ [recSet r] ++ l.drop k by rw [List.drop_eq_getElem_cons hlt]; simp]
      exact ⟨_, o9.sl, o9.from' hB4, ((hc9.take k).append (SetsC.one (s := recSet r) (hs4.ext x9))).append (hc9.drop k), ((hcf.take k).append (FromC.one hf4)).append (hcf.drop k)⟩
     | false =>
      rw [hb2, if_neg (by simp)] at hput
      have hb6 := hb5.ext x6
      have h6 := hx6.at h4
      have x16 := x14.trans hx6
      have hp6 := hp1.ext (x5.trans x6)
      have hv6 := hvr.ext (x5.trans x6)
      have hpp := hp.ext x16
      clear hah hha
      (repeat' first | ((with_reducible refine nx0 ?_); go_step) | ((with_reducible refine o_s ?_); first | refine wk0 ?_ | (refine wg0 ?_ ?_ <;> intro hc)) | fail)
      refine wpi_region 9 (Ext w6) (by decide +kernel) ?_
      intro w7 x7 _
      refine ⟨x7, ?_⟩
      refine it0 0 ?_; refine it0 1 ?_; refine it0 2 ?_; refine it0 3 ?_; refine it0 4 ?_; refine it0 5 ?_; refine it0 6 ?_; refine it0 7 ?_; refine it0 8 ?_
      refine wpi_op (i := 9) (by decide +kernel) rfl rfl ?_
      refine wpl_storeF (cs := [str (fold r.name), .int .i64 r.kind, .int .i64 r.ttl, vS]) (x7.at h6) rfl rfl rfl (show 2 < 4 by omega) (by decide +kernel) rfl ?_
      intro w8 p8
      refine wph_nil ⟨till_no rfl, ?_⟩
      refine wpi_done (by decide +kernel) ?_
      have x18 : Ext w1 w8 := (x16.trans x7).move p8.mv (by rintro k ⟨⟩; exact hb)
      have h8 : w8.heap[b]? = some (.cells [str (fold r.name), .int .i64 r.kind, .int .i64 (min r.ttl l[k].ttl), vS].toArray 115 (0, 0)) := p8.this
      have ho8 := (ho6.ext x7).put p8 hbz
      have hz8 : w6.heap.size ≤ w8.heap.size := Nat.le_trans x7.size (Nat.le_of_eq p8.size.symm)
      have hv8 := hv1.ext (x1.trans x18)
      have hp8 := hv8.elem hc1
      have hpp8 := hp.ext x18
      have hb8 := pts_block h8
      clear hb6 hb5 hbr hb4 hp6 hv6 hpp p8 h6 x7 hp5 hv5 hvr hp1
      (repeat' first | ((with_reducible refine nx0 ?_); go_step) | ((with_reducible refine o_s ?_); first | refine wk0 ?_ | (refine wg0 ?_ ?_ <;> intro hc)) | fail)
      refine wpi_region 9 (Ext w8) (by decide +kernel) ?_
      intro w9 x9 _
      refine ⟨x9, ?_⟩
      refine it0 0 ?_; refine it0 1 ?_; refine it0 2 ?_; refine it0 3 ?_; refine it0 4 ?_; refine it0 5 ?_; refine it0 6 ?_
      refine wpi_op (i := 7) (by decide +kernel) rfl rfl ?_
      refine wpl_callR (enters_of Tryz.func258 rfl rfl) rfl rfl (r7_text x l[k].data r.data _ (hc2w.ext ((x1.trans x18).trans x9)) hdk) ?_
      intro y w10 x10 hy
      refine gset ?_
      have x1_10 := (x18.trans x9).trans x10
      refine wph_nil ⟨till_yes (x9.trans x10), ?_⟩
      refine wpi_op (i := 8) (by decide +kernel) rfl rfl ?_
      (repeat' first | ((with_reducible refine nx0 ?_); go_step) | ((with_reducible refine o_s ?_); first | refine wk0 ?_ | (refine wg0 ?_ ?_ <;> intro hc)) | fail)
      refine ⟨till_yes (x9.trans x10), ?_⟩
      refine wpi_op (i := 9) (by decide +kernel) rfl rfl ?_
      have hy1 : y.oneCell' = true := by
       rcases hy with ⟨rfl, _⟩ | hy
       ·exact hc2w.one
       ·exact hy.sl.one
      have h10 := (x9.trans x10).at h8
      refine wpl_storeF (cs := [str (fold r.name), .int .i64 r.kind, .int .i64 (min r.ttl l[k].ttl), vS]) h10 rfl rfl rfl (show 3 < 4 by omega) (by decide +kernel) hy1 ?_
      intro w11 p11
      refine wph_nil ⟨till_no rfl, ?_⟩
      refine wpi_done (by decide +kernel) ?_
      have x11 : Ext w w11 := x1.trans (x1_10.move p11.mv (by rintro k ⟨⟩; exact hb))
      have h11 : w11.heap[b]? = some (.cells [str (fold r.name), .int .i64 r.kind, .int .i64 (min r.ttl l[k].ttl), y].toArray 115 (0, 0)) := p11.this
      have ho11 := (ho8.ext (x9.trans x10)).put p11 hbz
      have hz4 : w4.heap.size ≤ w11.heap.size := by
       have a1 := hx6.size
       have a2 := (x9.trans x10).size
       have a3 := p11.size
       omega
      have hz9 : b < w9.heap.size := by
       have a1 := hx6.size
       have a2 := x9.size
       omega
      have sy : (y = x ∧ textS r.data l[k].data = l[k].data) ∨ Own w9.heap.size 1 9 w11 y (tcells (textS r.data l[k].data)) := by
       rcases hy with hy | hy
       ·exact .inl hy
       ·exact .inr (hy.put p11 hz9)
      have hfy : From B y := by
       rcases sy with ⟨rfl, _⟩ | sy
       ·exact hcf _ (List.mem_of_getElem? hc1) _ (by simp)
       ·exact sy.from' (by have a1 := hx6.size; have a2 := x9.size; omega)
      have hb11 := pts_block h11
      clear hb8 hp8 hpp8 p11 h10 h8 hv8
      (repeat' first | ((with_reducible refine nx0 ?_); go_step) | ((with_reducible refine o_s ?_); first | refine wk0 ?_ | (refine wg0 ?_ ?_ <;> intro hc)) | fail)
      refine ap1 [str (fold r.name), .int .i64 r.kind, .int .i64 (min r.ttl l[k].ttl), y] x11 ho11 (by rw [List.length_take]; omega) ?_ (by exact ⟨rfl, rfl, rfl, by intro u hu; simp only [List.mem_cons, List.not_mem_nil, or_false] at hu; rcases hu with rfl | rfl | rfl | rfl <;> first | rfl | exact hy1⟩) (hB := x4.size) (hBw := hz4)
      intro s12 v12 w12 w13 x12 m13 x13 o13
      refine gset ?_
      have hv13 := hv1.ext x13
      have sy13 : (y = x ∧ textS r.data l[k].data = l[k].data) ∨ Own w9.heap.size 1 9 w13 y (tcells (textS r.data l[k].data)) := by
       rcases sy with sy | sy
       ·exact .inl sy
       ·exact .inr ((sy.ext x12).mv m13 ((sy.ext x12).ne (ho11.ext x12) (by decide)))
      (repeat' first | ((with_reducible refine nx0 ?_); go_step) | ((with_reducible refine o_s ?_); first | refine wk0 ?_ | (refine wg0 ?_ ?_ <;> intro hc)) | fail)
      have hcut := hv13.cut (m := k + 1) (n := css.length) (by omega) (Nat.le_refl _)
      rw [List.take_length] at hcut
      have hc13 := hcs.ext x13
      refine wpl_appendO (B := w4.heap.size) rfl o13 rfl hcut ((hc13.drop (k + 1)).cell) (Nat.le_trans hz4 (by have := x12.size; have := m13.size; omega)) (by simp only [List.length_append, List.length_take, List.length_drop, List.length_cons, List.length_nil]; omega) ?_
      intro v14 w14 o14 m14 _
      refine gset ?_
      have x14 := o13.mvx m14 x13 x4.size
      have hc14 := hcs.ext x14
      have sy14 : Sl 1 w14 y (tcells (textS r.data l[k].data)) := by
       rcases sy13 with ⟨rfl, he⟩ | sy13
       ·rw [he]; exact hc2w.ext x14
       ·exact (sy13.mv m14 (sy13.ne o13 (by decide))).sl
      (repeat' first | ((with_reducible refine nx0 ?_); go_step) | ((with_reducible refine o_s ?_); first | refine wk0 ?_ | (refine wg0 ?_ ?_ <;> intro hc)) | fail)
      go_ret
      refine ⟨_, rfl, x14, ?_⟩
      rw [hput, show l.take k ++ ⟨fold r.name, r.kind, min r.ttl l[k].ttl, textS r.data l[k].data⟩ :: l.drop (k + 1) = l.take k ++ [⟨fold r.name, r.kind, min r.ttl l[k].ttl, textS r.data l[k].data⟩] ++ l.drop (k + 1) by simp]
      exact ⟨_, o14.sl, o14.from' hB4, ((hc14.take k).append (SetsC.one (s := ⟨fold r.name, r.kind, min r.ttl l[k].ttl, textS r.data l[k].data⟩) sy14)).append (hc14.drop (k + 1)), ((hcf.take k).append (FromC.one hfy)).append (hcf.drop (k + 1))⟩
   ·have : k = l.length := by omega
    subst this
    rw [List.drop_length, putS] at hput
    (repeat' first | ((with_reducible refine nx0 ?_); go_step) | ((with_reducible refine o_s ?_); first | refine wk0 ?_ | (refine wg0 ?_ ?_ <;> intro hc)) | fail)
    refine wpq_region (by decide +kernel) (by decide +kernel) ?_
    (try ((with_reducible refine qh0 ?_); refine qk0 ?_))
    rw [show decide ((l.length : Int) < (css.length : Int)) = false by simp; omega]
    (try ((with_reducible refine qh0 ?_); refine qk0 ?_))
    intro w5 x5
    (repeat' first | ((with_reducible refine nx0 ?_); go_step) | ((with_reducible refine o_s ?_); first | refine wk0 ?_ | (refine wg0 ?_ ?_ <;> intro hc)) | fail)
    have hv5 := hvr.ext x5
    have hb5 := hbr.ext x5
    refine wpq_region (by decide +kernel) (by decide +kernel) ?_
    (try ((with_reducible refine qh0 ?_); refine qk0 ?_))
    rw [show decide ((l.length : Int) < (css.length : Int)) = false by simp; omega]
    (try ((with_reducible refine qh0 ?_); refine qk0 ?_))
    intro w6 x6
    have hx6 := (hx.trans x5).trans x6
    have ho6 := (ho.ext x5).ext x6
    have hb6 := hb5.ext x6
    (repeat' first | ((with_reducible refine nx0 ?_); go_step) | ((with_reducible refine o_s ?_); first | refine wk0 ?_ | (refine wg0 ?_ ?_ <;> intro hc)) | fail)
    refine ap1 [str (fold r.name), .int .i64 r.kind, .int .i64 r.ttl, vS] hx6 ho6 (by rw [List.length_take]; omega) ?_ (by exact ⟨rfl, rfl, rfl, by intro u hu; simp only [List.mem_cons, List.not_mem_nil, or_false] at hu; rcases hu with rfl | rfl | rfl | rfl <;> first | rfl | exact hs4.one⟩)
    intro s7 v7 w7 w8 x7 _ x8 o8
    refine gset ?_
    have hv8 := hv1.ext (x4.trans x8)
    (repeat' first | ((with_reducible refine nx0 ?_); go_step) | ((with_reducible refine o_s ?_); first | refine wk0 ?_ | (refine wg0 ?_ ?_ <;> intro hc)) | fail)
    have hcut := hv8.cut (m := l.length) (n := css.length) (by omega) (Nat.le_refl _)
    rw [List.take_length] at hcut
    have hc8 := hcs.ext (x4.trans x8)
    refine wpl_appendO (B := w4.heap.size) rfl o8 rfl hcut ((hc8.drop l.length).cell) x8.size (by simp only [List.length_append, List.length_take, List.length_drop, List.length_cons, List.length_nil]; omega) ?_
    intro v9 w9 o9 m9 _
    refine gset ?_
    have x9 := o8.mvx m9 x8 (Nat.le_refl _)
    have hc9 := hcs.ext (x4.trans x9)
    (repeat' first | ((with_reducible refine nx0 ?_); go_step) | ((with_reducible refine o_s ?_); first | refine wk0 ?_ | (refine wg0 ?_ ?_ <;> intro hc)) | fail)
    go_ret
    refine ⟨_, rfl, x4.trans x9, ?_⟩
    rw [hput, show l.take l.length ++ [recSet r] = l.take l.length ++ [recSet r] ++ l.drop l.length by simp]
    exact ⟨_, o9.sl, o9.from' hB4, ((hc9.take l.length).append (SetsC.one (s := recSet r) (hs4.ext x9))).append (hc9.drop l.length), ((hcf.take l.length).append (FromC.one hf4)).append (hcf.drop l.length)⟩
end Go.Proofs.X
