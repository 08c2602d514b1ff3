/- Laws and walks that the proof of the statement is made of (part 5). -/
import Derived.Test.YtoajkilickakiaaGreatProg
import Derived.Test.YtoajkilickakiaaGreatShelf
import Derived.Shelf.SlSortCmp.NoneTotal
import Derived.Shelf.RegionOpenPlain
import Derived.Lib.Strings
import Derived.Lib.Slices
import Derived.Lib.Walk
import Derived.Lib.Builder
import Derived.Lib.AppendStr
import Derived.Lib.UnsafeStr
import Derived.Lib.MakeNoZero
import Derived.WalkKit
import Derived.Laws.Externs
import Derived.Laws.IdiomCopy
import Derived.Laws.BitsLemmas
import GoSem.Claims
import Derived.Lib.Hide
import Derived.OwnWalk
import Derived.Test.YtoajkilickakiaaGreatP1
import Derived.Test.YtoajkilickakiaaGreatP2
import Derived.Test.YtoajkilickakiaaGreatP3
import Derived.Test.YtoajkilickakiaaGreatP4
set_option linter.unusedSimpArgs false
set_option linter.unusedVariables false
namespace Go.Proofs.X
open Go.RowKit
set_option maxRecDepth 100000
/-- lodestarref01.order -/
theorem r1_order (a b : List UInt8) (w : World) : Calls Tryz.prog 222 #[str a, str b] w (RetV w (.int .i64 (cmpB a b))) := by
  go_enter Tryz.func222, Tryz.ntmps222
  repeat' (first | ((with_reducible refine o_s ?_); (first | (refine o_1 ?_; refine o_2 ?_) | (refine o_g ?_; first | refine o_u ?_ | refine o_k ?_ | refine o_n ?_ | refine o_v ?_ | ((first | refine o_G ?_ ?_ | refine o_N ?_ ?_) <;> intro hc)))) | ((fail_if_success (with_reducible refine o_s ?_)); go_step))
  · have h := ‹Op.bytesLess a b = true›
    go_ret
    exact ⟨by simp [cmpB, h], Ext.refl _⟩
  · have h := ‹Op.bytesLess a b = false›
    have h2 := ‹(!(Op.bytesLess a b || a == b)) = true›
    go_ret
    exact ⟨by simp [h] at h2; simp [cmpB, h, h2], Ext.refl _⟩
  · have h := ‹Op.bytesLess a b = false›
    have h2 := ‹(!(Op.bytesLess a b || a == b)) = false›
    go_ret
    exact ⟨by simp [h] at h2; subst h2; simp [cmpB, h], Ext.refl _⟩
/-- lodestarref01.Labels -/
theorem r1_Labels (nm : List UInt8) (w : World) : Calls Tryz.prog 195 #[str nm] w (Ret w fun v w' => Own w.heap.size 1 9 w' v (tcells ((labels nm).getD []))) := by
  go_enter Tryz.func195, Tryz.ntmps195
  repeat' (first | ((with_reducible refine o_s ?_); (first | (refine o_1 ?_; refine o_2 ?_) | (refine o_g ?_; first | refine o_u ?_ | refine o_k ?_ | refine o_n ?_ | refine o_v ?_ | ((first | refine o_G ?_ ?_ | refine o_N ?_ ?_) <;> intro hc)))) | ((fail_if_success (with_reducible refine o_s ?_)); go_step))
  refine wpl_callR (enters_of Tryz.func94 rfl rfl) rfl rfl (r1_cut nm _) ?_
  intro v w1 x1 hv
  cases hl : labels nm with
  | none =>
    rw [hl] at hv
    subst hv
    repeat' (first | ((with_reducible refine o_s ?_); (first | (refine o_1 ?_; refine o_2 ?_) | (refine o_g ?_; first | refine o_u ?_ | refine o_k ?_ | refine o_n ?_ | refine o_v ?_ | ((first | refine o_G ?_ ?_ | refine o_N ?_ ?_) <;> intro hc)))) | ((fail_if_success (with_reducible refine o_s ?_)); go_step))
    go_ret
    refine ⟨_, rfl, x1, ?_⟩
    simp only [hl, Option.getD_none]
    exact Own.nil _ _ _ _
  | some ls =>
    rw [hl] at hv
    obtain ⟨s, rfl, o⟩ := hv
    repeat' (first | ((with_reducible refine o_s ?_); (first | (refine o_1 ?_; refine o_2 ?_) | (refine o_g ?_; first | refine o_u ?_ | refine o_k ?_ | refine o_n ?_ | refine o_v ?_ | ((first | refine o_G ?_ ?_ | refine o_N ?_ ?_) <;> intro hc)))) | ((fail_if_success (with_reducible refine o_s ?_)); go_step))
    go_ret
    refine ⟨_, rfl, x1, ?_⟩
    simp only [hl, Option.getD_some]
    exact o
theorem enc_ge {ls : List (List UInt8)} (h : ls.all fitL = true) : 2 * ls.length ≤ (enc ls).length := by
  induction ls with
  | nil => simp [enc]
  | cons x ls ih =>
    simp only [List.all_cons, Bool.and_eq_true] at h
    have := ih h.2
    have e : enc (x :: ls) = UInt8.ofNat x.length :: x ++ enc ls := by simp [enc]
    have hx : 1 ≤ x.length := by have := h.1; simp [fitL] at this; omega
    rw [e]; simp; omega
theorem join_many {ls : List (List UInt8)} (h : 127 < ls.length) : join ls = none := by
  rw [join, if_neg]
  rintro ⟨h1, h2⟩
  have := enc_ge h1
  omega
set_option maxHeartbeats 1000000 in
/-- lodestarref01.Join -/
theorem r1_Join (v : Value) (ls : List (List UInt8)) (w : World) (h : Sl 1 w v (tcells ls)) : Calls Tryz.prog 96 #[v] w (RetV w (match join ls with | some n => .tuple #[str n, .int .i64 0] | none => .tuple #[str [], .int .i64 1])) := by
  have hlt0 : (tcells ls).length = ls.length := tcells_length ls
  by_cases h127 : 127 < ls.length
  · go_enter Tryz.func96, Tryz.ntmps96
    repeat' (first | ((with_reducible refine o_s ?_); (first | (refine o_1 ?_; refine o_2 ?_) | (refine o_g ?_; first | refine o_u ?_ | refine o_k ?_ | refine o_n ?_ | refine o_v ?_ | ((first | refine o_G ?_ ?_ | refine o_N ?_ ?_) <;> intro hc)))) | ((fail_if_success (with_reducible refine o_s ?_)); go_step))
    go_ret2
    exact ⟨by rw [join_many h127]; rfl, Ext.refl _⟩
  · go_enter Tryz.func96, Tryz.ntmps96
    repeat' (first | ((with_reducible refine o_s ?_); (first | (refine o_1 ?_; refine o_2 ?_) | (refine o_g ?_; first | refine o_u ?_ | refine o_k ?_ | refine o_n ?_ | refine o_v ?_ | ((first | refine o_G ?_ ?_ | refine o_N ?_ ?_) <;> intro hc)))) | ((fail_if_success (with_reducible refine o_s ?_)); go_step))
    go_loopw [4, 5] (fun s i wr => ∃ k : Nat, k ≤ ls.length ∧ i = .int .i64 k ∧ s = str (enc (ls.take k)) ∧ Ext w wr ∧ (ls.take k).all fitL = true ∧ (enc (ls.take k)).length ≤ 64 * k) (fun _ i _ => ls.length - (intOf i).toNat)
    case atStart => exact ⟨0, Nat.zero_le _, rfl, rfl, Ext.refl _, rfl, by simp [enc]⟩
    case round =>
      obtain ⟨k, hk, rfl, rfl, hx, hall, hlen⟩ := hrel
      have hsl := h.ext hx
      by_cases hlt : k < ls.length
      · have hp := hsl.elem (tcells_at hlt)
        repeat' (first | ((with_reducible refine o_s ?_); (first | (refine o_1 ?_; refine o_2 ?_) | (refine o_g ?_; first | refine o_u ?_ | refine o_k ?_ | refine o_n ?_ | refine o_v ?_ | ((first | refine o_G ?_ ?_ | refine o_N ?_ ?_) <;> intro hc)))) | ((fail_if_success (with_reducible refine o_s ?_)); go_step))
        rotate_left
        · have h63 : ls[k].length ≤ 63 := by omega
          have h1 : 1 ≤ ls[k].length := by omega
          refine wph_region (S := fun w' => Ext wr w') (by decide +kernel) ?_
          intro w1 x1 hh1
          refine tk 0 ?_; refine gset ?_; refine tk 1 ?_; refine gset ?_; refine tk 2 ?_; refine gset ?_; refine tk 3 ?_; refine gset ?_; refine tk 4 ?_; refine gset ?_; refine tk 5 ?_; refine gset ?_; refine tk 6 ?_; refine gset ?_; refine tk 10 ?_; refine gset ?_; refine tk 11 ?_; refine gset ?_; refine tk 12 ?_; refine gset ?_; refine tk 13 ?_; refine gset ?_
          refine wph_one (i := 7) (by decide +kernel) rfl rfl ?_
          refine wpl_slice (e := 5) (k := 1) (bytes := 1) (xs := [.int .u8 (IntKind.wrap .u8 (ls[k].length : Nat))]) rfl rfl rfl (by simp [Value.cells]) (by decide +kernel) (by simp) ?_
          intro v2 w2 x2 _ s2 _
          have s2 : Sl 1 w2 v2 (bcells [UInt8.ofNat ls[k].length]) := by simpa [bcells, Value.cells, wrapU] using s2
          refine gset ?_
          refine wph_nil ⟨by exact extc, ?_⟩
          refine wph_one (i := 8) (by decide +kernel) rfl rfl ?_
          repeat' (first | ((with_reducible refine o_s ?_); (first | (refine o_1 ?_; refine o_2 ?_) | (refine o_g ?_; first | refine o_u ?_ | refine o_k ?_ | refine o_n ?_ | refine o_v ?_ | ((first | refine o_G ?_ ?_ | refine o_N ?_ ?_) <;> intro hc)))) | ((fail_if_success (with_reducible refine o_s ?_)); go_step))
          refine ⟨by exact extc, ?_⟩
          refine wph_one (i := 9) (by decide +kernel) rfl rfl ?_
          repeat' (first | ((with_reducible refine o_s ?_); (first | (refine o_1 ?_; refine o_2 ?_) | (refine o_g ?_; first | refine o_u ?_ | refine o_k ?_ | refine o_n ?_ | refine o_v ?_ | ((first | refine o_G ?_ ?_ | refine o_N ?_ ?_) <;> intro hc)))) | ((fail_if_success (with_reducible refine o_s ?_)); go_step))
          refine ⟨by exact extc, ?_⟩
          refine wph_one (i := 14) (by decide +kernel) rfl rfl ?_
          repeat' (first | ((with_reducible refine o_s ?_); (first | (refine o_1 ?_; refine o_2 ?_) | (refine o_g ?_; first | refine o_u ?_ | refine o_k ?_ | refine o_n ?_ | refine o_v ?_ | ((first | refine o_G ?_ ?_ | refine o_N ?_ ?_) <;> intro hc)))) | ((fail_if_success (with_reducible refine o_s ?_)); go_step))
          refine ⟨by exact extc, ?_⟩
          refine wph_one (i := 15) (by decide +kernel) rfl rfl ?_
          repeat' (first | ((with_reducible refine o_s ?_); (first | (refine o_1 ?_; refine o_2 ?_) | (refine o_g ?_; first | refine o_u ?_ | refine o_k ?_ | refine o_n ?_ | refine o_v ?_ | ((first | refine o_G ?_ ?_ | refine o_N ?_ ?_) <;> intro hc)))) | ((fail_if_success (with_reducible refine o_s ?_)); go_step))
          refine ⟨by exact extc, ?_⟩
          refine wph_done (by decide +kernel) ?_
          have e : enc (ls.take k) ++ [UInt8.ofNat ls[k].length] ++ ls[k] = enc (ls.take (k + 1)) := by
            rw [List.take_add_one, List.getElem?_eq_getElem hlt, Option.toList_some, enc_append, enc_one]; simp
          rw [e]
          repeat' (first | ((with_reducible refine o_s ?_); (first | (refine o_1 ?_; refine o_2 ?_) | (refine o_g ?_; first | refine o_u ?_ | refine o_k ?_ | refine o_n ?_ | refine o_v ?_ | ((first | refine o_G ?_ ?_ | refine o_N ?_ ?_) <;> intro hc)))) | ((fail_if_success (with_reducible refine o_s ?_)); go_step))
          refine ⟨⟨k + 1, by omega, by go_num, rfl, by exact extc, ?_, ?_⟩, by simp [intOf]; omega⟩
          · rw [List.take_add_one, List.getElem?_eq_getElem hlt, Option.toList_some, List.all_append, hall]
            simp [fitL]; omega
          · rw [← e]; simp; omega
        all_goals
          go_ret2
          refine ⟨?_, hx⟩
          rw [join_bad (List.getElem_mem hlt) (by simp [fitL]; omega)]
          rfl
      · have : k = ls.length := by omega
        subst this
        rw [List.take_length] at hall hlen ⊢
        repeat' (first | ((with_reducible refine o_s ?_); (first | (refine o_1 ?_; refine o_2 ?_) | (refine o_g ?_; first | refine o_u ?_ | refine o_k ?_ | refine o_n ?_ | refine o_v ?_ | ((first | refine o_G ?_ ?_ | refine o_N ?_ ?_) <;> intro hc)))) | ((fail_if_success (with_reducible refine o_s ?_)); go_step))
        · go_ret2
          refine ⟨?_, hx⟩
          rw [join, if_neg (by omega)]
          rfl
        · go_ret2
          refine ⟨?_, hx⟩
          rw [join, if_pos ⟨hall, by omega⟩]
          rfl
theorem pw_set {α : Type} {R : α → α → Prop} {l : List α} {i : Nat} {c : α} (h : l.Pairwise R) (hi : i < l.length) (h1 : ∀ j (hj : j < i), R l[j] c) (h2 : ∀ j (hj : i < j) (hl : j < l.length), R c l[j]) : (l.set i c).Pairwise R := by
  rw [List.pairwise_iff_getElem] at *
  intro p q hp hq hpq
  simp only [List.length_set] at hp hq
  simp only [List.getElem_set]
  by_cases e1 : i = p
  · subst e1
    rw [if_pos rfl, if_neg (by omega)]
    exact h2 q hpq hq
  · by_cases e2 : i = q
    · subst e2
      rw [if_neg e1, if_pos rfl]
      exact h1 p hpq
    · rw [if_neg e1, if_neg e2]
      exact h p q hp hq hpq
theorem GS.split {w : World} {B : Nat} {gcs : List GC} (h : GS w B gcs) {i j : Nat} {c c' : GC} (hi : gcs[i]? = some c) (hj : gcs[j]? = some c') (hij : i ≠ j) : c.b ≠ c'.b ∧ (c.v.ownBlock = none ∨ c'.v.ownBlock = none ∨ c.v.ownBlock ≠ c'.v.ownBlock) := by
  have := List.pairwise_iff_getElem.1 h.apart
  obtain ⟨hi2, e1⟩ := List.getElem?_eq_some_iff.1 hi
  obtain ⟨hj2, e2⟩ := List.getElem?_eq_some_iff.1 hj
  subst e1 e2
  rcases Nat.lt_or_ge i j with h1 | h1
  · exact this i j hi2 hj2 h1
  · obtain ⟨a, b⟩ := this j i hj2 hi2 (by omega)
    exact ⟨fun e => a e.symm, by rcases b with b | b | b; exact .inr (.inl b); exact .inl b; exact .inr (.inr fun e => b e.symm)⟩
theorem mem_set_at {α : Type} {l : List α} {i : Nat} {c x : α} (h : x ∈ l.set i c) : x = c ∨ ∃ j, j ≠ i ∧ l[j]? = some x := by
  obtain ⟨j, hj⟩ := List.mem_iff_getElem?.1 h
  by_cases e : j = i
  · subst e
    have hl : j < l.length := by simpa using (List.getElem?_eq_some_iff.1 hj).1
    rw [List.getElem?_set_self hl] at hj
    exact .inl (Option.some.inj hj).symm
  · rw [List.getElem?_set_ne (Ne.symm e)] at hj
    exact .inr ⟨j, e, hj⟩
/-- one set is another one: its data's row may be another one, or turned -/
theorem GS.turn {w w1 w2 : World} {B : Nat} {gcs : List GC} {i : Nat} {c c' : GC} (h : GS w B gcs) (hi : gcs[i]? = some c) (hb : c'.b = c.b) (m : Mv c.v.ownBlock w w1) (o : Own B 1 9 w1 c'.v (tcells c'.s.data))
    (kin : c'.v.ownBlock = c.v.ownBlock ∨ c'.v.ownBlock = some w.heap.size) (hp : Put w1 w2 c.b (.cells c'.cells.toArray 55 (0, 0))) : GS w2 B (gcs.set i c') := by
  have hc := h.each c (List.mem_of_getElem? hi)
  have hil := (List.getElem?_eq_some_iff.1 hi).1
  have hcb : c.v.ownBlock ≠ some c.b := hc.own.neBlock hc.blk (by omega)
  have ho : Own B 1 9 w2 c'.v (tcells c'.s.data) := o.mv hp.mv (.inr (o.neBlock (cs := c.cells.toArray) (fz := (0, 0)) (m.at hc.blk (fun e => hcb e.symm)) (by omega)))
  have hother : ∀ j x, j ≠ i → gcs[j]? = some x → GOK w2 B x ∧ x.b ≠ c.b ∧ (x.v.ownBlock = none ∨ x.v.ownBlock ≠ c'.v.ownBlock) := by
    intro j x hj hx
    have hxo := h.each x (List.mem_of_getElem? hx)
    obtain ⟨s1, s2⟩ := h.split hx hi hj
    have n1 : some x.b ≠ c.v.ownBlock := fun e => (hc.own.neBlock hxo.blk (by omega)) e.symm
    have n2 : x.v.ownBlock = none ∨ x.v.ownBlock ≠ c.v.ownBlock := by
      rcases s2 with s2 | s2 | s2
      · exact .inl s2
      · cases hv : x.v.ownBlock with
        | none => exact .inl rfl
        | some r => rw [s2]; exact .inr (by simp)
      · exact .inr s2
    have g1 := hxo.mv m n1 n2
    refine ⟨g1.mv hp.mv (fun e => s1 (Option.some.inj e)) (.inr (hxo.own.neBlock hc.blk (by omega))), s1, ?_⟩
    rcases kin with k | k
    · rw [k]; exact n2
    · rw [k]
      cases hv : x.v.ownBlock with
      | none => exact .inl rfl
      | some r => exact .inr fun e => by have := (hxo.own.block r hv).2; have := Option.some.inj e; omega
  refine ⟨fun x hx => ?_, pw_set h.apart hil (fun j hj => ?_) (fun j hj hl => ?_)⟩
  · rcases mem_set_at hx with rfl | ⟨j, hj, hx⟩
    · exact ⟨by rw [hb]; exact hp.this, by rw [hb]; exact hc.ge, ho⟩
    · exact (hother j x hj hx).1
  · obtain ⟨_, a, b⟩ := hother j gcs[j] (by omega) (List.getElem?_eq_getElem (by omega))
    exact ⟨by rw [hb]; exact a, by rcases b with b | b; exact .inl b; exact .inr (.inr b)⟩
  · obtain ⟨_, a, b⟩ := hother j gcs[j] (by omega) (List.getElem?_eq_getElem hl)
    exact ⟨by rw [hb]; exact fun e => a e.symm, by rcases b with b | b; exact .inr (.inl b); exact .inr (.inr fun e => b e.symm)⟩
/-- a set is put to them -/
theorem GS.push {w : World} {B : Nat} {gcs : List GC} {c : GC} (h : GS w B gcs) (hc : GOK w B c) (hn : ∀ x ∈ gcs, x.b ≠ c.b) (hv : c.v.ownBlock = none) : GS w B (gcs ++ [c]) := by
  refine ⟨fun x hx => ?_, ?_⟩
  · rcases List.mem_append.1 hx with hx | hx
    · exact h.each x hx
    · rw [List.mem_singleton.1 hx]; exact hc
  · rw [List.pairwise_append]
    refine ⟨h.apart, by simp, fun x hx y hy => ?_⟩
    rw [List.mem_singleton.1 hy]
    exact ⟨hn x hx, .inr (.inl hv)⟩
/-- what leaves all of them alone -/
theorem GS.mv {w w' : World} {B : Nat} {gcs : List GC} {row : Option Nat} (h : GS w B gcs) (hm : Mv row w w') (h1 : ∀ c ∈ gcs, some c.b ≠ row ∧ (c.v.ownBlock = none ∨ c.v.ownBlock ≠ row)) : GS w' B gcs :=
  ⟨fun c hc => (h.each c hc).mv hm (h1 c hc).1 (h1 c hc).2, h.apart⟩
theorem kt48 : Tryz.prog.keyTypeAt 2 179 = true := by kernel_rfl
theorem ktiled48 : Tryz.prog.tiled 2 179 = true := by kernel_rfl
theorem law48 : WideMaps.KeyLaw Tryz.prog 179 := deep_law (m := 2) (by omega) kt48 ktiled48 (by kernel_rfl)
theorem keyOf48 (n : List UInt8) (k : Int) (hn : n.length ≤ 1000000) (hk : 0 ≤ k ∧ k ≤ 65535) : ∃ l, keyOf Tryz.prog 179 (.agg #[str n, .int .i64 k]) = some l := by
  unfold keyOf
  rw [Tryz.underlying179]
  have kt2 : Tryz.prog.keyType 179 = true := by kernel_rfl
  simp only [kt2]
  rw [show Tryz.prog.types.size = 269 from by kernel_rfl]
  have c48 : Tryz.prog.cellsOf 179 = 2 := by kernel_rfl
  have c30 : Tryz.prog.cellsOf 22 = 1 := by kernel_rfl
  have c3 : Tryz.prog.cellsOf 3 = 1 := by kernel_rfl
  have f : Value.formed Tryz.prog 179 (Value.agg #[str n, Value.int IntKind.i64 k]) = true := by simp [Value.formed, Tryz.underlying179, c48]
  have hs : (ByteArray.mk n.toArray).size ≤ maxLen := by rw [size_mk]; unfold maxLen; omega
  have hw : (Lit.int .i64 k).wf = true := by simp [Lit.wf, IntKind.min, IntKind.max, IntKind.bits, IntKind.signed]; omega
  have l30 : Tryz.prog.keyLits 269 22 [str n] = some [.string n] := by simp [Program.keyLits, Tryz.underlying22, str, -ByteArray.size_data, hs]
  have l3 : Tryz.prog.keyLits 269 3 [Value.int .i64 k] = some [.int .i64 k] := by simp [Program.keyLits, Tryz.underlying3, hw]
  rw [f]
  simp only [Bool.and_self, if_true]
  unfold Program.keyLits
  simp [Tryz.underlying179, c48, c30, c3, Value.cells, l30, l3]
/-- what Group holds while it gathers -/
structure L1 (w0 w : World) (kv : Value) (gcs : List GC) : Prop where
  ext : Ext w0 w
  map : MapAt Tryz.prog 179 w w0.heap.size (gcs.map GC.key)
  keys : Own (w0.heap.size + 1) 2 179 w kv (gcs.map GC.kcells)
  sets : GS w (w0.heap.size + 1) gcs
theorem L1.grow {w0 w w' : World} {kv : Value} {gcs : List GC} (h : L1 w0 w kv gcs) (hx : Ext w w') : L1 w0 w' kv gcs :=
  ⟨h.ext.trans hx, h.map.at (fun o ho => hx.at ho), h.keys.ext hx, h.sets.ext hx⟩
def soaNums (s : SoaR) : List Int := [s.refresh, s.retry, s.expire, s.minimum]
def soaBase (s : SoaR) : List UInt8 := s.main ++ [0] ++ (s.mail ++ [0]) ++ be4 s.serial.toNat
def be4s (l : List Int) : List UInt8 := (l.map fun n => be4 n.toNat).flatten
theorem soa_data (s : SoaR) : s.data = soaBase s ++ be4s (soaNums s) := by simp [SoaR.data, soaBase, be4s, soaNums]
theorem be4s_succ (l : List Int) (k : Nat) (h : k < l.length) : be4s (l.take (k + 1)) = be4s (l.take k) ++ be4 l[k].toNat := by
  unfold be4s
  rw [List.take_add_one, List.getElem?_eq_getElem h, Option.toList_some, List.map_append, List.flatten_append]
  simp
theorem be4s_len (l : List Int) : (be4s l).length = 4 * l.length := by
  induction l with
  | nil => rfl
  | cons x l ih =>
    have : be4s (x :: l) = be4 x.toNat ++ be4s l := by simp [be4s]
    rw [this, List.length_append, ih, List.length_cons]
    simp [be4]; omega
theorem soa_ok (s : SoaR) : s.ok = ((labels s.main).isSome && (labels s.mail).isSome && decide (0 ≤ s.serial) && decide (s.serial ≤ 4294967295) && (soaNums s).all ttlOk) := by
  simp [SoaR.ok, soaNums, Bool.and_assoc]
set_option maxHeartbeats 1000000 in
/-- rdata.Soa -/
theorem t70 (s : SoaR) (w : World) (h1 : s.main.length ≤ 4611686018427387904) (h2 : s.mail.length ≤ 4611686018427387904) : Calls Tryz.prog 108 #[.agg s.cells.toArray] w (RetV w (if s.ok = true then .tuple #[str s.data, .int .i64 0] else .tuple #[str [], .int .i64 1])) := by
  have hA := fun w => t87 s.main w (by omega)
  have hB := fun w => t87 s.mail w (by omega)
  cases hm : labels s.main with
  | none =>
    simp only [hm, Option.isSome_none, Bool.false_eq_true, if_false] at hA
    have hno : s.ok = false := by simp [SoaR.ok, hm]
    rw [hno]
    go_enter Tryz.func108, Tryz.ntmps108
    repeat' ((fail_if_success (with_reducible refine o_s ?_)); go_step)
    refine wpl_box (vs := s.cells) rfl rfl ?_
    intro p w1 x1 hp
    refine gset ?_
    have hp' : Pts w1 p [str s.main, str s.mail, .int .i64 s.serial, .int .i64 s.refresh, .int .i64 s.retry, .int .i64 s.expire, .int .i64 s.minimum] := hp
    repeat' (first | ((with_reducible refine o_s ?_); (first | (refine o_1 ?_; refine o_2 ?_) | (refine o_g ?_; first | refine o_u ?_ | refine o_k ?_ | refine o_n ?_ | refine o_v ?_ | ((first | refine o_G ?_ ?_ | refine o_N ?_ ?_) <;> intro hc)))) | ((fail_if_success (with_reducible refine o_s ?_)); go_step))
    refine wpl_callV (enters_of Tryz.func149 rfl rfl) rfl rfl (hA _) ?_
    intro w2 x2
    have hp' := hp'.ext x2
    repeat' (first | ((with_reducible refine o_s ?_); (first | (refine o_1 ?_; refine o_2 ?_) | (refine o_g ?_; first | refine o_u ?_ | refine o_k ?_ | refine o_n ?_ | refine o_v ?_ | ((first | refine o_G ?_ ?_ | refine o_N ?_ ?_) <;> intro hc)))) | ((fail_if_success (with_reducible refine o_s ?_)); go_step))
    refine wpl_callV (enters_of Tryz.func149 rfl rfl) rfl rfl (hB _) ?_
    intro w3 x3
    cases hl : (labels s.mail).isSome with
    | true =>
      simp only [hl, if_true]
      have hp' := hp'.ext x3
      repeat' (first | ((with_reducible refine o_s ?_); (first | (refine o_1 ?_; refine o_2 ?_) | (refine o_g ?_; first | refine o_u ?_ | refine o_k ?_ | refine o_n ?_ | refine o_v ?_ | ((first | refine o_G ?_ ?_ | refine o_N ?_ ?_) <;> intro hc)))) | ((fail_if_success (with_reducible refine o_s ?_)); go_step))
      go_ret2
      exact ⟨rfl, (x1.trans x2).trans x3⟩
    | false =>
      simp only [hl, Bool.false_eq_true, if_false]
      have hp' := hp'.ext x3
      repeat' (first | ((with_reducible refine o_s ?_); (first | (refine o_1 ?_; refine o_2 ?_) | (refine o_g ?_; first | refine o_u ?_ | refine o_k ?_ | refine o_n ?_ | refine o_v ?_ | ((first | refine o_G ?_ ?_ | refine o_N ?_ ?_) <;> intro hc)))) | ((fail_if_success (with_reducible refine o_s ?_)); go_step))
      go_ret2
      exact ⟨rfl, (x1.trans x2).trans x3⟩
  | some ls =>
    simp only [hm, Option.isSome_some, if_true] at hA
    cases hm2 : labels s.mail with
    | none =>
      simp only [hm2, Option.isSome_none, Bool.false_eq_true, if_false] at hB
      have hno : s.ok = false := by simp [SoaR.ok, hm2]
      rw [hno]
      go_enter Tryz.func108, Tryz.ntmps108
      repeat' ((fail_if_success (with_reducible refine o_s ?_)); go_step)
      refine wpl_box (vs := s.cells) rfl rfl ?_
      intro p w1 x1 hp
      refine gset ?_
      have hp' : Pts w1 p [str s.main, str s.mail, .int .i64 s.serial, .int .i64 s.refresh, .int .i64 s.retry, .int .i64 s.expire, .int .i64 s.minimum] := hp
      repeat' (first | ((with_reducible refine o_s ?_); (first | (refine o_1 ?_; refine o_2 ?_) | (refine o_g ?_; first | refine o_u ?_ | refine o_k ?_ | refine o_n ?_ | refine o_v ?_ | ((first | refine o_G ?_ ?_ | refine o_N ?_ ?_) <;> intro hc)))) | ((fail_if_success (with_reducible refine o_s ?_)); go_step))
      refine wpl_callV (enters_of Tryz.func149 rfl rfl) rfl rfl (hA _) ?_
      intro w2 x2
      have hp' := hp'.ext x2
      repeat' (first | ((with_reducible refine o_s ?_); (first | (refine o_1 ?_; refine o_2 ?_) | (refine o_g ?_; first | refine o_u ?_ | refine o_k ?_ | refine o_n ?_ | refine o_v ?_ | ((first | refine o_G ?_ ?_ | refine o_N ?_ ?_) <;> intro hc)))) | ((fail_if_success (with_reducible refine o_s ?_)); go_step))
      refine wpl_callV (enters_of Tryz.func149 rfl rfl) rfl rfl (hB _) ?_
      intro w3 x3
      have hp' := hp'.ext x3
      repeat' (first | ((with_reducible refine o_s ?_); (first | (refine o_1 ?_; refine o_2 ?_) | (refine o_g ?_; first | refine o_u ?_ | refine o_k ?_ | refine o_n ?_ | refine o_v ?_ | ((first | refine o_G ?_ ?_ | refine o_N ?_ ?_) <;> intro hc)))) | ((fail_if_success (with_reducible refine o_s ?_)); go_step))
      go_ret2
      exact ⟨rfl, (x1.trans x2).trans x3⟩
    | some ms =>
      simp only [hm2, Option.isSome_some, if_true] at hB
      have hfm := labels_fit hm
      have hfm2 := labels_fit hm2
      rw [soa_ok, hm, hm2]
      simp only [Option.isSome_some, Bool.true_and]
      go_enter Tryz.func108, Tryz.ntmps108
      repeat' ((fail_if_success (with_reducible refine o_s ?_)); go_step)
      refine wpl_box (vs := s.cells) rfl rfl ?_
      intro p w1 x1 hp
      refine gset ?_
      have hp' : Pts w1 p [str s.main, str s.mail, .int .i64 s.serial, .int .i64 s.refresh, .int .i64 s.retry, .int .i64 s.expire, .int .i64 s.minimum] := hp
      repeat' (first | ((with_reducible refine o_s ?_); (first | (refine o_1 ?_; refine o_2 ?_) | (refine o_g ?_; first | refine o_u ?_ | refine o_k ?_ | refine o_n ?_ | refine o_v ?_ | ((first | refine o_G ?_ ?_ | refine o_N ?_ ?_) <;> intro hc)))) | ((fail_if_success (with_reducible refine o_s ?_)); go_step))
      refine wpl_callV (enters_of Tryz.func149 rfl rfl) rfl rfl (hA _) ?_
      intro w2 x2
      have hp' := hp'.ext x2
      repeat' (first | ((with_reducible refine o_s ?_); (first | (refine o_1 ?_; refine o_2 ?_) | (refine o_g ?_; first | refine o_u ?_ | refine o_k ?_ | refine o_n ?_ | refine o_v ?_ | ((first | refine o_G ?_ ?_ | refine o_N ?_ ?_) <;> intro hc)))) | ((fail_if_success (with_reducible refine o_s ?_)); go_step))
      refine wpl_callV (enters_of Tryz.func149 rfl rfl) rfl rfl (hB _) ?_
      intro w3 x3
      have hp' := hp'.ext x3
      have x13 := (x1.trans x2).trans x3
      clear x1 x2 x3 hp hA hB
      repeat' (first | ((with_reducible refine o_s ?_); (first | (refine o_1 ?_; refine o_2 ?_) | (refine o_g ?_; first | refine o_u ?_ | refine o_k ?_ | refine o_n ?_ | refine o_v ?_ | ((first | refine o_G ?_ ?_ | refine o_N ?_ ?_) <;> intro hc)))) | ((fail_if_success (with_reducible refine o_s ?_)); go_step))
      · have hc := ‹4294967295 < s.serial›
        go_ret2
        refine ⟨?_, x13⟩
        have hno : (decide (0 ≤ s.serial) && decide (s.serial ≤ 4294967295)) = false := by simp only [Bool.and_eq_false_iff, decide_eq_false_iff_not]; omega
        simp only [hno, Bool.false_and, Bool.false_eq_true, if_false]
        rfl
      · have hc := ‹s.serial ≤ 4294967295›
        have hc0 := ‹¬s.serial < 0›
        have hser : (decide (0 ≤ s.serial) && decide (s.serial ≤ 4294967295)) = true := by simp; omega
        refine wpl_bytes (e := 5) (l := s.main ++ [0] ++ (s.mail ++ [0])) rfl rfl (by decide +kernel) (by decide +kernel) (by simp; omega) ?_
        intro v w4 x4 o4
        refine gset ?_
        have hp' := hp'.ext x4
        have hsn : s.serial = ((s.serial.toNat : Nat) : Int) := by omega
        repeat' (first | ((with_reducible refine o_s ?_); (first | (refine o_1 ?_; refine o_2 ?_) | (refine o_g ?_; first | refine o_u ?_ | refine o_k ?_ | refine o_n ?_ | refine o_v ?_ | ((first | refine o_G ?_ ?_ | refine o_N ?_ ?_) <;> intro hc)))) | ((fail_if_success (with_reducible refine o_s ?_)); go_step))
        rw [hsn]
        refine wpl_callG (enters_of Tryz.func150 rfl rfl) rfl rfl (t88 (B := w3.heap.size) s.serial.toNat o4 x4.size (by omega) (by simp; omega)) ?_
        rintro e w5 ⟨v5, rfl, o5, m5⟩
        refine ⟨_, rfl, ?_⟩
        refine gset ?_
        have x35 := o4.mvx m5 x4 (Nat.le_refl _)
        have hp' := ‹Pts w3 p _›.ext x35
        have x15 := x13.trans x35
        rw [← hsn]
        repeat' (first | ((with_reducible refine o_s ?_); (first | (refine o_1 ?_; refine o_2 ?_) | (refine o_g ?_; first | refine o_u ?_ | refine o_k ?_ | refine o_n ?_ | refine o_v ?_ | ((first | refine o_G ?_ ?_ | refine o_N ?_ ?_) <;> intro hc)))) | ((fail_if_success (with_reducible refine o_s ?_)); go_step))
        refine wpl_run (v := .agg ((soaNums s).map (Value.int .i64)).toArray) rfl (Runs.build rfl (by kernel_rfl)) ?_
        refine gset ?_
        repeat' (first | ((with_reducible refine o_s ?_); (first | (refine o_1 ?_; refine o_2 ?_) | (refine o_g ?_; first | refine o_u ?_ | refine o_k ?_ | refine o_n ?_ | refine o_v ?_ | ((first | refine o_G ?_ ?_ | refine o_N ?_ ?_) <;> intro hc)))) | ((fail_if_success (with_reducible refine o_s ?_)); go_step))
        clear hp' m5
        have hbase : s.main ++ [0] ++ (s.mail ++ [0]) ++ be4 s.serial.toNat = soaBase s := rfl
        rw [hbase] at o5
        have hbl : (soaBase s).length ≤ 600 := by simp [soaBase, be4]; omega
        go_loopw [8, 55] (fun v6 i wr => ∃ k : Nat, k ≤ 4 ∧ i = .int .i64 k ∧ Ext w wr ∧ w3.heap.size ≤ wr.heap.size ∧ Own w3.heap.size 1 5 wr v6 (bcells (soaBase s ++ be4s ((soaNums s).take k))) ∧ ((soaNums s).take k).all ttlOk = true) (fun _ i _ => 4 - (intOf i).toNat)
        case atStart => exact ⟨0, by omega, rfl, x15, x35.size, by simpa [be4s] using o5, rfl⟩
        case round =>
          obtain ⟨k, hk, rfl, hx, hsz, ho, hall⟩ := hrel
          have hlen : (soaNums s).length = 4 := rfl
          by_cases hlt : k < 4
          · have hlt2 : k < (soaNums s).length := hlt
            have hdata : s.data = soaBase s ++ be4s (soaNums s) := soa_data s
            have hsplit : (soaNums s).all ttlOk = true → ttlOk (soaNums s)[k] = true := fun h => List.all_eq_true.1 h _ (List.getElem_mem hlt2)
            repeat' (first | ((with_reducible refine o_s ?_); (first | (refine o_1 ?_; refine o_2 ?_) | (refine o_g ?_; first | refine o_u ?_ | refine o_k ?_ | refine o_n ?_ | refine o_v ?_ | ((first | refine o_G ?_ ?_ | refine o_N ?_ ?_) <;> intro hc)))) | ((fail_if_success (with_reducible refine o_s ?_)); go_step))
            refine wpl_run (v := .int .i64 (soaNums s)[k]) rfl (Runs.idxA (n := 4) (i := k) rfl rfl (by simp [hlt2]) hlt (by decide +kernel)) ?_
            refine gset ?_
            repeat' (first | ((with_reducible refine o_s ?_); (first | (refine o_1 ?_; refine o_2 ?_) | (refine o_g ?_; first | refine o_u ?_ | refine o_k ?_ | refine o_n ?_ | refine o_v ?_ | ((first | refine o_G ?_ ?_ | refine o_N ?_ ?_) <;> intro hc)))) | ((fail_if_success (with_reducible refine o_s ?_)); go_step))
            · have hc2 := ‹2147483647 < (soaNums s)[k]›
              go_ret2
              refine ⟨?_, hx⟩
              have hno : (soaNums s).all ttlOk = false := by
                cases h : (soaNums s).all ttlOk with
                | false => rfl
                | true => have := hsplit h; simp [ttlOk] at this; omega
              simp only [hser, hno, Bool.and_false, Bool.false_eq_true, if_false]
              rfl
            · have hc2 := ‹(soaNums s)[k] ≤ 2147483647›
              have hc1 := ‹¬(soaNums s)[k] < 0›
              have hnn : (soaNums s)[k] = (((soaNums s)[k].toNat : Nat) : Int) := by omega
              have hbs : (be4s ((soaNums s).take k)).length ≤ 16 := by rw [be4s_len]; simp; omega
              rw [hnn]
              refine wpl_callG (enters_of Tryz.func150 rfl rfl) rfl rfl (t88 (B := w3.heap.size) (soaNums s)[k].toNat ho hsz (by omega) (by rw [List.length_append]; omega)) ?_
              rintro e w6 ⟨v6, rfl, o6, m6⟩
              refine ⟨_, rfl, ?_⟩
              refine gset ?_
              have hx6 := ho.mvx m6 hx x13.size
              have hs6 : w3.heap.size ≤ w6.heap.size := Nat.le_trans hsz m6.size
              rw [List.append_assoc, ← be4s_succ _ _ hlt2] at o6
              repeat' (first | ((with_reducible refine o_s ?_); (first | (refine o_1 ?_; refine o_2 ?_) | (refine o_g ?_; first | refine o_u ?_ | refine o_k ?_ | refine o_n ?_ | refine o_v ?_ | ((first | refine o_G ?_ ?_ | refine o_N ?_ ?_) <;> intro hc)))) | ((fail_if_success (with_reducible refine o_s ?_)); go_step))
              refine ⟨⟨k + 1, by omega, rfl, hx6, hs6, o6, ?_⟩, by simp [intOf]; omega⟩
              rw [List.take_add_one, List.getElem?_eq_getElem hlt2, Option.toList_some, List.all_append, hall]
              simp only [List.all_cons, List.all_nil, ttlOk, Bool.true_and, Bool.and_true, Bool.and_eq_true, decide_eq_true_eq]
              omega
            · have hc2 := ‹(soaNums s)[k] < 0›
              go_ret2
              refine ⟨?_, hx⟩
              have hno : (soaNums s).all ttlOk = false := by
                cases h : (soaNums s).all ttlOk with
                | false => rfl
                | true => have := hsplit h; simp [ttlOk] at this; omega
              simp only [hser, hno, Bool.and_false, Bool.false_eq_true, if_false]
              rfl
          · have : k = 4 := by omega
            subst this
            have hsl := ho.sl
            rw [show (soaNums s).take 4 = soaNums s from rfl] at hsl hall
            repeat' (first | ((with_reducible refine o_s ?_); (first | (refine o_1 ?_; refine o_2 ?_) | (refine o_g ?_; first | refine o_u ?_ | refine o_k ?_ | refine o_n ?_ | refine o_v ?_ | ((first | refine o_G ?_ ?_ | refine o_N ?_ ?_) <;> intro hc)))) | ((fail_if_success (with_reducible refine o_s ?_)); go_step))
            go_ret2
            refine ⟨?_, hx⟩
            simp only [hser, hall, Bool.and_self, if_true]
            rw [soa_data]
            rfl
      · have hc := ‹s.serial < 0›
        go_ret2
        refine ⟨?_, x13⟩
        have hno : (decide (0 ≤ s.serial) && decide (s.serial ≤ 4294967295)) = false := by simp only [Bool.and_eq_false_iff, decide_eq_false_iff_not]; omega
        simp only [hno, Bool.false_and, Bool.false_eq_true, if_false]
        rfl
def zeroSoa : List Value := [str [], str [], .int .i64 0, .int .i64 0, .int .i64 0, .int .i64 0, .int .i64 0]
theorem firstN_len (s : List UInt8) : (firstN s).1.length ≤ s.length ∧ (firstN s).2.1.length ≤ s.length := by
  unfold firstN
  split
  · simp
  · refine ⟨?_, by simp⟩
    unfold hostN
    split
    · simp only [Option.getD_some]
      have : (Lib.trimSuffix (s.take (walkN s + 1)) [0]).length ≤ (s.take (walkN s + 1)).length := Lib.trimSuffix_le _ _
      simp at this ⊢
      omega
    · simp
set_option maxHeartbeats 1000000 in
/-- rdata.ParseSoa -/
theorem t38 (d : List UInt8) (w : World) (hl : d.length ≤ 4611686018427387904) : Calls Tryz.prog 106 #[str d] w (RetV w (match parseSoa d with | some s => .tuple #[.agg s.cells.toArray, .int .i64 0] | none => .tuple #[.agg zeroSoa.toArray, .int .i64 2])) := by
  have hl1 := firstN_len d
  have hl2 := firstN_len (firstN d).2.1
  go_enter Tryz.func106, Tryz.ntmps106
  repeat' ((fail_if_success (with_reducible refine o_s ?_)); go_step)
  refine wpl_allocB (z := zeroSoa) rfl (by decide +kernel) ?_
  intro w1 x1 s1 h1
  refine gset ?_
  repeat' (first | ((with_reducible refine o_s ?_); (first | (refine o_1 ?_; refine o_2 ?_) | (refine o_g ?_; first | refine o_u ?_ | refine o_k ?_ | refine o_n ?_ | refine o_v ?_ | ((first | refine o_G ?_ ?_ | refine o_N ?_ ?_) <;> intro hc)))) | ((fail_if_success (with_reducible refine o_s ?_)); go_step))
  refine wpl_callV (enters_of Tryz.func143 rfl rfl) rfl rfl (t68 d _ hl) ?_
  intro w2 x2
  refine gset ?_
  have h12 := x2.at h1
  repeat' (first | ((with_reducible refine o_s ?_); (first | (refine o_1 ?_; refine o_2 ?_) | (refine o_g ?_; first | refine o_u ?_ | refine o_k ?_ | refine o_n ?_ | refine o_v ?_ | ((first | refine o_G ?_ ?_ | refine o_N ?_ ?_) <;> intro hc)))) | ((fail_if_success (with_reducible refine o_s ?_)); go_step))
  refine wpl_allocB (z := [str []]) rfl (by decide +kernel) ?_
  intro w3 x3 s3 h3
  refine gset ?_
  have h13 := x3.at h12
  repeat' (first | ((with_reducible refine o_s ?_); (first | (refine o_1 ?_; refine o_2 ?_) | (refine o_g ?_; first | refine o_u ?_ | refine o_k ?_ | refine o_n ?_ | refine o_v ?_ | ((first | refine o_G ?_ ?_ | refine o_N ?_ ?_) <;> intro hc)))) | ((fail_if_success (with_reducible refine o_s ?_)); go_step))
  refine wpl_store1 (v := str (firstN d).2.1) rfl rfl rfl h3 (by decide +kernel) rfl ?_
  intro w4 p4
  have s2 : w.heap.size < w2.heap.size := by have := x2.size; omega
  have h14 := p4.at h13 (by omega)
  have h54 := p4.this
  have x4 : Ext w w4 := ((x1.trans x2).trans x3).move p4.mv (by rintro k ⟨⟩; omega)
  have hp5 := pts_block (cs := [str (firstN d).2.1]) h54
  generalize hb5 : w2.heap.size = b5 at *
  clear h1 h12 h13 h3 p4 x1 x2 x3 s3
  repeat' (first | ((with_reducible refine o_s ?_); (first | (refine o_1 ?_; refine o_2 ?_) | (refine o_g ?_; first | refine o_u ?_ | refine o_k ?_ | refine o_n ?_ | refine o_v ?_ | ((first | refine o_G ?_ ?_ | refine o_N ?_ ?_) <;> intro hc)))) | ((fail_if_success (with_reducible refine o_s ?_)); go_step))
  refine wpl_callV (enters_of Tryz.func143 rfl rfl) rfl rfl (t68 _ _ (by omega)) ?_
  intro w5 x5
  refine gset ?_
  have h15 := x5.at h14
  have h55 := x5.at h54
  have hp5 := hp5.ext x5
  have x5 := x4.trans x5
  repeat' (first | ((with_reducible refine o_s ?_); (first | (refine o_1 ?_; refine o_2 ?_) | (refine o_g ?_; first | refine o_u ?_ | refine o_k ?_ | refine o_n ?_ | refine o_v ?_ | ((first | refine o_G ?_ ?_ | refine o_N ?_ ?_) <;> intro hc)))) | ((fail_if_success (with_reducible refine o_s ?_)); go_step))
  refine wpl_store1 (v := str (firstN (firstN d).2.1).2.1) rfl rfl rfl h55 (by decide +kernel) rfl ?_
  intro w6 p6
  have h16 := p6.at h15 (by omega)
  have h56 := p6.this
  have x6 : Ext w w6 := x5.move p6.mv (by rintro k ⟨⟩; omega)
  clear hp5 h54 h14 h15 h55 p6 x4 x5
  have hp5 := pts_block (cs := [str (firstN (firstN d).2.1).2.1]) h56
  repeat' (first | ((with_reducible refine o_s ?_); (first | (refine o_1 ?_; refine o_2 ?_) | (refine o_g ?_; first | refine o_u ?_ | refine o_k ?_ | refine o_n ?_ | refine o_v ?_ | ((first | refine o_G ?_ ?_ | refine o_N ?_ ?_) <;> intro hc)))) | ((fail_if_success (with_reducible refine o_s ?_)); go_step))
  · refine wpl_run (v := .agg zeroSoa.toArray) rfl (Runs.build (parts := []) (vals := []) rfl (by kernel_rfl)) ?_
    refine gset ?_
    refine wpl_storeB (v := .agg zeroSoa.toArray) rfl rfl rfl h16 (by decide +kernel) rfl (by decide +kernel) ?_
    intro w7 p7
    have x7 : Ext w w7 := x6.move p7.mv (by rintro k ⟨⟩; omega)
    have h17 : w7.heap[w.heap.size]? = some (.cells zeroSoa.toArray 103 (0, 0)) := p7.this
    repeat' (first | ((with_reducible refine o_s ?_); (first | (refine o_1 ?_; refine o_2 ?_) | (refine o_g ?_; first | refine o_u ?_ | refine o_k ?_ | refine o_n ?_ | refine o_v ?_ | ((first | refine o_G ?_ ?_ | refine o_N ?_ ?_) <;> intro hc)))) | ((fail_if_success (with_reducible refine o_s ?_)); go_step))
    refine bodyPost_ret (results_cellT (cs := zeroSoa) rfl rfl h17 (by decide +kernel)) rfl ⟨?_, x7⟩
    have hno : parseSoa d = none := by
      unfold parseSoa
      rw [if_neg]
      rintro ⟨q1, q2, q3, q4⟩
      have := ‹(!decide (((firstN (firstN d).2.1).2.1.length : Int) = 20)) = true›
      simp [q3] at this
    rw [hno]
    rfl
  · have hc1 := ‹(!(firstN d).2.2) = false›
    have hc2 := ‹(!(firstN (firstN d).2.1).2.2) = false›
    have hc3 := ‹(!decide (((firstN (firstN d).2.1).2.1.length : Int) = 20)) = false›
    have hr : (firstN (firstN d).2.1).2.1.length = 20 := by simp at hc3; omega
    have q1 : (firstN d).2.2 = true := by simpa using hc1
    have q2 : (firstN (firstN d).2.1).2.2 = true := by simpa using hc2
    have hps : parseSoa d = if (soaOf d).ok = true then some (soaOf d) else none := by
      unfold parseSoa
      simp only [q1, q2, hr, true_and]
    generalize hrr : (firstN (firstN d).2.1).2.1 = r at *
    refine wpl_callT (f := 144) (caps := #[.pointer (some ⟨b5, 0, none⟩)]) (enters_of Tryz.func144 rfl rfl) rfl rfl rfl (t69 r 0 _ _ hp5 hr (by omega)) ?_
    rintro e w10 ⟨rfl, y⟩
    refine ⟨_, rfl, ?_⟩
    refine gset ?_
    have hp5 := hp5.ext y
    have h16 := y.at h16
    have x6 := x6.trans y
    clear y
    repeat' (first | ((with_reducible refine o_s ?_); (first | (refine o_1 ?_; refine o_2 ?_) | (refine o_g ?_; first | refine o_u ?_ | refine o_k ?_ | refine o_n ?_ | refine o_v ?_ | ((first | refine o_G ?_ ?_ | refine o_N ?_ ?_) <;> intro hc)))) | ((fail_if_success (with_reducible refine o_s ?_)); go_step))
    refine wpl_callT (f := 144) (caps := #[.pointer (some ⟨b5, 0, none⟩)]) (enters_of Tryz.func144 rfl rfl) rfl rfl rfl (t69 r 1 _ _ hp5 hr (by omega)) ?_
    rintro e w11 ⟨rfl, y⟩
    refine ⟨_, rfl, ?_⟩
    refine gset ?_
    have hp5 := hp5.ext y
    have h16 := y.at h16
    have x6 := x6.trans y
    clear y
    repeat' (first | ((with_reducible refine o_s ?_); (first | (refine o_1 ?_; refine o_2 ?_) | (refine o_g ?_; first | refine o_u ?_ | refine o_k ?_ | refine o_n ?_ | refine o_v ?_ | ((first | refine o_G ?_ ?_ | refine o_N ?_ ?_) <;> intro hc)))) | ((fail_if_success (with_reducible refine o_s ?_)); go_step))
    refine wpl_callT (f := 144) (caps := #[.pointer (some ⟨b5, 0, none⟩)]) (enters_of Tryz.func144 rfl rfl) rfl rfl rfl (t69 r 2 _ _ hp5 hr (by omega)) ?_
    rintro e w12 ⟨rfl, y⟩
    refine ⟨_, rfl, ?_⟩
    refine gset ?_
    have hp5 := hp5.ext y
    have h16 := y.at h16
    have x6 := x6.trans y
    clear y
    repeat' (first | ((with_reducible refine o_s ?_); (first | (refine o_1 ?_; refine o_2 ?_) | (refine o_g ?_; first | refine o_u ?_ | refine o_k ?_ | refine o_n ?_ | refine o_v ?_ | ((first | refine o_G ?_ ?_ | refine o_N ?_ ?_) <;> intro hc)))) | ((fail_if_success (with_reducible refine o_s ?_)); go_step))
    refine wpl_callT (f := 144) (caps := #[.pointer (some ⟨b5, 0, none⟩)]) (enters_of Tryz.func144 rfl rfl) rfl rfl rfl (t69 r 3 _ _ hp5 hr (by omega)) ?_
    rintro e w13 ⟨rfl, y⟩
    refine ⟨_, rfl, ?_⟩
    refine gset ?_
    have hp5 := hp5.ext y
    have h16 := y.at h16
    have x6 := x6.trans y
    clear y
    repeat' (first | ((with_reducible refine o_s ?_); (first | (refine o_1 ?_; refine o_2 ?_) | (refine o_g ?_; first | refine o_u ?_ | refine o_k ?_ | refine o_n ?_ | refine o_v ?_ | ((first | refine o_G ?_ ?_ | refine o_N ?_ ?_) <;> intro hc)))) | ((fail_if_success (with_reducible refine o_s ?_)); go_step))
    refine wpl_callT (f := 144) (caps := #[.pointer (some ⟨b5, 0, none⟩)]) (enters_of Tryz.func144 rfl rfl) rfl rfl rfl (t69 r 4 _ _ hp5 hr (by omega)) ?_
    rintro e w14 ⟨rfl, y⟩
    refine ⟨_, rfl, ?_⟩
    refine gset ?_
    have hp5 := hp5.ext y
    have h16 := y.at h16
    have x6 := x6.trans y
    clear y
    repeat' (first | ((with_reducible refine o_s ?_); (first | (refine o_1 ?_; refine o_2 ?_) | (refine o_g ?_; first | refine o_u ?_ | refine o_k ?_ | refine o_n ?_ | refine o_v ?_ | ((first | refine o_G ?_ ?_ | refine o_N ?_ ?_) <;> intro hc)))) | ((fail_if_success (with_reducible refine o_s ?_)); go_step))
    have hsc : (soaOf d).cells = [str (firstN d).1, str (firstN (firstN d).2.1).1, .int .i64 (numP r 0 4 : Nat), .int .i64 (numP r 1 4 : Nat), .int .i64 (numP r 2 4 : Nat), .int .i64 (numP r 3 4 : Nat), .int .i64 (numP r 4 4 : Nat)] := by
      simp only [SoaR.cells, soaOf, hrr]
    refine wpl_run (v := .agg (soaOf d).cells.toArray) rfl (by rw [hsc]; exact Runs.build rfl (by kernel_rfl)) ?_
    refine gset ?_
    refine wpl_allocB (z := zeroSoa) rfl (by decide +kernel) ?_
    intro w15 x15 s15 h15
    refine gset ?_
    have h16 := x15.at h16
    have x6 := x6.trans x15
    have hlt16 : w.heap.size < w14.heap.size := (Array.getElem?_eq_some_iff.1 ‹w14.heap[w.heap.size]? = _›).1
    refine wpl_storeB (v := .agg (soaOf d).cells.toArray) rfl rfl rfl h15 (show sizeTy Tryz.prog 103 7 = true by decide +kernel) rfl (by rw [hsc]; simp [Value.cells, Value.oneCell', str]) ?_
    intro w16 p16
    have h16 := p16.at h16 (by omega)
    have x6 := x6.move p16.mv (by rintro k ⟨⟩; omega)
    have hb10 : w16.heap[w14.heap.size]? = some (.cells (soaOf d).cells.toArray 103 (0, 0)) := p16.this
    have hp10 := pts_block hb10
    repeat' (first | ((with_reducible refine o_s ?_); (first | (refine o_1 ?_; refine o_2 ?_) | (refine o_g ?_; first | refine o_u ?_ | refine o_k ?_ | refine o_n ?_ | refine o_v ?_ | ((first | refine o_G ?_ ?_ | refine o_N ?_ ?_) <;> intro hc)))) | ((fail_if_success (with_reducible refine o_s ?_)); go_step))
    refine wpl_run (v := .agg (soaOf d).cells.toArray) rfl (Runs.loadN (n := 7) hp10 rfl (by decide +kernel)) ?_
    refine gset ?_
    have hm1 : (soaOf d).main.length ≤ 4611686018427387904 := by simp only [soaOf]; omega
    have hm2 : (soaOf d).mail.length ≤ 4611686018427387904 := by simp only [soaOf]; omega
    refine wpl_callV (enters_of Tryz.func108 rfl rfl) rfl rfl (t70 (soaOf d) _ hm1 hm2) ?_
    intro w17 x17
    refine gset ?_
    have h16 := x17.at h16
    have hb10 := x17.at hb10
    have x6 := x6.trans x17
    have hp10 := hp10.ext x17
    cases hok : (soaOf d).ok with
    | false =>
      simp only [hok, Bool.false_eq_true, if_false] at hps ⊢
      repeat' (first | ((with_reducible refine o_s ?_); (first | (refine o_1 ?_; refine o_2 ?_) | (refine o_g ?_; first | refine o_u ?_ | refine o_k ?_ | refine o_n ?_ | refine o_v ?_ | ((first | refine o_G ?_ ?_ | refine o_N ?_ ?_) <;> intro hc)))) | ((fail_if_success (with_reducible refine o_s ?_)); go_step))
      refine wpl_run (v := .agg zeroSoa.toArray) rfl (Runs.build (parts := []) (vals := []) rfl (by kernel_rfl)) ?_
      refine gset ?_
      refine wpl_storeB (v := .agg zeroSoa.toArray) rfl rfl rfl h16 (by decide +kernel) rfl (by decide +kernel) ?_
      intro w7 p7
      have x7 : Ext w w7 := x6.move p7.mv (by rintro k ⟨⟩; omega)
      have h17 : w7.heap[w.heap.size]? = some (.cells zeroSoa.toArray 103 (0, 0)) := p7.this
      repeat' (first | ((with_reducible refine o_s ?_); (first | (refine o_1 ?_; refine o_2 ?_) | (refine o_g ?_; first | refine o_u ?_ | refine o_k ?_ | refine o_n ?_ | refine o_v ?_ | ((first | refine o_G ?_ ?_ | refine o_N ?_ ?_) <;> intro hc)))) | ((fail_if_success (with_reducible refine o_s ?_)); go_step))
      refine bodyPost_ret (results_cellT (cs := zeroSoa) rfl rfl h17 (by decide +kernel)) rfl ⟨?_, x7⟩
      rw [hps]
      rfl
    | true =>
      simp only [hok, if_true] at hps ⊢
      repeat' (first | ((with_reducible refine o_s ?_); (first | (refine o_1 ?_; refine o_2 ?_) | (refine o_g ?_; first | refine o_u ?_ | refine o_k ?_ | refine o_n ?_ | refine o_v ?_ | ((first | refine o_G ?_ ?_ | refine o_N ?_ ?_) <;> intro hc)))) | ((fail_if_success (with_reducible refine o_s ?_)); go_step))
      refine wpl_run (v := .agg (soaOf d).cells.toArray) rfl (Runs.loadN (n := 7) hp10 rfl (by decide +kernel)) ?_
      refine gset ?_
      refine wpl_storeB (v := .agg (soaOf d).cells.toArray) rfl rfl rfl h16 (show sizeTy Tryz.prog 103 7 = true by decide +kernel) rfl (by rw [hsc]; simp [Value.cells, Value.oneCell', str]) ?_
      intro w7 p7
      have x7 : Ext w w7 := x6.move p7.mv (by rintro k ⟨⟩; omega)
      have h17 : w7.heap[w.heap.size]? = some (.cells (soaOf d).cells.toArray 103 (0, 0)) := p7.this
      repeat' (first | ((with_reducible refine o_s ?_); (first | (refine o_1 ?_; refine o_2 ?_) | (refine o_g ?_; first | refine o_u ?_ | refine o_k ?_ | refine o_n ?_ | refine o_v ?_ | ((first | refine o_G ?_ ?_ | refine o_N ?_ ?_) <;> intro hc)))) | ((fail_if_success (with_reducible refine o_s ?_)); go_step))
      refine bodyPost_ret (results_cellT (cs := (soaOf d).cells) rfl rfl h17 (show aggTy Tryz.prog 103 7 = true by decide +kernel)) rfl ⟨?_, x7⟩
      rw [hps]
      rfl
  · refine wpl_run (v := .agg zeroSoa.toArray) rfl (Runs.build (parts := []) (vals := []) rfl (by kernel_rfl)) ?_
    refine gset ?_
    refine wpl_storeB (v := .agg zeroSoa.toArray) rfl rfl rfl h16 (by decide +kernel) rfl (by decide +kernel) ?_
    intro w7 p7
    have x7 : Ext w w7 := x6.move p7.mv (by rintro k ⟨⟩; omega)
    have h17 : w7.heap[w.heap.size]? = some (.cells zeroSoa.toArray 103 (0, 0)) := p7.this
    repeat' (first | ((with_reducible refine o_s ?_); (first | (refine o_1 ?_; refine o_2 ?_) | (refine o_g ?_; first | refine o_u ?_ | refine o_k ?_ | refine o_n ?_ | refine o_v ?_ | ((first | refine o_G ?_ ?_ | refine o_N ?_ ?_) <;> intro hc)))) | ((fail_if_success (with_reducible refine o_s ?_)); go_step))
    refine bodyPost_ret (results_cellT (cs := zeroSoa) rfl rfl h17 (by decide +kernel)) rfl ⟨?_, x7⟩
    have hno : parseSoa d = none := by
      unfold parseSoa
      rw [if_neg]
      rintro ⟨q1, q2, q3, q4⟩
      have := ‹(!(firstN (firstN d).2.1).2.2) = true›
      simp [q2] at this
    rw [hno]
    rfl
  · refine wpl_run (v := .agg zeroSoa.toArray) rfl (Runs.build (parts := []) (vals := []) rfl (by kernel_rfl)) ?_
    refine gset ?_
    refine wpl_storeB (v := .agg zeroSoa.toArray) rfl rfl rfl h16 (by decide +kernel) rfl (by decide +kernel) ?_
    intro w7 p7
    have x7 : Ext w w7 := x6.move p7.mv (by rintro k ⟨⟩; omega)
    have h17 : w7.heap[w.heap.size]? = some (.cells zeroSoa.toArray 103 (0, 0)) := p7.this
    repeat' (first | ((with_reducible refine o_s ?_); (first | (refine o_1 ?_; refine o_2 ?_) | (refine o_g ?_; first | refine o_u ?_ | refine o_k ?_ | refine o_n ?_ | refine o_v ?_ | ((first | refine o_G ?_ ?_ | refine o_N ?_ ?_) <;> intro hc)))) | ((fail_if_success (with_reducible refine o_s ?_)); go_step))
    refine bodyPost_ret (results_cellT (cs := zeroSoa) rfl rfl h17 (by decide +kernel)) rfl ⟨?_, x7⟩
    have hno : parseSoa d = none := by
      unfold parseSoa
      rw [if_neg]
      rintro ⟨q1, q2, q3, q4⟩
      have := ‹(!(firstN d).2.2) = true›
      simp [q1] at this
    rw [hno]
    rfl
set_option maxHeartbeats 1000000 in
/-- rdata.fits -/
theorem t26 (k : Int) (d : List UInt8) (w : World) (hl : d.length ≤ 4000) : Calls Tryz.prog 178 #[.int .i64 k, str d] w (RetV w (.bool (fits k d))) := by
  have h38 := fun w => t38 d w (by omega)
  go_enter Tryz.func178, Tryz.ntmps178
  repeat' (first | ((with_reducible refine o_s ?_); (first | (refine o_1 ?_; refine o_2 ?_) | (refine o_g ?_; first | refine o_u ?_ | refine o_k ?_ | refine o_n ?_ | refine o_v ?_ | ((first | refine o_G ?_ ?_ | refine o_N ?_ ?_) <;> intro hc)))) | ((fail_if_success (with_reducible refine o_s ?_)); go_step))
  · have h1 := ‹k = 1›
    go_ret
    refine ⟨?_, Ext.refl _⟩
    rw [fits, if_pos h1]
    have e : decide ((d.length : Int) = 4) = decide (d.length = 4) := by apply decide_eq_decide.2; omega
    exact congrArg (fun b => Ending.returned (Value.bool b)) e
  · have h1 := ‹¬k = 1›
    have h2 := ‹k = 28›
    go_ret
    refine ⟨?_, Ext.refl _⟩
    rw [fits, if_neg h1, if_pos h2]
    have e : decide ((d.length : Int) = 16) = decide (d.length = 16) := by apply decide_eq_decide.2; omega
    exact congrArg (fun b => Ending.returned (Value.bool b)) e
  · have h1 := ‹¬k = 1›
    have h2 := ‹¬k = 28›
    have h3 := ‹k = 16›
    refine wpl_callV (enters_of Tryz.func196 rfl rfl) rfl rfl (t37 _ _ (by omega)) ?_
    intro w2 x2
    refine gset ?_
    repeat' (first | ((with_reducible refine o_s ?_); (first | (refine o_1 ?_; refine o_2 ?_) | (refine o_g ?_; first | refine o_u ?_ | refine o_k ?_ | refine o_n ?_ | refine o_v ?_ | ((first | refine o_G ?_ ?_ | refine o_N ?_ ?_) <;> intro hc)))) | ((fail_if_success (with_reducible refine o_s ?_)); go_step))
    go_ret
    refine ⟨?_, x2⟩
    rw [fits, if_neg h1, if_neg h2, if_pos h3]
    rfl
  · have h1 := ‹¬k = 1›
    have h2 := ‹¬k = 28›
    have h3 := ‹¬k = 16›
    have h4 := ‹k = 6›
    have hF : fits k d = (parseSoa d).isSome := by rw [fits, if_neg h1, if_neg h2, if_neg h3, if_pos h4]
    refine wpl_callV (enters_of Tryz.func106 rfl rfl) rfl rfl (h38 _) ?_
    intro w2 x2
    refine gset ?_
    cases hp : parseSoa d with
    | none =>
      simp only [hp] at hF
      repeat' (first | ((with_reducible refine o_s ?_); (first | (refine o_1 ?_; refine o_2 ?_) | (refine o_g ?_; first | refine o_u ?_ | refine o_k ?_ | refine o_n ?_ | refine o_v ?_ | ((first | refine o_G ?_ ?_ | refine o_N ?_ ?_) <;> intro hc)))) | ((fail_if_success (with_reducible refine o_s ?_)); go_step))
      refine wpl_allocB (z := zeroSoa) rfl (by decide +kernel) ?_
      intro w3 x3 s3 h3b
      refine gset ?_
      refine wpl_storeB (v := .agg zeroSoa.toArray) rfl rfl rfl h3b (by decide +kernel) rfl (by decide +kernel) ?_
      intro w4 p4
      repeat' (first | ((with_reducible refine o_s ?_); (first | (refine o_1 ?_; refine o_2 ?_) | (refine o_g ?_; first | refine o_u ?_ | refine o_k ?_ | refine o_n ?_ | refine o_v ?_ | ((first | refine o_G ?_ ?_ | refine o_N ?_ ?_) <;> intro hc)))) | ((fail_if_success (with_reducible refine o_s ?_)); go_step))
      go_ret
      refine ⟨?_, (x2.trans x3).move p4.mv (by rintro k ⟨⟩; exact x2.size)⟩
      rw [hF]
      rfl
    | some s =>
      simp only [hp] at hF
      have hsc : ∀ s : SoaR, s.cells = [str s.main, str s.mail, .int .i64 s.serial, .int .i64 s.refresh, .int .i64 s.retry, .int .i64 s.expire, .int .i64 s.minimum] := fun _ => rfl
      repeat' (first | ((with_reducible refine o_s ?_); (first | (refine o_1 ?_; refine o_2 ?_) | (refine o_g ?_; first | refine o_u ?_ | refine o_k ?_ | refine o_n ?_ | refine o_v ?_ | ((first | refine o_G ?_ ?_ | refine o_N ?_ ?_) <;> intro hc)))) | ((fail_if_success (with_reducible refine o_s ?_)); go_step))
      refine wpl_allocB (z := zeroSoa) rfl (by decide +kernel) ?_
      intro w3 x3 s3 h3b
      refine gset ?_
      refine wpl_storeB (v := .agg s.cells.toArray) rfl rfl rfl h3b (show sizeTy Tryz.prog 103 7 = true by decide +kernel) rfl (by rw [hsc]; simp [Value.cells, Value.oneCell', str]) ?_
      intro w4 p4
      repeat' (first | ((with_reducible refine o_s ?_); (first | (refine o_1 ?_; refine o_2 ?_) | (refine o_g ?_; first | refine o_u ?_ | refine o_k ?_ | refine o_n ?_ | refine o_v ?_ | ((first | refine o_G ?_ ?_ | refine o_N ?_ ?_) <;> intro hc)))) | ((fail_if_success (with_reducible refine o_s ?_)); go_step))
      go_ret
      refine ⟨?_, (x2.trans x3).move p4.mv (by rintro k ⟨⟩; exact x2.size)⟩
      rw [hF]
      rfl
  · have h1 := ‹¬k = 1›
    have h2 := ‹¬k = 28›
    have h3 := ‹¬k = 16›
    have h4 := ‹¬k = 6›
    refine wpl_callV (enters_of Tryz.func131 rfl rfl) rfl rfl (t39 k d _ (by omega)) ?_
    intro w2 x2
    refine gset ?_
    repeat' (first | ((with_reducible refine o_s ?_); (first | (refine o_1 ?_; refine o_2 ?_) | (refine o_g ?_; first | refine o_u ?_ | refine o_k ?_ | refine o_n ?_ | refine o_v ?_ | ((first | refine o_G ?_ ?_ | refine o_N ?_ ?_) <;> intro hc)))) | ((fail_if_success (with_reducible refine o_s ?_)); go_step))
    go_ret
    refine ⟨?_, x2⟩
    rw [fits, if_neg h1, if_neg h2, if_neg h3, if_neg h4]
    simp
set_option maxHeartbeats 20000000 in
/-- rdata.Check -/
theorem t16 (r : Rec) (w : World) : Calls Tryz.prog 145 #[.agg #[str r.name, .int .i64 r.kind, .int .i64 r.ttl, str r.data]] w (RetV w (.int .i64 (checkR r))) := by
  have hf : r.data.length ≤ 4000 → ∀ w, Calls Tryz.prog 178 #[.int .i64 r.kind, str r.data] w (RetV w (.bool (fits r.kind r.data))) := fun h w => t26 _ _ w h
  go_enter Tryz.func145, Tryz.ntmps145
  repeat' ((fail_if_success (with_reducible refine o_s ?_)); go_step)
  refine wpl_box (vs := [str r.name, .int .i64 r.kind, .int .i64 r.ttl, str r.data]) rfl rfl ?_
  intro p w1 x1 hp
  refine gset ?_
  repeat' (first | ((with_reducible refine o_s ?_); (first | (refine o_1 ?_; refine o_2 ?_) | (refine o_g ?_; first | refine o_u ?_ | refine o_k ?_ | refine o_n ?_ | refine o_v ?_))) | ((fail_if_success (with_reducible refine o_s ?_)); go_step))
  all_goals try (go_ret; refine ⟨?_, x1⟩; first | (rw [checkR, if_pos (by omega)]; rfl) | (rw [checkR, if_neg (by omega), if_pos (by omega)]; rfl))
  ((with_reducible refine o_s ?_); refine o_g ?_; ((first | refine o_G ?_ ?_ | refine o_N ?_ ?_) <;> intro hc))
  all_goals repeat' (first | ((with_reducible refine o_s ?_); (first | (refine o_1 ?_; refine o_2 ?_) | (refine o_g ?_; first | refine o_u ?_ | refine o_k ?_ | refine o_n ?_ | refine o_v ?_))) | ((fail_if_success (with_reducible refine o_s ?_)); go_step))
  all_goals try (go_ret; refine ⟨?_, x1⟩; first | (rw [checkR, if_pos (by omega)]; rfl) | (rw [checkR, if_neg (by omega), if_pos (by omega)]; rfl))
  ((with_reducible refine o_s ?_); refine o_g ?_; ((first | refine o_G ?_ ?_ | refine o_N ?_ ?_) <;> intro hc))
  all_goals repeat' (first | ((with_reducible refine o_s ?_); (first | (refine o_1 ?_; refine o_2 ?_) | (refine o_g ?_; first | refine o_u ?_ | refine o_k ?_ | refine o_n ?_ | refine o_v ?_))) | ((fail_if_success (with_reducible refine o_s ?_)); go_step))
  all_goals try (go_ret; refine ⟨?_, x1⟩; first | (rw [checkR, if_pos (by omega)]; rfl) | (rw [checkR, if_neg (by omega), if_pos (by omega)]; rfl))
  ((with_reducible refine o_s ?_); refine o_g ?_; ((first | refine o_G ?_ ?_ | refine o_N ?_ ?_) <;> intro hc))
  all_goals repeat' (first | ((with_reducible refine o_s ?_); (first | (refine o_1 ?_; refine o_2 ?_) | (refine o_g ?_; first | refine o_u ?_ | refine o_k ?_ | refine o_n ?_ | refine o_v ?_))) | ((fail_if_success (with_reducible refine o_s ?_)); go_step))
  all_goals try (go_ret; refine ⟨?_, x1⟩; first | (rw [checkR, if_pos (by omega)]; rfl) | (rw [checkR, if_neg (by omega), if_pos (by omega)]; rfl))
  ((with_reducible refine o_s ?_); refine o_g ?_; ((first | refine o_G ?_ ?_ | refine o_N ?_ ?_) <;> intro hc))
  all_goals repeat' (first | ((with_reducible refine o_s ?_); (first | (refine o_1 ?_; refine o_2 ?_) | (refine o_g ?_; first | refine o_u ?_ | refine o_k ?_ | refine o_n ?_ | refine o_v ?_))) | ((fail_if_success (with_reducible refine o_s ?_)); go_step))
  all_goals try (go_ret; refine ⟨?_, x1⟩; first | (rw [checkR, if_pos (by omega)]; rfl) | (rw [checkR, if_neg (by omega), if_pos (by omega)]; rfl))
  (apply wpl_guard; (rfl)) <;> intro hc
  · have hlen : r.data.length ≤ 4000 := by simp at hc; omega
    rw [hc]
    repeat' (first | ((with_reducible refine o_s ?_); (first | (refine o_1 ?_; refine o_2 ?_) | (refine o_g ?_; first | refine o_u ?_ | refine o_k ?_ | refine o_n ?_ | refine o_v ?_))) | ((fail_if_success (with_reducible refine o_s ?_)); go_step))
    refine wpl_callV (enters_of Tryz.func178 rfl rfl) rfl rfl (hf hlen _) ?_
    intro w2 x2
    refine gset ?_
    have hp := hp.ext x2
    cases hfit : fits r.kind r.data with
    | true =>
      repeat' (first | ((with_reducible refine o_s ?_); (first | (refine o_1 ?_; refine o_2 ?_) | (refine o_g ?_; first | refine o_u ?_ | refine o_k ?_ | refine o_n ?_ | refine o_v ?_))) | ((fail_if_success (with_reducible refine o_s ?_)); go_step))
      refine wpl_callV (enters_of Tryz.func83 rfl rfl) rfl rfl (t27 _ _) ?_
      intro w3 x3
      refine gset ?_
      repeat' (first | ((with_reducible refine o_s ?_); (first | (refine o_1 ?_; refine o_2 ?_) | (refine o_g ?_; first | refine o_u ?_ | refine o_k ?_ | refine o_n ?_ | refine o_v ?_))) | ((fail_if_success (with_reducible refine o_s ?_)); go_step))
      go_ret
      refine ⟨?_, (x1.trans x2).trans x3⟩
      have e : checkR r = if (labels r.name).isSome = true then 0 else 1 := by
        rw [checkR, if_neg (by omega), if_neg (by rw [hfit]; simp; omega)]
      rw [e]
      rfl
    | false =>
      repeat' (first | ((with_reducible refine o_s ?_); (first | (refine o_1 ?_; refine o_2 ?_) | (refine o_g ?_; first | refine o_u ?_ | refine o_k ?_ | refine o_n ?_ | refine o_v ?_))) | ((fail_if_success (with_reducible refine o_s ?_)); go_step))
      go_ret
      refine ⟨?_, x1.trans x2⟩
      rw [checkR, if_neg (by omega), if_pos (by rw [hfit]; simp)]
      rfl
  · have hc4 : 4000 < r.data.length := by simp at hc; omega
    rw [hc]
    simp only [Act.put, List.setIfInBounds_toArray, List.set_cons_succ, List.set_cons_zero, Bool.not_true, Bool.not_false]
    repeat' (first | ((with_reducible refine o_s ?_); (first | (refine o_1 ?_; refine o_2 ?_) | (refine o_g ?_; first | refine o_u ?_ | refine o_k ?_ | refine o_n ?_ | refine o_v ?_))) | ((fail_if_success (with_reducible refine o_s ?_)); go_step))
    go_ret
    refine ⟨?_, x1⟩
    rw [checkR, if_neg (by omega), if_pos (by omega)]
    rfl
set_option maxHeartbeats 1000000 in
/-- lodestarref07.One -/
theorem t15 (a b : RSet) (u v : Value) (w : World) (hu : Sl 1 w u (tcells a.data)) (hv : Sl 1 w v (tcells b.data)) : Calls Tryz.prog 112 #[.agg #[str a.name, .int .i64 a.kind, .int .i64 a.ttl, u], .agg #[str b.name, .int .i64 b.kind, .int .i64 b.ttl, v]] w (RetV w (.bool (decide (a = b)))) := by
  have hab : a = b ↔ a.name = b.name ∧ a.kind = b.kind ∧ a.ttl = b.ttl ∧ a.data = b.data := by
    cases a; cases b; simp
  go_enter Tryz.func112, Tryz.ntmps112
  repeat' ((fail_if_success (with_reducible refine o_s ?_)); go_step)
  refine wpl_box (vs := [str a.name, .int .i64 a.kind, .int .i64 a.ttl, u]) rfl rfl ?_
  intro p w1 x1 hp
  refine gset ?_
  refine wpl_box (vs := [str b.name, .int .i64 b.kind, .int .i64 b.ttl, v]) rfl rfl ?_
  intro q w2 x2 hq
  refine gset ?_
  have hu2 := hu.ext (x1.trans x2)
  have hv2 := hv.ext (x1.trans x2)
  repeat' (first | ((with_reducible refine o_s ?_); (first | (refine o_1 ?_; refine o_2 ?_) | (refine o_g ?_; first | refine o_u ?_ | refine o_k ?_ | refine o_n ?_ | refine o_v ?_ | ((first | refine o_G ?_ ?_ | refine o_N ?_ ?_) <;> intro hc)))) | ((fail_if_success (with_reducible refine o_s ?_)); go_step))
  · refine wpl_callV (enters_of Tryz.func156 rfl rfl) rfl rfl (t25 _ _ _ _ _ hu2 hv2) ?_; intro w3 x3; refine gset ?_
    repeat' (first | ((with_reducible refine o_s ?_); (first | (refine o_1 ?_; refine o_2 ?_) | (refine o_g ?_; first | refine o_u ?_ | refine o_k ?_ | refine o_n ?_ | refine o_v ?_ | ((first | refine o_G ?_ ?_ | refine o_N ?_ ?_) <;> intro hc)))) | ((fail_if_success (with_reducible refine o_s ?_)); go_step))
    go_ret
    refine ⟨?_, by exact extc⟩
    have : decide (a = b) = decide (a.data = b.data) := by
      apply decide_eq_decide.2
      rw [hab]
      simp only [‹a.name = b.name›, ‹a.kind = b.kind›, ‹a.ttl = b.ttl›, true_and]
    rw [this]
    rfl
  · go_ret
    refine ⟨?_, by exact extc⟩
    have : ¬ a = b := by rw [hab]; have := ‹¬a.ttl = b.ttl›; simp [this]
    simp [this]
  · go_ret
    refine ⟨?_, by exact extc⟩
    have : ¬ a = b := by rw [hab]; have := ‹¬a.kind = b.kind›; simp [this]
    simp [this]
  · go_ret
    refine ⟨?_, by exact extc⟩
    have : ¬ a = b := by rw [hab]; have := ‹¬a.name = b.name›; simp [this]
    simp [this]
set_option maxHeartbeats 1000000 in
/-- lodestarref07.Same -/
theorem t11 (u v : Value) (a b : List RSet) (w : World) (hu : SetsAt w u a) (hv : SetsAt w v b) : Calls Tryz.prog 80 #[u, v] w (RetV w (.bool (decide (a = b)))) := by
  obtain ⟨cu, hu1, hul⟩ := hu.sl
  obtain ⟨cv, hv1, hvl⟩ := hv.sl
  have hal := hu1.le
  go_enter Tryz.func80, Tryz.ntmps80
  repeat' (first | ((with_reducible refine o_s ?_); (first | (refine o_1 ?_; refine o_2 ?_) | (refine o_g ?_; first | refine o_u ?_ | refine o_k ?_ | refine o_n ?_ | refine o_v ?_ | ((first | refine o_G ?_ ?_ | refine o_N ?_ ?_) <;> intro hc)))) | ((fail_if_success (with_reducible refine o_s ?_)); go_step))
  · have hne := ‹(!decide ((cu.length : Int) = (cv.length : Int))) = true›
    go_ret
    refine ⟨?_, Ext.refl _⟩
    have : a ≠ b := by rintro rfl; simp at hne; omega
    simp [this]
  · have hne := ‹(!decide ((cu.length : Int) = (cv.length : Int))) = false›
    have hlen : a.length = b.length := by simp at hne; omega
    go_loopw [5] (fun i wr => ∃ k : Nat, k ≤ a.length ∧ i = .int .i64 k ∧ Ext w wr ∧ a.take k = b.take k) (fun i _ => a.length - (intOf i).toNat)
    case atStart => exact ⟨0, Nat.zero_le _, rfl, Ext.refl _, rfl⟩
    case round =>
      obtain ⟨k, hk, rfl, hx, hall⟩ := hrel
      by_cases hlt : k < a.length
      · have hlt2 : k < b.length := by omega
        obtain ⟨x, h1, h1d⟩ := (hu.ext hx).elem (List.getElem?_eq_getElem hlt)
        obtain ⟨y, h2, h2d⟩ := (hv.ext hx).elem (List.getElem?_eq_getElem hlt2)
        have hu2 := hu1.ext hx
        have hv2 := hv1.ext hx
        repeat' (first | ((with_reducible refine o_s ?_); (first | (refine o_1 ?_; refine o_2 ?_) | (refine o_g ?_; first | refine o_u ?_ | refine o_k ?_ | refine o_n ?_ | refine o_v ?_ | ((first | refine o_G ?_ ?_ | refine o_N ?_ ?_) <;> intro hc)))) | ((fail_if_success (with_reducible refine o_s ?_)); go_step))
        refine wph_region (S := Ext wr) (by decide +kernel) ?_
        intro w2 x2 _
        refine tk 0 ?_; refine gset ?_; refine tk 1 ?_; refine gset ?_; refine tk 2 ?_; refine gset ?_; refine tk 3 ?_; refine gset ?_; refine tk 4 ?_; refine gset ?_; refine tk 5 ?_; refine gset ?_; refine tk 6 ?_; refine gset ?_; refine tk 7 ?_; refine gset ?_
        refine wph_one (i := 8) (by decide +kernel) rfl rfl ?_
        refine wpl_callV (enters_of Tryz.func112 rfl rfl) rfl rfl (t15 a[k] b[k] _ _ _ (h1d.ext x2) (h2d.ext x2)) ?_; intro w3 x3; refine gset ?_
        refine wph_nil ⟨by exact extc, ?_⟩
        refine tk 9 ?_; refine gset ?_
        refine wph_done (by decide +kernel) ?_
        by_cases he : a[k] = b[k]
        · have e1 : decide (a[k] = b[k]) = true := decide_eq_true he
          simp only [e1, Bool.not_true]
          repeat' (first | ((with_reducible refine o_s ?_); (first | (refine o_1 ?_; refine o_2 ?_) | (refine o_g ?_; first | refine o_u ?_ | refine o_k ?_ | refine o_n ?_ | refine o_v ?_ | ((first | refine o_G ?_ ?_ | refine o_N ?_ ?_) <;> intro hc)))) | ((fail_if_success (with_reducible refine o_s ?_)); go_step))
          exact ⟨⟨k + 1, by omega, rfl, by exact extc, take_succ_eq hall hlt hlt2 he⟩, by simp [intOf]; omega⟩
        · have e1 : decide (a[k] = b[k]) = false := decide_eq_false he
          simp only [e1, Bool.not_false]
          repeat' (first | ((with_reducible refine o_s ?_); (first | (refine o_1 ?_; refine o_2 ?_) | (refine o_g ?_; first | refine o_u ?_ | refine o_k ?_ | refine o_n ?_ | refine o_v ?_ | ((first | refine o_G ?_ ?_ | refine o_N ?_ ?_) <;> intro hc)))) | ((fail_if_success (with_reducible refine o_s ?_)); go_step))
          go_ret
          refine ⟨?_, by exact extc⟩
          simp [ne_of_at hlt hlt2 he]
      · have hk2 : k = a.length := by omega
        subst hk2
        repeat' (first | ((with_reducible refine o_s ?_); (first | (refine o_1 ?_; refine o_2 ?_) | (refine o_g ?_; first | refine o_u ?_ | refine o_k ?_ | refine o_n ?_ | refine o_v ?_ | ((first | refine o_G ?_ ?_ | refine o_N ?_ ?_) <;> intro hc)))) | ((fail_if_success (with_reducible refine o_s ?_)); go_step))
        go_ret
        refine ⟨?_, by exact extc⟩
        rw [List.take_length, hlen, List.take_length] at hall
        simp [hall]
/-! ### lodestarref04.Short -/
def shortAt (r : Rec) : Bool := decide (r.name.length ≤ 300) && decide (r.data.length ≤ 300)
def shortR (l : List Rec) : Bool := decide (l.length ≤ 25) && l.all shortAt
theorem all_no {α : Type} {p : α → Bool} {l : List α} {k : Nat} (h : k < l.length) (hp : p l[k] = false) : l.all p = false := by
  rw [List.all_eq_false]
  exact ⟨l[k], List.getElem_mem h, by simp [hp]⟩
theorem all_take {α : Type} {p : α → Bool} {l : List α} {k : Nat} (h : k < l.length) (ha : (l.take k).all p = true) (hp : p l[k] = true) : (l.take (k + 1)).all p = true := by
  rw [List.take_add_one, List.getElem?_eq_getElem h, List.all_append, ha]
  simp [hp]
set_option maxHeartbeats 1000000 in
theorem t7 (v : Value) (l : List Rec) (w : World) (hv : Sl 4 w v (rcells l)) : Calls Tryz.prog 72 #[v] w (RetV w (.bool (shortR l))) := by
  have hl := rcells_length l
  have hle := hv.le
  go_enter Tryz.func72, Tryz.ntmps72
  repeat' (first | ((with_reducible refine o_s ?_); (first | (refine o_1 ?_; refine o_2 ?_) | (refine o_g ?_; first | refine o_u ?_ | refine o_k ?_ | refine o_n ?_ | refine o_v ?_ | ((first | refine o_G ?_ ?_ | refine o_N ?_ ?_) <;> intro hc)))) | ((fail_if_success (with_reducible refine o_s ?_)); go_step))
  · have hne := ‹25 < ((rcells l).length : Int)›
    go_ret
    refine ⟨?_, Ext.refl _⟩
    have : decide (l.length ≤ 25) = false := decide_eq_false (by omega)
    simp [shortR, this]
  · have h25 : decide (l.length ≤ 25) = true := decide_eq_true (by omega)
    go_loopw [3] (fun i wr => ∃ k : Nat, k ≤ l.length ∧ i = .int .i64 k ∧ Ext w wr ∧ (l.take k).all shortAt = true) (fun i _ => l.length - (intOf i).toNat)
    case atStart => exact ⟨0, Nat.zero_le _, rfl, Ext.refl _, rfl⟩
    case round =>
      obtain ⟨k, hk, rfl, hx, hall⟩ := hrel
      have hv2 := hv.ext hx
      by_cases hlt : k < l.length
      · have h1 := hv2.elem (rcells_at hlt)
        repeat' (first | ((with_reducible refine o_s ?_); (first | (refine o_1 ?_; refine o_2 ?_) | (refine o_g ?_; first | refine o_u ?_ | refine o_k ?_ | refine o_n ?_ | refine o_v ?_ | ((first | refine o_G ?_ ?_ | refine o_N ?_ ?_) <;> intro hc)))) | ((fail_if_success (with_reducible refine o_s ?_)); go_step))
        · go_ret
          refine ⟨?_, by exact extc⟩
          have : shortAt l[k] = false := by have : decide (l[k].data.length ≤ 300) = false := decide_eq_false (by omega)
                                            simp [shortAt, this]
          simp [shortR, all_no hlt this]
        · have ha : shortAt l[k] = true := by
            have e1 : decide (l[k].data.length ≤ 300) = true := decide_eq_true (by omega)
            have e2 : decide (l[k].name.length ≤ 300) = true := decide_eq_true (by omega)
            rw [shortAt, e1, e2]; rfl
          exact ⟨⟨k + 1, by omega, rfl, by exact extc, all_take hlt hall ha⟩, by simp [intOf]; omega⟩
        · go_ret
          refine ⟨?_, by exact extc⟩
          have : shortAt l[k] = false := by have : decide (l[k].name.length ≤ 300) = false := decide_eq_false (by omega)
                                            simp [shortAt, this]
          simp [shortR, all_no hlt this]
      · have hk2 : k = l.length := by omega
        subst hk2
        repeat' (first | ((with_reducible refine o_s ?_); (first | (refine o_1 ?_; refine o_2 ?_) | (refine o_g ?_; first | refine o_u ?_ | refine o_k ?_ | refine o_n ?_ | refine o_v ?_ | ((first | refine o_G ?_ ?_ | refine o_N ?_ ?_) <;> intro hc)))) | ((fail_if_success (with_reducible refine o_s ?_)); go_step))
        go_ret
        refine ⟨?_, by exact extc⟩
        rw [List.take_length] at hall
        rw [shortR, h25, hall]
        rfl
/-! ### lodestarref07.Few -/
def fewAt (s : RSet) : Bool := decide (s.data.length ≤ 12) && decide (s.name.length ≤ 300) && s.data.all fun d => decide (d.length ≤ 300)
def fewS (l : List RSet) : Bool := decide (l.length ≤ 25) && l.all fewAt
set_option maxHeartbeats 2000000 in
theorem t14 (v : Value) (l : List RSet) (w : World) (hv : SetsAt w v l) : Calls Tryz.prog 71 #[v] w (RetV w (.bool (fewS l))) := by
  obtain ⟨cv, hv1, hvl⟩ := hv.sl
  have hle := hv1.le
  go_enter Tryz.func71, Tryz.ntmps71
  repeat' (first | ((with_reducible refine o_s ?_); (first | (refine o_1 ?_; refine o_2 ?_) | (refine o_g ?_; first | refine o_u ?_ | refine o_k ?_ | refine o_n ?_ | refine o_v ?_ | ((first | refine o_G ?_ ?_ | refine o_N ?_ ?_) <;> intro hc)))) | ((fail_if_success (with_reducible refine o_s ?_)); go_step))
  · go_ret
    refine ⟨?_, Ext.refl _⟩
    have : decide (l.length ≤ 25) = false := decide_eq_false (by omega)
    simp [fewS, this]
  · have h25 : decide (l.length ≤ 25) = true := decide_eq_true (by omega)
    go_loopw [3, 4] (fun i _ wr => ∃ k : Nat, k ≤ l.length ∧ i = .int .i64 k ∧ Ext w wr ∧ (l.take k).all fewAt = true) (fun i _ _ => l.length - (intOf i).toNat)
    case atStart => exact ⟨0, Nat.zero_le _, rfl, Ext.refl _, rfl⟩
    case round =>
      obtain ⟨k, hk, rfl, hx, hall⟩ := hrel
      have hv2 := hv1.ext hx
      by_cases hlt : k < l.length
      · obtain ⟨x, h1, h1d⟩ := (hv.ext hx).elem (List.getElem?_eq_getElem hlt)
        have hdl := tcells_length l[k].data
        have hdle := h1d.le
        repeat' (first | ((with_reducible refine o_s ?_); (first | (refine o_1 ?_; refine o_2 ?_) | (refine o_g ?_; first | refine o_u ?_ | refine o_k ?_ | refine o_n ?_ | refine o_v ?_ | ((first | refine o_G ?_ ?_ | refine o_N ?_ ?_) <;> intro hc)))) | ((fail_if_success (with_reducible refine o_s ?_)); go_step))
        · go_ret
          refine ⟨?_, by exact extc⟩
          have : fewAt l[k] = false := by
            have : decide (l[k].name.length ≤ 300) = false := decide_eq_false (by omega)
            simp [fewAt, this]
          simp [fewS, all_no hlt this]
        · have e1 : decide (l[k].data.length ≤ 12) = true := decide_eq_true (by omega)
          have e2 : decide (l[k].name.length ≤ 300) = true := decide_eq_true (by omega)
          go_loopw [4] (fun i wq => ∃ j : Nat, j ≤ l[k].data.length ∧ i = .int .i64 j ∧ Ext wr wq ∧ (l[k].data.take j).all (fun d => decide (d.length ≤ 300)) = true) (fun i _ => l[k].data.length - (intOf i).toNat)
          case atStart => exact ⟨0, Nat.zero_le _, rfl, Ext.refl _, rfl⟩
          case round =>
            obtain ⟨j, hj, rfl, hx2, hall2⟩ := hrel
            have hv3 := hv2.ext hx2
            have h1b := h1.ext hx2
            have h1c := h1d.ext hx2
            by_cases hlt2 : j < l[k].data.length
            · have h3 := h1c.elem (tcells_at hlt2)
              repeat' (first | ((with_reducible refine o_s ?_); (first | (refine o_1 ?_; refine o_2 ?_) | (refine o_g ?_; first | refine o_u ?_ | refine o_k ?_ | refine o_n ?_ | refine o_v ?_ | ((first | refine o_G ?_ ?_ | refine o_N ?_ ?_) <;> intro hc)))) | ((fail_if_success (with_reducible refine o_s ?_)); go_step))
              · go_ret
                refine ⟨?_, by exact extc⟩
                have : fewAt l[k] = false := by
                  have : l[k].data.all (fun d => decide (d.length ≤ 300)) = false := all_no hlt2 (decide_eq_false (by omega))
                  simp only [fewAt, this, Bool.and_false]
                simp [fewS, all_no hlt this]
              · exact ⟨⟨j + 1, by omega, rfl, by exact extc, all_take hlt2 hall2 (decide_eq_true (by omega))⟩, by simp [intOf]; omega⟩
            · have hj2 : j = l[k].data.length := by omega
              subst hj2
              repeat' (first | ((with_reducible refine o_s ?_); (first | (refine o_1 ?_; refine o_2 ?_) | (refine o_g ?_; first | refine o_u ?_ | refine o_k ?_ | refine o_n ?_ | refine o_v ?_ | ((first | refine o_G ?_ ?_ | refine o_N ?_ ?_) <;> intro hc)))) | ((fail_if_success (with_reducible refine o_s ?_)); go_step))
              rw [List.take_length] at hall2
              exact ⟨⟨k + 1, by omega, rfl, by exact extc, all_take hlt hall (by rw [fewAt, e1, e2, hall2]; rfl)⟩, by simp [intOf]; omega⟩
        · go_ret
          refine ⟨?_, by exact extc⟩
          have : fewAt l[k] = false := by
            have : decide (l[k].data.length ≤ 12) = false := decide_eq_false (by omega)
            simp [fewAt, this]
          simp [fewS, all_no hlt this]
      · have hk2 : k = l.length := by omega
        subst hk2
        repeat' (first | ((with_reducible refine o_s ?_); (first | (refine o_1 ?_; refine o_2 ?_) | (refine o_g ?_; first | refine o_u ?_ | refine o_k ?_ | refine o_n ?_ | refine o_v ?_ | ((first | refine o_G ?_ ?_ | refine o_N ?_ ?_) <;> intro hc)))) | ((fail_if_success (with_reducible refine o_s ?_)); go_step))
        go_ret
        refine ⟨?_, by exact extc⟩
        rw [List.take_length] at hall
        rw [fewS, h25, hall]
        rfl
end Go.Proofs.X
