/- Laws and walks that the proof of the statement is made of (part 6). -/
import Derived.Test.YtoajkilickakiaaGreatProg
import Derived.Lib.Hide
import Derived.Test.YtoajkilickakiaaGreatShelf
import Derived.Shelf.SlSortCmp.NoneTotal
import Derived.OwnWalk
import Derived.Shelf.RegionOpenPlain
import Derived.Lib.Strings
import Derived.Lib.Slices
import Derived.Lib.Walk
import Derived.Lib.Builder
import Derived.Lib.AppendStr
import Derived.Lib.UnsafeStr
import Derived.Lib.MakeNoZero
import Derived.WalkKit
import Derived.Laws.Externs
import Derived.Laws.IdiomCopy
import Derived.Laws.BitsLemmas
import GoSem.Claims
import Derived.Test.YtoajkilickakiaaGreatP1
import Derived.Test.YtoajkilickakiaaGreatP2
import Derived.Test.YtoajkilickakiaaGreatP3
import Derived.Test.YtoajkilickakiaaGreatP4
import Derived.Test.YtoajkilickakiaaGreatP5
set_option linter.unusedSimpArgs false
set_option linter.unusedVariables false
namespace Go.Proofs.X
open Go.RowKit
set_option maxRecDepth 100000
section
variable {P : Program} {w : World} {ts : List Value} {df : List Deferred} {d : Option Nat} {ty : TypeId} {ps : String} {af : Array Edge} {g : Option (Nat × Bool)}
def boolTy (P : Program) (t : TypeId) : Bool := match P.underlying t with | some .bool => true | _ => false
end
theorem few_bounds {l : List RSet} (h : fewS l = true) : l.length ≤ 25 ∧ (∀ s ∈ l, s.data.length ≤ 12) ∧ (∀ s ∈ l, s.name.length ≤ 300) ∧ ∀ s ∈ l, ∀ d ∈ s.data, d.length ≤ 300 := by
  simp only [fewS, Bool.and_eq_true, decide_eq_true_eq, List.all_eq_true, fewAt] at h
  exact ⟨h.1, fun s hs => (h.2 s hs).1.1, fun s hs => (h.2 s hs).1.2, fun s hs d hd => (h.2 s hs).2 d hd⟩
def fieldPlain (P : Program) (s n off : Nat) : Bool := match P.underlying s with | some (.struct fs) => (match fs[n]? with | some f => f.offset == off && plainTy P f.type | none => false) | _ => false
theorem fieldPlain_spec {P : Program} {s n off : Nat} (h : fieldPlain P s n off = true) : ∃ fs f, P.underlying s = some (.struct fs) ∧ fs[n]? = some f ∧ f.offset = off ∧ plainTy P f.type = true := by
  unfold fieldPlain at h
  split at h
  · rename_i fs hfs
    split at h
    · rename_i f hf
      simp only [Bool.and_eq_true, beq_iff_eq] at h
      exact ⟨fs, f, hfs, hf, h.1, h.2⟩
    · cases h
  · cases h
section
variable {P : Program} {a : Act} {w : World} {d : Option Nat} {ty : TypeId} {ps : String} {af : Array Edge} {g : Option (Nat × Bool)}
theorem Runs.fieldV {s : TypeId} {x : Operand} {n off : Nat} {cs : Array Value} {v : Value} (hx : a.eval x = .agg cs) (hc : cs[off]? = some v) (hf : fieldPlain P s n off = true) : Runs P (Oper.mk d (.field s x n) ty ps af g) a w v := by
  obtain ⟨fs, f, ht, hf, ho, hp⟩ := fieldPlain_spec hf
  obtain ⟨u, hu, hn⟩ := plainTy_spec hp
  constructor
  simp [execOp, hx, Instr.field, run_underlying ht, hf, ho, asAgg, part, Sem.run_bind, isAgg_no hu hn, hc]
end
section
variable {P : Program} {w : World} {ts : List Value} {df : List Deferred} {d : Option Nat} {ty : TypeId} {ps : String} {af : Array Edge} {g : Option (Nat × Bool)}
theorem Runs.neqB2 {t u : TypeId} {x y : Operand} {a b : Bool} (hx : (Act.mk ts.toArray df).eval x = .bool a) (hy : (Act.mk ts.toArray df).eval y = .bool b) (ht : boolTy P t = true) :
    Runs P (Oper.mk d (.binOp .neq t x y u) ty ps af g) (Act.mk ts.toArray df) w (.bool (a != b)) := by
  have hu : P.underlying t = some .bool := by
    unfold boolTy at ht; split at ht
    · assumption
    · cases ht
  constructor
  simp [execOp, hx, hy, eqGuard, binOp, run_equal_bool w t a b hu, bne]
end
theorem drop_get {l : List UInt8} {i : Nat} (h : i < l.length) : l.drop i = l[i] :: l.drop (i + 1) := List.drop_eq_getElem_cons h
theorem getD_get {l : List UInt8} {i : Nat} (h : i < l.length) : l.getD i 0 = l[i] := by simp [h]
theorem parse_at {l : List UInt8} {i : Nat} (h : i < l.length) : parse (l.drop i) = if (l.getD i 0).toNat < 1 ∨ 63 < (l.getD i 0).toNat ∨ l.length - i - 1 < (l.getD i 0).toNat then none else (parse (l.drop (i + 1 + (l.getD i 0).toNat))).map ((l.take (i + 1 + (l.getD i 0).toNat)).drop (i + 1) :: ·) := by
  rw [drop_get h, getD_get h, parse_cons]
  simp only [List.length_drop]
  rw [show l.length - (i + 1) = l.length - i - 1 by omega]
  congr 1
  rw [List.drop_drop, List.drop_take]
  rw [show i + 1 + l[i].toNat - (i + 1) = l[i].toNat by omega]
set_option maxHeartbeats 1000000 in
theorem r1_cut (nm : List UInt8) (w : World) : Calls Tryz.prog 94 #[str nm] w (Ret w fun v w' => match labels nm with
    | none => v = .tuple #[.slice none 0 0, .bool false]
    | some ls => ∃ s, v = .tuple #[s, .bool true] ∧ Own w.heap.size 1 9 w' s (tcells ls)) := by
  by_cases h254 : 254 < nm.length
  · go_enter Tryz.func94, Tryz.ntmps94
    repeat' (first | ((with_reducible refine o_s ?_); (first | (refine o_1 ?_; refine o_2 ?_) | (refine o_g ?_; first | refine o_u ?_ | refine o_k ?_ | refine o_n ?_ | refine o_v ?_ | ((first | refine o_G ?_ ?_ | refine o_N ?_ ?_) <;> intro hc)))) | ((fail_if_success (with_reducible refine o_s ?_)); go_step))
    go_ret2
    exact ⟨_, rfl, Ext.refl _, by simp [labels, h254]⟩
  · have hlab : labels nm = parse nm := by rw [labels, if_neg h254]
    rw [hlab]
    go_enter Tryz.func94, Tryz.ntmps94
    repeat' (first | ((with_reducible refine o_s ?_); (first | (refine o_1 ?_; refine o_2 ?_) | (refine o_g ?_; first | refine o_u ?_ | refine o_k ?_ | refine o_n ?_ | refine o_v ?_ | ((first | refine o_G ?_ ?_ | refine o_N ?_ ?_) <;> intro hc)))) | ((fail_if_success (with_reducible refine o_s ?_)); go_step))
    have h0 : 0 ≤ nm.length := Nat.zero_le _
    go_loopw [4, 5, 6] (fun o a _ wr => ∃ (i : Nat) (pre : List (List UInt8)), i ≤ nm.length ∧ a = .int .i64 i ∧ Ext w wr ∧ Own w.heap.size 1 9 wr o (tcells pre) ∧ pre.length ≤ i ∧ parse nm = (parse (nm.drop i)).map (pre ++ ·)) (fun _ a _ _ => nm.length - (intOf a).toNat)
    case atStart => exact ⟨0, [], Nat.zero_le _, rfl, Ext.refl _, Own.nil _ _ _ _, Nat.le_refl _, by simp⟩
    case round =>
      obtain ⟨i, pre, hi, rfl, hx, ho, hpl, hpar⟩ := hrel
      by_cases hlt : i < nm.length
      · rw [parse_at hlt] at hpar
        have hb : (nm.getD i 0).toNat < 256 := UInt8.toNat_lt _
        repeat' (first | ((with_reducible refine o_s ?_); (first | (refine o_1 ?_; refine o_2 ?_) | (refine o_g ?_; first | refine o_u ?_ | refine o_k ?_ | refine o_n ?_ | refine o_v ?_ | ((first | refine o_G ?_ ?_ | refine o_N ?_ ?_) <;> intro hc)))) | ((fail_if_success (with_reducible refine o_s ?_)); go_step))
        rotate_left
        · rw [if_neg (by omega), Option.map_map] at hpar
          refine ap1 [str ((nm.take (i + 1 + (nm.getD i 0).toNat)).drop (i + 1))] hx ho (by rw [tcells_length]; omega) ?_
          intro s2 v2 w1 w2 _ _ x2 o2
          refine gset ?_
          repeat' (first | ((with_reducible refine o_s ?_); (first | (refine o_1 ?_; refine o_2 ?_) | (refine o_g ?_; first | refine o_u ?_ | refine o_k ?_ | refine o_n ?_ | refine o_v ?_ | ((first | refine o_G ?_ ?_ | refine o_N ?_ ?_) <;> intro hc)))) | ((fail_if_success (with_reducible refine o_s ?_)); go_step))
          refine ⟨⟨i + 1 + (nm.getD i 0).toNat, pre ++ [(nm.take (i + 1 + (nm.getD i 0).toNat)).drop (i + 1)], by omega, by go_num, x2, ?_, by simp; omega, ?_⟩, by simp [intOf]; omega⟩
          · simpa [tcells] using o2
          · rw [hpar]; congr 1; funext x; simp
        all_goals
          go_ret2
          exact ⟨_, rfl, hx, by rw [hpar, if_pos (by omega)]; rfl⟩
      · have : i = nm.length := by omega
        subst this
        rw [List.drop_length, parse_nil, Option.map_some, List.append_nil] at hpar
        repeat' (first | ((with_reducible refine o_s ?_); (first | (refine o_1 ?_; refine o_2 ?_) | (refine o_g ?_; first | refine o_u ?_ | refine o_k ?_ | refine o_n ?_ | refine o_v ?_ | ((first | refine o_G ?_ ?_ | refine o_N ?_ ?_) <;> intro hc)))) | ((fail_if_success (with_reducible refine o_s ?_)); go_step))
        go_ret2
        exact ⟨_, rfl, hx, by rw [hpar]; exact ⟨_, rfl, ho⟩⟩

theorem r1_Check (nm : List UInt8) (w : World) : Calls Tryz.prog 136 #[str nm] w (RetV w (.int .i64 (if (labels nm).isSome then 0 else 1))) := by
  go_enter Tryz.func136, Tryz.ntmps136
  repeat' (first | ((with_reducible refine o_s ?_); (first | (refine o_1 ?_; refine o_2 ?_) | (refine o_g ?_; first | refine o_u ?_ | refine o_k ?_ | refine o_n ?_ | refine o_v ?_ | ((first | refine o_G ?_ ?_ | refine o_N ?_ ?_) <;> intro hc)))) | ((fail_if_success (with_reducible refine o_s ?_)); go_step))
  refine wpl_callR (enters_of Tryz.func94 rfl rfl) rfl rfl (r1_cut nm _) ?_
  intro v w1 x1 hv
  cases hl : labels nm with
  | none =>
    rw [hl] at hv
    subst hv
    repeat' (first | ((with_reducible refine o_s ?_); (first | (refine o_1 ?_; refine o_2 ?_) | (refine o_g ?_; first | refine o_u ?_ | refine o_k ?_ | refine o_n ?_ | refine o_v ?_ | ((first | refine o_G ?_ ?_ | refine o_N ?_ ?_) <;> intro hc)))) | ((fail_if_success (with_reducible refine o_s ?_)); go_step))
    go_ret
    exact ⟨by simp [hl], x1⟩
  | some ls =>
    rw [hl] at hv
    obtain ⟨s, rfl, _⟩ := hv
    repeat' (first | ((with_reducible refine o_s ?_); (first | (refine o_1 ?_; refine o_2 ?_) | (refine o_g ?_; first | refine o_u ?_ | refine o_k ?_ | refine o_n ?_ | refine o_v ?_ | ((first | refine o_G ?_ ?_ | refine o_N ?_ ?_) <;> intro hc)))) | ((fail_if_success (with_reducible refine o_s ?_)); go_step))
    go_ret
    exact ⟨by simp [hl], x1⟩
theorem lowB_of32 {b : UInt8} (h : 65 ≤ b.toNat) (h2 : b.toNat ≤ 90) : IntKind.wrap .u8 ((b.toNat : Int) + 32) = ((lowB b).toNat : Int) := by
  rw [lowB, if_pos ⟨h, h2⟩]
  have : (b + 32).toNat = b.toNat + 32 := by rw [UInt8.toNat_add]; simp; omega
  rw [this]
  simp [IntKind.wrap, IntKind.bits, IntKind.signed]; omega
set_option maxHeartbeats 1000000 in
theorem r1_Small (l : List UInt8) (w : World) (hl : l.length ≤ 4611686018427387904) : Calls Tryz.prog 95 #[str l] w (RetV w (str (low l))) := by
  go_enter Tryz.func95, Tryz.ntmps95
  repeat' (first | ((with_reducible refine o_s ?_); (first | (refine o_1 ?_; refine o_2 ?_) | (refine o_g ?_; first | refine o_u ?_ | refine o_k ?_ | refine o_n ?_ | refine o_v ?_ | ((first | refine o_G ?_ ?_ | refine o_N ?_ ?_) <;> intro hc)))) | ((fail_if_success (with_reducible refine o_s ?_)); go_step))
  refine wpl_bytes (e := 5) (l := l) rfl rfl (by decide +kernel) (by decide +kernel) (by omega) ?_
  intro v w1 x1 o1
  refine gset ?_
  have hlb : (bcells l).length = l.length := by simp [bcells]
  repeat' (first | ((with_reducible refine o_s ?_); (first | (refine o_1 ?_; refine o_2 ?_) | (refine o_g ?_; first | refine o_u ?_ | refine o_k ?_ | refine o_n ?_ | refine o_v ?_ | ((first | refine o_G ?_ ?_ | refine o_N ?_ ?_) <;> intro hc)))) | ((fail_if_success (with_reducible refine o_s ?_)); go_step))
  go_loopw [4] (fun i wr => ∃ k : Nat, k ≤ l.length ∧ i = .int .i64 k ∧ Ext w wr ∧ Own w.heap.size 1 5 wr v (bcells (lowP l k))) (fun i _ => l.length - (intOf i).toNat)
  case atStart => exact ⟨0, Nat.zero_le _, rfl, x1, by simpa [lowP_zero] using o1⟩
  case round =>
    obtain ⟨k, hk, rfl, hx, ho⟩ := hrel
    have hsl := ho.sl
    have hlen : (bcells (lowP l k)).length = l.length := by simp [bcells, lowP_length]
    by_cases hlt : k < l.length
    · have hp := hsl.elem (bcells_get _ _ _ (lowP_get l k hlt))
      repeat' (first | ((with_reducible refine o_s ?_); (first | (refine o_1 ?_; refine o_2 ?_) | (refine o_g ?_; first | refine o_u ?_ | refine o_k ?_ | refine o_n ?_ | refine o_v ?_ | ((first | refine o_G ?_ ?_ | refine o_N ?_ ?_) <;> intro hc)))) | ((fail_if_success (with_reducible refine o_s ?_)); go_step))
      · refine wpl_storeE1 (c := .int .u8 _) (i := k) rfl rfl rfl ho (by omega) (by decide +kernel) rfl ?_
        intro w2 o2 m2
        have hx2 := ho.mvx m2 hx (Nat.le_refl _)
        have e2 : (bcells (lowP l k)).set k [Value.int .u8 (IntKind.u8.wrap (↑l[k].toNat + 32))] = bcells (lowP l (k + 1)) := by
          rw [lowP_succ l k hlt, ← bcells_set, lowB_of32 (by omega) (by omega)]
        rw [e2] at o2
        clear hx ho hsl hp
        repeat' (first | ((with_reducible refine o_s ?_); (first | (refine o_1 ?_; refine o_2 ?_) | (refine o_g ?_; first | refine o_u ?_ | refine o_k ?_ | refine o_n ?_ | refine o_v ?_ | ((first | refine o_G ?_ ?_ | refine o_N ?_ ?_) <;> intro hc)))) | ((fail_if_success (with_reducible refine o_s ?_)); go_step))
        exact ⟨⟨k + 1, by omega, by go_num, hx2, o2⟩, by simp [intOf]; omega⟩
      all_goals
        refine ⟨⟨k + 1, by omega, by go_num, hx, ?_⟩, by simp [intOf]; omega⟩
        rw [lowP_same l k hlt (lowB_no (by omega))]; exact ho
    · have : k = l.length := by omega
      subst this
      rw [lowP_all] at hsl hlen
      repeat' (first | ((with_reducible refine o_s ?_); (first | (refine o_1 ?_; refine o_2 ?_) | (refine o_g ?_; first | refine o_u ?_ | refine o_k ?_ | refine o_n ?_ | refine o_v ?_ | ((first | refine o_G ?_ ?_ | refine o_N ?_ ?_) <;> intro hc)))) | ((fail_if_success (with_reducible refine o_s ?_)); go_step))
      go_ret
      exact ⟨rfl, hx⟩
theorem r1_order (a b : List UInt8) (w : World) : Calls Tryz.prog 222 #[str a, str b] w (RetV w (.int .i64 (cmpB a b))) := by
  go_enter Tryz.func222, Tryz.ntmps222
  repeat' (first | ((with_reducible refine o_s ?_); (first | (refine o_1 ?_; refine o_2 ?_) | (refine o_g ?_; first | refine o_u ?_ | refine o_k ?_ | refine o_n ?_ | refine o_v ?_ | ((first | refine o_G ?_ ?_ | refine o_N ?_ ?_) <;> intro hc)))) | ((fail_if_success (with_reducible refine o_s ?_)); go_step))
  · have h := ‹Op.bytesLess a b = true›
    go_ret
    exact ⟨by simp [cmpB, h], Ext.refl _⟩
  · have h := ‹Op.bytesLess a b = false›
    have h2 := ‹(!(Op.bytesLess a b || a == b)) = true›
    go_ret
    exact ⟨by simp [h] at h2; simp [cmpB, h, h2], Ext.refl _⟩
  · have h := ‹Op.bytesLess a b = false›
    have h2 := ‹(!(Op.bytesLess a b || a == b)) = false›
    go_ret
    exact ⟨by simp [h] at h2; subst h2; simp [cmpB, h], Ext.refl _⟩
theorem r1_Labels (nm : List UInt8) (w : World) : Calls Tryz.prog 195 #[str nm] w (Ret w fun v w' => Own w.heap.size 1 9 w' v (tcells ((labels nm).getD []))) := by
  go_enter Tryz.func195, Tryz.ntmps195
  repeat' (first | ((with_reducible refine o_s ?_); (first | (refine o_1 ?_; refine o_2 ?_) | (refine o_g ?_; first | refine o_u ?_ | refine o_k ?_ | refine o_n ?_ | refine o_v ?_ | ((first | refine o_G ?_ ?_ | refine o_N ?_ ?_) <;> intro hc)))) | ((fail_if_success (with_reducible refine o_s ?_)); go_step))
  refine wpl_callR (enters_of Tryz.func94 rfl rfl) rfl rfl (r1_cut nm _) ?_
  intro v w1 x1 hv
  cases hl : labels nm with
  | none =>
    rw [hl] at hv
    subst hv
    repeat' (first | ((with_reducible refine o_s ?_); (first | (refine o_1 ?_; refine o_2 ?_) | (refine o_g ?_; first | refine o_u ?_ | refine o_k ?_ | refine o_n ?_ | refine o_v ?_ | ((first | refine o_G ?_ ?_ | refine o_N ?_ ?_) <;> intro hc)))) | ((fail_if_success (with_reducible refine o_s ?_)); go_step))
    go_ret
    refine ⟨_, rfl, x1, ?_⟩
    simp only [hl, Option.getD_none]
    exact Own.nil _ _ _ _
  | some ls =>
    rw [hl] at hv
    obtain ⟨s, rfl, o⟩ := hv
    repeat' (first | ((with_reducible refine o_s ?_); (first | (refine o_1 ?_; refine o_2 ?_) | (refine o_g ?_; first | refine o_u ?_ | refine o_k ?_ | refine o_n ?_ | refine o_v ?_ | ((first | refine o_G ?_ ?_ | refine o_N ?_ ?_) <;> intro hc)))) | ((fail_if_success (with_reducible refine o_s ?_)); go_step))
    go_ret
    refine ⟨_, rfl, x1, ?_⟩
    simp only [hl, Option.getD_some]
    exact o
theorem enc_ge {ls : List (List UInt8)} (h : ls.all fitL = true) : 2 * ls.length ≤ (enc ls).length := by
  induction ls with
  | nil => simp [enc]
  | cons x ls ih =>
    simp only [List.all_cons, Bool.and_eq_true] at h
    have := ih h.2
    have e : enc (x :: ls) = UInt8.ofNat x.length :: x ++ enc ls := by simp [enc]
    have hx : 1 ≤ x.length := by have := h.1; simp [fitL] at this; omega
    rw [e]; simp; omega
theorem join_many {ls : List (List UInt8)} (h : 127 < ls.length) : join ls = none := by
  rw [join, if_neg]
  rintro ⟨h1, h2⟩
  have := enc_ge h1
  omega
set_option maxHeartbeats 1000000 in
theorem r1_Join (v : Value) (ls : List (List UInt8)) (w : World) (h : Sl 1 w v (tcells ls)) : Calls Tryz.prog 96 #[v] w (RetV w (match join ls with | some n => .tuple #[str n, .int .i64 0] | none => .tuple #[str [], .int .i64 1])) := by
  have hlt0 : (tcells ls).length = ls.length := tcells_length ls
  by_cases h127 : 127 < ls.length
  · go_enter Tryz.func96, Tryz.ntmps96
    repeat' (first | ((with_reducible refine o_s ?_); (first | (refine o_1 ?_; refine o_2 ?_) | (refine o_g ?_; first | refine o_u ?_ | refine o_k ?_ | refine o_n ?_ | refine o_v ?_ | ((first | refine o_G ?_ ?_ | refine o_N ?_ ?_) <;> intro hc)))) | ((fail_if_success (with_reducible refine o_s ?_)); go_step))
    go_ret2
    exact ⟨by rw [join_many h127]; rfl, Ext.refl _⟩
  · go_enter Tryz.func96, Tryz.ntmps96
    repeat' (first | ((with_reducible refine o_s ?_); (first | (refine o_1 ?_; refine o_2 ?_) | (refine o_g ?_; first | refine o_u ?_ | refine o_k ?_ | refine o_n ?_ | refine o_v ?_ | ((first | refine o_G ?_ ?_ | refine o_N ?_ ?_) <;> intro hc)))) | ((fail_if_success (with_reducible refine o_s ?_)); go_step))
    go_loopw [4, 5] (fun s i wr => ∃ k : Nat, k ≤ ls.length ∧ i = .int .i64 k ∧ s = str (enc (ls.take k)) ∧ Ext w wr ∧ (ls.take k).all fitL = true ∧ (enc (ls.take k)).length ≤ 64 * k) (fun _ i _ => ls.length - (intOf i).toNat)
    case atStart => exact ⟨0, Nat.zero_le _, rfl, rfl, Ext.refl _, rfl, by simp [enc]⟩
    case round =>
      obtain ⟨k, hk, rfl, rfl, hx, hall, hlen⟩ := hrel
      have hsl := h.ext hx
      by_cases hlt : k < ls.length
      · have hp := hsl.elem (tcells_at hlt)
        repeat' (first | ((with_reducible refine o_s ?_); (first | (refine o_1 ?_; refine o_2 ?_) | (refine o_g ?_; first | refine o_u ?_ | refine o_k ?_ | refine o_n ?_ | refine o_v ?_ | ((first | refine o_G ?_ ?_ | refine o_N ?_ ?_) <;> intro hc)))) | ((fail_if_success (with_reducible refine o_s ?_)); go_step))
        rotate_left
        · have h63 : ls[k].length ≤ 63 := by omega
          have h1 : 1 ≤ ls[k].length := by omega
          refine wph_region (S := fun w' => Ext wr w') (by decide +kernel) ?_
          intro w1 x1 hh1
          refine tk 0 ?_; refine gset ?_; refine tk 1 ?_; refine gset ?_; refine tk 2 ?_; refine gset ?_; refine tk 3 ?_; refine gset ?_; refine tk 4 ?_; refine gset ?_; refine tk 5 ?_; refine gset ?_; refine tk 6 ?_; refine gset ?_; refine tk 10 ?_; refine gset ?_; refine tk 11 ?_; refine gset ?_; refine tk 12 ?_; refine gset ?_; refine tk 13 ?_; refine gset ?_
          refine wph_one (i := 7) (by decide +kernel) rfl rfl ?_
          refine wpl_slice (e := 5) (k := 1) (bytes := 1) (xs := [.int .u8 (IntKind.wrap .u8 (ls[k].length : Nat))]) rfl rfl rfl (by simp [Value.cells]) (by decide +kernel) (by simp) ?_
          intro v2 w2 x2 _ s2 _
          have s2 : Sl 1 w2 v2 (bcells [UInt8.ofNat ls[k].length]) := by simpa [bcells, Value.cells, wrapU] using s2
          refine gset ?_
          refine wph_nil ⟨by exact extc, ?_⟩
          refine wph_one (i := 8) (by decide +kernel) rfl rfl ?_
          repeat' (first | ((with_reducible refine o_s ?_); (first | (refine o_1 ?_; refine o_2 ?_) | (refine o_g ?_; first | refine o_u ?_ | refine o_k ?_ | refine o_n ?_ | refine o_v ?_ | ((first | refine o_G ?_ ?_ | refine o_N ?_ ?_) <;> intro hc)))) | ((fail_if_success (with_reducible refine o_s ?_)); go_step))
          refine ⟨by exact extc, ?_⟩
          refine wph_one (i := 9) (by decide +kernel) rfl rfl ?_
          repeat' (first | ((with_reducible refine o_s ?_); (first | (refine o_1 ?_; refine o_2 ?_) | (refine o_g ?_; first | refine o_u ?_ | refine o_k ?_ | refine o_n ?_ | refine o_v ?_ | ((first | refine o_G ?_ ?_ | refine o_N ?_ ?_) <;> intro hc)))) | ((fail_if_success (with_reducible refine o_s ?_)); go_step))
          refine ⟨by exact extc, ?_⟩
          refine wph_one (i := 14) (by decide +kernel) rfl rfl ?_
          repeat' (first | ((with_reducible refine o_s ?_); (first | (refine o_1 ?_; refine o_2 ?_) | (refine o_g ?_; first | refine o_u ?_ | refine o_k ?_ | refine o_n ?_ | refine o_v ?_ | ((first | refine o_G ?_ ?_ | refine o_N ?_ ?_) <;> intro hc)))) | ((fail_if_success (with_reducible refine o_s ?_)); go_step))
          refine ⟨by exact extc, ?_⟩
          refine wph_one (i := 15) (by decide +kernel) rfl rfl ?_
          repeat' (first | ((with_reducible refine o_s ?_); (first | (refine o_1 ?_; refine o_2 ?_) | (refine o_g ?_; first | refine o_u ?_ | refine o_k ?_ | refine o_n ?_ | refine o_v ?_ | ((first | refine o_G ?_ ?_ | refine o_N ?_ ?_) <;> intro hc)))) | ((fail_if_success (with_reducible refine o_s ?_)); go_step))
          refine ⟨by exact extc, ?_⟩
          refine wph_done (by decide +kernel) ?_
          have e : enc (ls.take k) ++ [UInt8.ofNat ls[k].length] ++ ls[k] = enc (ls.take (k + 1)) := by
            rw [List.take_add_one, List.getElem?_eq_getElem hlt, Option.toList_some, enc_append, enc_one]; simp
          rw [e]
          repeat' (first | ((with_reducible refine o_s ?_); (first | (refine o_1 ?_; refine o_2 ?_) | (refine o_g ?_; first | refine o_u ?_ | refine o_k ?_ | refine o_n ?_ | refine o_v ?_ | ((first | refine o_G ?_ ?_ | refine o_N ?_ ?_) <;> intro hc)))) | ((fail_if_success (with_reducible refine o_s ?_)); go_step))
          refine ⟨⟨k + 1, by omega, by go_num, rfl, by exact extc, ?_, ?_⟩, by simp [intOf]; omega⟩
          · rw [List.take_add_one, List.getElem?_eq_getElem hlt, Option.toList_some, List.all_append, hall]
            simp [fitL]; omega
          · rw [← e]; simp; omega
        all_goals
          go_ret2
          refine ⟨?_, hx⟩
          rw [join_bad (List.getElem_mem hlt) (by simp [fitL]; omega)]
          rfl
      · have : k = ls.length := by omega
        subst this
        rw [List.take_length] at hall hlen ⊢
        repeat' (first | ((with_reducible refine o_s ?_); (first | (refine o_1 ?_; refine o_2 ?_) | (refine o_g ?_; first | refine o_u ?_ | refine o_k ?_ | refine o_n ?_ | refine o_v ?_ | ((first | refine o_G ?_ ?_ | refine o_N ?_ ?_) <;> intro hc)))) | ((fail_if_success (with_reducible refine o_s ?_)); go_step))
        · go_ret2
          refine ⟨?_, hx⟩
          rw [join, if_neg (by omega)]
          rfl
        · go_ret2
          refine ⟨?_, hx⟩
          rw [join, if_pos ⟨hall, by omega⟩]
          rfl
end Go.Proofs.X
