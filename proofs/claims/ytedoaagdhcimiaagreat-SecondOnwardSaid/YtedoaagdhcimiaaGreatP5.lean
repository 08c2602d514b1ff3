/- Laws and walks that the proof of the statement is made of (part 5). -/
import Derived.Test.YtedoaagdhcimiaaGreatProg
import Derived.Shelf.RegionOpenPlain
import Derived.Lib.Strings
import Derived.Lib.Slices
import Derived.Lib.Walk
import Derived.Lib.Builder
import Derived.Lib.AppendStr
import Derived.Lib.UnsafeStr
import Derived.Lib.MakeNoZero
import Derived.WalkKit
import Derived.Laws.Externs
import Derived.Laws.IdiomCopy
import Derived.Laws.BitsLemmas
import GoSem.Claims
import Derived.OwnWalk
import Derived.Test.YtedoaagdhcimiaaGreatShelf
import Derived.Lib.Hide
import Derived.Test.YtedoaagdhcimiaaGreatP1
import Derived.Test.YtedoaagdhcimiaaGreatP2
import Derived.Test.YtedoaagdhcimiaaGreatP3
import Derived.Test.YtedoaagdhcimiaaGreatP4
set_option linter.unusedSimpArgs false
set_option linter.unusedVariables false
namespace Go.Proofs.X
open Go.RowKit
set_option maxRecDepth 100000
def badAt (s : RSet) (i : Nat) : Bool := decide (checkR ⟨s.name, s.kind, s.ttl, s.data.getD i []⟩ ≠ 0) || (decide (0 < i) && !Op.bytesLess (s.data.getD (i - 1) []) (s.data.getD i []))
def mayS (s : RSet) : Bool := decide (fold s.name = s.name) && decide (1 ≤ s.data.length) && decide (s.data.length ≤ 20) && (List.range s.data.length).all fun i => !badAt s i
theorem mayS_bad {s : RSet} {i : Nat} (hi : i < s.data.length) (h : badAt s i = true) : mayS s = false := by
  have : (List.range s.data.length).all (fun i => !badAt s i) = false := by
    rw [List.all_eq_false]
    exact ⟨i, by simpa using hi, by simp [h]⟩
  simp [mayS, this]
set_option maxHeartbeats 2400000 in
theorem t23 (s : RSet) (v : Value) (w : World) (hv : Sl 1 w v (tcells s.data)) : Calls Tryz.prog 138 #[.agg #[str s.name, .int .i64 s.kind, .int .i64 s.ttl, v]] w (RetV w (.bool (mayS s))) := by
  have hlen := tcells_length s.data
  go_enter Tryz.func138, Tryz.ntmps138
  repeat' (first | ((with_reducible refine nx0 ?_); go_step) | fail)
  refine wpl_box (vs := [str s.name, .int .i64 s.kind, .int .i64 s.ttl, v]) rfl rfl ?_
  intro p w1 x1 hp
  refine gset ?_
  repeat' (first | ((with_reducible refine nx0 ?_); go_step) | ((with_reducible refine o_s ?_); first | refine wk0 ?_ | (refine wg0 ?_ ?_ <;> intro hc)) | fail)
  refine wph_region (S := Ext w1) (by decide +kernel) ?_
  intro w2 x2 _
  refine tk 0 ?_; refine gset ?_; refine tk 1 ?_; refine gset ?_; refine tk 3 ?_; refine gset ?_; refine tk 4 ?_; refine gset ?_
  refine wph_one (i := 2) (by decide +kernel) rfl rfl ?_
  refine wpl_callV (enters_of Tryz.func69 rfl rfl) rfl rfl (t17 _ _) ?_; intro w3 x3; refine gset ?_
  refine wph_nil ⟨by exact extc, ?_⟩
  refine tk 5 ?_; refine gset ?_
  by_cases hf : fold s.name = s.name
  · have e1 : (decide (fold s.name = s.name)) = true := by simpa using hf
    simp only [e1, Bool.not_true]
    refine tk 6 ?_; refine gset ?_; refine tk 7 ?_; refine gset ?_; refine tk 8 ?_; refine gset ?_; refine tk 9 ?_; refine gset ?_; refine tk 10 ?_; refine gset ?_
    by_cases h1 : s.data.length < 1
    · have e2 : decide (((tcells s.data).length : Int) < 1) = true := decide_eq_true (by omega)
      simp only [e2]
      refine tk 11 ?_; refine gset ?_; refine tk 12 ?_; refine gset ?_
      refine tsk 13 ?_; refine gset ?_
      refine tsk 14 ?_; refine gset ?_
      refine tsk 15 ?_; refine gset ?_
      refine tsk 16 ?_; refine gset ?_
      refine tk 17 ?_; refine gset ?_
      refine wph_done (by decide +kernel) ?_
      repeat' (first | ((with_reducible refine nx0 ?_); go_step) | ((with_reducible refine o_s ?_); first | refine wk0 ?_ | (refine wg0 ?_ ?_ <;> intro hc)) | fail)
      go_ret
      refine ⟨?_, by exact extc⟩
      have : decide (1 ≤ s.data.length) = false := decide_eq_false (by omega)
      simp [mayS, this]
    · have e2 : decide (((tcells s.data).length : Int) < 1) = false := decide_eq_false (by omega)
      simp only [e2]
      refine tk 11 ?_; refine gset ?_; refine tk 12 ?_; refine gset ?_; refine tk 13 ?_; refine gset ?_; refine tk 14 ?_; refine gset ?_; refine tk 15 ?_; refine gset ?_; refine tk 16 ?_; refine gset ?_; refine tk 17 ?_; refine gset ?_
      refine wph_done (by decide +kernel) ?_
      by_cases h2 : 20 < s.data.length
      · have e3 : decide ((20 : Int) < ((tcells s.data).length : Int)) = true := decide_eq_true (by omega)
        simp only [e3]
        repeat' (first | ((with_reducible refine nx0 ?_); go_step) | ((with_reducible refine o_s ?_); first | refine wk0 ?_ | (refine wg0 ?_ ?_ <;> intro hc)) | fail)
        go_ret
        refine ⟨?_, by exact extc⟩
        have : decide (s.data.length ≤ 20) = false := decide_eq_false (by omega)
        simp [mayS, this]
      · have e3 : decide ((20 : Int) < ((tcells s.data).length : Int)) = false := decide_eq_false (by omega)
        simp only [e3]
        repeat' (first | ((with_reducible refine nx0 ?_); go_step) | ((with_reducible refine o_s ?_); first | refine wk0 ?_ | (refine wg0 ?_ ?_ <;> intro hc)) | fail)
        have hxx : Ext w w3 := by exact extc
        go_loopw [3, 4, 26] (fun _ _ i wr => ∃ k : Nat, k ≤ s.data.length ∧ i = .int .i64 k ∧ Ext w3 wr ∧ ∀ j, j < k → badAt s j = false) (fun _ _ i _ => s.data.length - (intOf i).toNat)
        case atStart => exact ⟨0, Nat.zero_le _, rfl, Ext.refl _, by omega⟩
        case round =>
          obtain ⟨k, hk, rfl, hx, hall⟩ := hrel
          by_cases hlt : k < s.data.length
          · have hvr : Sl 1 wr v (tcells s.data) := hv.ext (hxx.trans hx)
            have he : (tcells s.data)[k]? = some [str s.data[k]] := by simp [tcells, hlt]
            have hpe := hvr.elem he
            have hpr : Pts wr p _ := hp.ext ((x2.trans x3).trans hx)
            have hbad : badAt s k = (decide (checkR ⟨s.name, s.kind, s.ttl, s.data[k]⟩ ≠ 0) || (decide (0 < k) && !Op.bytesLess (s.data.getD (k - 1) []) s.data[k])) := by
              have : s.data.getD k [] = s.data[k] := by simp [hlt]
              rw [badAt, this]
            repeat' (first | ((with_reducible refine nx0 ?_); go_step) | ((with_reducible refine o_s ?_); first | refine wk0 ?_ | (refine wg0 ?_ ?_ <;> intro hc)) | fail)
            refine wpl_callV (enters_of Tryz.func134 rfl rfl) rfl rfl (t22 _ _ _ _) ?_; intro w7 x7; refine gset ?_
            repeat' (first | ((with_reducible refine nx0 ?_); go_step) | ((with_reducible refine o_s ?_); first | refine wk0 ?_ | (refine wg0 ?_ ?_ <;> intro hc)) | fail)
            refine wpl_callV (enters_of Tryz.func108 rfl rfl) rfl rfl (t16 ⟨s.name, s.kind, s.ttl, s.data[k]⟩ _) ?_; intro w8 x8; refine gset ?_
            by_cases hc : checkR ⟨s.name, s.kind, s.ttl, s.data[k]⟩ = 0
            · have e4 : decide (checkR ⟨s.name, s.kind, s.ttl, s.data[k]⟩ = 0) = true := decide_eq_true hc
              generalize checkR ⟨s.name, s.kind, s.ttl, s.data[k]⟩ = cr at hc e4 hbad ⊢
              ((with_reducible refine o_s ?_); (first | (refine o_1 ?_; refine o_2 ?_) | (refine o_g ?_; refine o_u ?_; (with_reducible refine o_s ?_); refine o_1 ?_; refine o_2 ?_)))
              simp only [e4, Bool.not_true]
              repeat' (first | ((with_reducible refine nx0 ?_); go_step) | ((with_reducible refine o_s ?_); first | refine wk0 ?_ | (refine wg0 ?_ ?_ <;> intro hc)) | fail)
              · have hpp : Pts wr (elemPtr v (((k : Int) - 1).toNat * 1)) [str (s.data.getD (k - 1) [])] := by
                  have e : ((k : Int) - 1).toNat = k - 1 := by omega
                  rw [e]
                  refine hvr.elem ?_
                  have : k - 1 < s.data.length := by omega
                  simp [tcells, this]
                repeat' (first | ((with_reducible refine nx0 ?_); go_step) | ((with_reducible refine o_s ?_); first | refine wk0 ?_ | (refine wg0 ?_ ?_ <;> intro hc)) | fail)
                · have hl := ‹(!Op.bytesLess (s.data.getD (k - 1) []) s.data[k]) = true›
                  go_ret
                  refine ⟨?_, by exact extc⟩
                  rw [mayS_bad hlt (by rw [hbad, hl]; have : 0 < k := by omega
                                       simp [this])]
                  rfl
                · have hl := ‹(!Op.bytesLess (s.data.getD (k - 1) []) s.data[k]) = false›
                  exact ⟨⟨k + 1, by omega, rfl, by exact extc, fun j hj => by
                    rcases Nat.lt_or_ge j k with h | h
                    · exact hall j h
                    · have : j = k := by omega
                      subst this
                      rw [hbad, hl]; simp [‹cr = 0›]⟩, by simp [intOf]; omega⟩
              · exact ⟨⟨k + 1, by omega, rfl, by exact extc, fun j hj => by
                  rcases Nat.lt_or_ge j k with h | h
                  · exact hall j h
                  · have : j = k := by omega
                    subst this
                    have : ¬ (0 < j) := by omega
                    rw [hbad]; simp [‹cr = 0›, this]⟩, by simp [intOf]; omega⟩
            · have e4 : decide (checkR ⟨s.name, s.kind, s.ttl, s.data[k]⟩ = 0) = false := decide_eq_false hc
              generalize checkR ⟨s.name, s.kind, s.ttl, s.data[k]⟩ = cr at hc e4 hbad ⊢
              ((with_reducible refine o_s ?_); (first | (refine o_1 ?_; refine o_2 ?_) | (refine o_g ?_; refine o_u ?_; (with_reducible refine o_s ?_); refine o_1 ?_; refine o_2 ?_)))
              simp only [e4, Bool.not_false]
              repeat' (first | ((with_reducible refine nx0 ?_); go_step) | ((with_reducible refine o_s ?_); first | refine wk0 ?_ | (refine wg0 ?_ ?_ <;> intro hc)) | fail)
              go_ret
              refine ⟨?_, by exact extc⟩
              rw [mayS_bad hlt (by rw [hbad]; simp [hc])]
              rfl
          · have : k = s.data.length := by omega
            subst this
            repeat' (first | ((with_reducible refine nx0 ?_); go_step) | ((with_reducible refine o_s ?_); first | refine wk0 ?_ | (refine wg0 ?_ ?_ <;> intro hc)) | fail)
            go_ret
            refine ⟨?_, by exact extc⟩
            have h20 : decide (s.data.length ≤ 20) = true := decide_eq_true (by omega)
            have h10 : decide (1 ≤ s.data.length) = true := decide_eq_true (by omega)
            have hal : (List.range s.data.length).all (fun i => !badAt s i) = true := by
              rw [List.all_eq_true]
              intro i hi
              simp [hall i (by simpa using hi)]
            have : mayS s = true := by rw [mayS, hal, h20, h10, e1]; rfl
            rw [this]
            rfl
  · have e1 : (decide (fold s.name = s.name)) = false := by simpa using hf
    simp only [e1, Bool.not_false]
    refine tk 6 ?_; refine gset ?_
    refine tsk 7 ?_; refine gset ?_
    refine tsk 8 ?_; refine gset ?_
    refine tsk 9 ?_; refine gset ?_
    refine tsk 10 ?_; refine gset ?_
    refine tk 11 ?_; refine gset ?_; refine tk 12 ?_; refine gset ?_
    refine tsk 13 ?_; refine gset ?_
    refine tsk 14 ?_; refine gset ?_
    refine tsk 15 ?_; refine gset ?_
    refine tsk 16 ?_; refine gset ?_
    refine tk 17 ?_; refine gset ?_
    refine wph_done (by decide +kernel) ?_
    repeat' (first | ((with_reducible refine nx0 ?_); go_step) | ((with_reducible refine o_s ?_); first | refine wk0 ?_ | (refine wg0 ?_ ?_ <;> intro hc)) | fail)
    go_ret
    refine ⟨?_, by exact extc⟩
    simp [mayS, hf]
set_option maxHeartbeats 6000000 in
theorem t24 (v : Value) (l : List (List UInt8)) (w : World) (hv : Sl 1 w v (tcells l)) (hl : l.length ≤ 8796093022208) : Calls Tryz.prog 81 #[v] w (Ret w fun v' w' => Own w.heap.size 1 9 w' v' (tcells l)) := by
  have hlen := tcells_length l
  go_enter Tryz.func81, Tryz.ntmps81
  repeat' (first | ((with_reducible refine nx0 ?_); go_step) | ((with_reducible refine o_s ?_); first | refine wk0 ?_ | (refine wg0 ?_ ?_ <;> intro hc)) | fail)
  · have hn := ‹isNil v = true›
    go_ret
    have : tcells l = [] := hv.isNil hn
    refine ⟨_, rfl, Ext.refl _, ?_⟩
    rw [this]
    exact Own.nil _ _ _ _
  · refine wpl_slice0 (t := 113) (e := 9) (k := 1) (bytes := 16) (by decide +kernel) rfl ?_
    intro v2 w2 x2 s2 o2
    refine gset ?_
    repeat' (first | ((with_reducible refine nx0 ?_); go_step) | ((with_reducible refine o_s ?_); first | refine wk0 ?_ | (refine wg0 ?_ ?_ <;> intro hc)) | fail)
    refine wpl_append (B := w.heap.size) (e := 9) (k := 1) (bytes := 16) (es := []) (fs := tcells l) rfl o2 rfl (hv.ext x2) (by decide +kernel) (by simp [tcells, str, Value.oneCell']) (by omega) (by simp; omega) (by simp; omega) ?_
    intro v3 w3 o3 m3
    have x3 := o2.mvx m3 x2 (Nat.le_refl _)
    repeat' (first | ((with_reducible refine nx0 ?_); go_step) | ((with_reducible refine o_s ?_); first | refine wk0 ?_ | (refine wg0 ?_ ?_ <;> intro hc)) | fail)
    go_ret
    exact ⟨_, rfl, x3, o3⟩
def badSet (l : List RSet) (i : Nat) : Bool := match l[i]? with
  | none => false
  | some s => !mayS s || (decide (0 < i) && decide (0 ≤ cmpSet (l.getD (i - 1) default).name s.name (l.getD (i - 1) default).kind s.kind))
def checkS (l : List RSet) : Int := if 200 < l.length then 1 else if (List.range l.length).all (fun i => !badSet l i) = true then 0 else 1
theorem checkS_bad {l : List RSet} {i : Nat} (hi : i < l.length) (h : badSet l i = true) : checkS l = 1 := by
  have : (List.range l.length).all (fun i => !badSet l i) = false := by
    rw [List.all_eq_false]
    exact ⟨i, by simpa using hi, by simp [h]⟩
  rw [checkS, this]
  split <;> rfl
set_option maxHeartbeats 12000000 in
theorem t12 (v : Value) (l : List RSet) (w : World) (hv : SetsAt w v l) : Calls Tryz.prog 83 #[v] w (RetV w (.int .i64 (checkS l))) := by
  obtain ⟨cv, hv1, hvl⟩ := hv.sl
  have hle := hv1.le
  go_enter Tryz.func83, Tryz.ntmps83
  repeat' (first | ((with_reducible refine nx0 ?_); go_step) | ((with_reducible refine o_s ?_); first | refine wk0 ?_ | (refine wg0 ?_ ?_ <;> intro hc)) | fail)
  · go_ret
    refine ⟨?_, Ext.refl _⟩
    rw [checkS, if_pos (by omega)]
    rfl
  · go_loopw [3, 4, 10] (fun _ _ i wr => ∃ k : Nat, k ≤ l.length ∧ i = .int .i64 k ∧ Ext w wr ∧ ∀ j, j < k → badSet l j = false) (fun _ _ i _ => l.length - (intOf i).toNat)
    case atStart => exact ⟨0, Nat.zero_le _, rfl, Ext.refl _, by omega⟩
    case round =>
      obtain ⟨k, hk, rfl, hx, hall⟩ := hrel
      have hv2 := hv1.ext hx
      by_cases hlt : k < l.length
      · obtain ⟨x, h1, h1d⟩ := (hv.ext hx).elem (List.getElem?_eq_getElem hlt)
        have hbad : badSet l k = (!mayS l[k] || (decide (0 < k) && decide (0 ≤ cmpSet (l.getD (k - 1) default).name l[k].name (l.getD (k - 1) default).kind l[k].kind))) := by
          rw [badSet, List.getElem?_eq_getElem hlt]
        repeat' (first | ((with_reducible refine nx0 ?_); go_step) | ((with_reducible refine o_s ?_); first | refine wk0 ?_ | (refine wg0 ?_ ?_ <;> intro hc)) | fail)
        refine wpl_allocB (z := [str [], .int .i64 0, .int .i64 0, .slice none 0 0]) rfl (by decide +kernel) ?_
        intro w2 x2 s2 h2
        repeat' (first | ((with_reducible refine nx0 ?_); go_step) | ((with_reducible refine o_s ?_); first | refine wk0 ?_ | (refine wg0 ?_ ?_ <;> intro hc)) | fail)
        refine wpl_storeB (v := .agg #[str l[k].name, .int .i64 l[k].kind, .int .i64 l[k].ttl, x]) rfl rfl rfl h2 (show sizeTy Tryz.prog 115 4 = true by decide +kernel) rfl ?_ ?_
        · exact all4 rfl rfl rfl h1d.one
        intro w3 p3
        have x3 : Ext wr w3 := x2.move p3.mv (by rintro k ⟨⟩; exact Nat.le_refl _)
        have hp4 := pts_block (cs := [str l[k].name, .int .i64 l[k].kind, .int .i64 l[k].ttl, x]) p3.this
        clear p3 h2 x2
        repeat' (first | ((with_reducible refine nx0 ?_); go_step) | ((with_reducible refine o_s ?_); first | refine wk0 ?_ | (refine wg0 ?_ ?_ <;> intro hc)) | fail)
        refine wph_region (S := Ext w3) (by decide +kernel) ?_
        intro w4 x4 _
        refine tk 0 ?_; refine gset ?_
        refine wph_one (i := 1) (by decide +kernel) rfl rfl ?_
        refine wpl_callV (enters_of Tryz.func138 rfl rfl) rfl rfl (t23 l[k] _ _ (h1d.ext (x3.trans x4))) ?_; intro w5 x5; refine gset ?_
        refine wph_nil ⟨by exact extc, ?_⟩
        cases hm : mayS l[k] with
        | false =>
          rw [hm] at hbad
          refine tk 2 ?_; refine gset ?_
          try simp only [Bool.not_false]
          refine tk 3 ?_; refine gset ?_
          refine tsk 4 ?_; refine gset ?_; refine tsk 5 ?_; refine gset ?_; refine tsk 6 ?_; refine gset ?_; refine tsk 7 ?_; refine gset ?_; refine tsk 8 ?_; refine gset ?_; refine tsk 9 ?_; refine gset ?_; refine tsk 10 ?_; refine gset ?_; refine tsk 11 ?_; refine gset ?_; refine tsk 12 ?_; refine gset ?_; refine tsk 13 ?_; refine gset ?_; refine tsk 14 ?_; refine gset ?_; refine tsk 15 ?_; refine gset ?_
          refine tk 16 ?_; refine gset ?_
          refine wph_done (by decide +kernel) ?_
          repeat' (first | ((with_reducible refine nx0 ?_); go_step) | ((with_reducible refine o_s ?_); first | refine wk0 ?_ | (refine wg0 ?_ ?_ <;> intro hc)) | fail)
          go_ret
          refine ⟨?_, by exact extc⟩
          rw [checkS_bad hlt (by rw [hbad]; rfl)]
          rfl
        | true =>
          rw [hm] at hbad
          refine tk 2 ?_; refine gset ?_
          try simp only [Bool.not_true]
          refine tk 3 ?_; refine gset ?_; refine tk 4 ?_; refine gset ?_; refine tk 5 ?_; refine gset ?_
          by_cases hk0 : 0 < k
          · have e5 : decide ((0 : Int) < (k : Int)) = true := decide_eq_true (by omega)
            have e6 : decide (0 < k) = true := decide_eq_true hk0
            simp only [e5]
            rw [e6] at hbad
            have hkl : k - 1 < l.length := by omega
            have hgd : l.getD (k - 1) default = l[k - 1] := by simp [hkl]
            obtain ⟨y, h9', h9d⟩ := (hv.ext hx).elem (List.getElem?_eq_getElem hkl)
            have e9 : ((k : Int) - 1).toNat = k - 1 := by omega
            have h9 : Pts wr (elemPtr v (((k : Int) - 1).toNat * 4)) [str l[k - 1].name, .int .i64 l[k - 1].kind, .int .i64 l[k - 1].ttl, y] := by rw [e9]; exact h9'
            rw [hgd] at hbad
            refine tk 6 ?_; refine gset ?_; refine tk 7 ?_; refine gset ?_; refine tk 8 ?_; refine gset ?_; refine tk 9 ?_; refine gset ?_; refine tk 10 ?_; refine gset ?_; refine tk 11 ?_; refine gset ?_; refine tk 12 ?_; refine gset ?_
            refine wph_one (i := 13) (by decide +kernel) rfl rfl ?_
            refine wpl_callV (enters_of Tryz.func129 rfl rfl) rfl rfl (t21 _ _ _ _ _ _ _ _ _) ?_; intro w6 x6; refine gset ?_
            refine wph_nil ⟨by exact extc, ?_⟩
            refine tk 14 ?_; refine gset ?_; refine tk 15 ?_; refine gset ?_; refine tk 16 ?_; refine gset ?_
            refine wph_done (by decide +kernel) ?_
            by_cases hc : 0 ≤ cmpSet l[k - 1].name l[k].name l[k - 1].kind l[k].kind
            · have e7 : decide (0 ≤ cmpSet l[k - 1].name l[k].name l[k - 1].kind l[k].kind) = true := decide_eq_true hc
              simp only [e7]
              repeat' (first | ((with_reducible refine nx0 ?_); go_step) | ((with_reducible refine o_s ?_); first | refine wk0 ?_ | (refine wg0 ?_ ?_ <;> intro hc)) | fail)
              go_ret
              refine ⟨?_, by exact extc⟩
              rw [checkS_bad hlt (by rw [hbad, e7]; rfl)]
              rfl
            · have e7 : decide (0 ≤ cmpSet l[k - 1].name l[k].name l[k - 1].kind l[k].kind) = false := decide_eq_false hc
              simp only [e7]
              repeat' (first | ((with_reducible refine nx0 ?_); go_step) | ((with_reducible refine o_s ?_); first | refine wk0 ?_ | (refine wg0 ?_ ?_ <;> intro hc)) | fail)
              exact ⟨⟨k + 1, by omega, rfl, by exact extc, fun j hj => by
                rcases Nat.lt_or_ge j k with h | h
                · exact hall j h
                · have : j = k := by omega
                  subst this
                  rw [hbad, e7]; rfl⟩, by simp [intOf]; omega⟩
          · have e5 : decide ((0 : Int) < (k : Int)) = false := decide_eq_false (by omega)
            have e6 : decide (0 < k) = false := decide_eq_false hk0
            simp only [e5]
            rw [e6] at hbad
            refine tk 6 ?_; refine gset ?_
            refine tsk 7 ?_; refine gset ?_; refine tsk 8 ?_; refine gset ?_; refine tsk 9 ?_; refine gset ?_; refine tsk 10 ?_; refine gset ?_; refine tsk 11 ?_; refine gset ?_; refine tsk 12 ?_; refine gset ?_; refine tsk 13 ?_; refine gset ?_; refine tsk 14 ?_; refine gset ?_
            refine tk 15 ?_; refine gset ?_; refine tk 16 ?_; refine gset ?_
            refine wph_done (by decide +kernel) ?_
            repeat' (first | ((with_reducible refine nx0 ?_); go_step) | ((with_reducible refine o_s ?_); first | refine wk0 ?_ | (refine wg0 ?_ ?_ <;> intro hc)) | fail)
            exact ⟨⟨k + 1, by omega, rfl, by exact extc, fun j hj => by
              rcases Nat.lt_or_ge j k with h | h
              · exact hall j h
              · have : j = k := by omega
                subst this
                rw [hbad]; rfl⟩, by simp [intOf]; omega⟩
      · have hk2 : k = l.length := by omega
        subst hk2
        repeat' (first | ((with_reducible refine nx0 ?_); go_step) | ((with_reducible refine o_s ?_); first | refine wk0 ?_ | (refine wg0 ?_ ?_ <;> intro hc)) | fail)
        go_ret
        refine ⟨?_, by exact extc⟩
        have : (List.range l.length).all (fun i => !badSet l i) = true := by
          rw [List.all_eq_true]
          intro i hi
          simp [hall i (by simpa using hi)]
        rw [checkS, this, if_neg (by omega)]
        rfl
def hit (n : List UInt8) (k : Int) (s : RSet) : Bool := decide (s.name = n) && decide (s.kind = k)
def findS (l : List RSet) (n : List UInt8) (k : Int) : Option RSet := l.find? (hit (fold n) k)
def zset : List Value := [str [], .int .i64 0, .int .i64 0, .slice none 0 0]
theorem find_take {α : Type} {p : α → Bool} {l : List α} {k : Nat} (h : k < l.length) (ha : (l.take k).find? p = none) (hp : p l[k] = false) : (l.take (k + 1)).find? p = none := by
  rw [List.take_add_one, List.getElem?_eq_getElem h, List.find?_append, ha]
  simp [hp]
theorem find_at {α : Type} {p : α → Bool} {l : List α} {k : Nat} (h : k < l.length) (ha : (l.take k).find? p = none) (hp : p l[k] = true) : l.find? p = some l[k] := by
  have e : l = l.take k ++ (l[k] :: l.drop (k + 1)) := by rw [← List.drop_eq_getElem_cons h, List.take_append_drop]
  have : l.find? p = (l.take k ++ (l[k] :: l.drop (k + 1))).find? p := congrArg _ e
  rw [this, List.find?_append, ha, List.find?_cons, hp]
  rfl
set_option maxHeartbeats 12000000 in
theorem t13 (v : Value) (l : List RSet) (n : List UInt8) (kd : Int) (w : World) (hv : SetsAt w v l) (hb : ∀ s ∈ l, s.data.length ≤ 8796093022208) : Calls Tryz.prog 84 #[v, str n, .int .i64 kd] w (Ret w fun r w' => match findS l n kd with
    | some s => ∃ x, r = .tuple #[.agg #[str s.name, .int .i64 s.kind, .int .i64 s.ttl, x], .bool true] ∧ Own w.heap.size 1 9 w' x (tcells s.data)
    | none => r = .tuple #[.agg zset.toArray, .bool false]) := by
  obtain ⟨cv, hv1, hvl⟩ := hv.sl
  have hle := hv1.le
  go_enter Tryz.func84, Tryz.ntmps84
  repeat' (first | ((with_reducible refine nx0 ?_); go_step) | fail)
  refine wpl_allocB (z := zset) rfl (by decide +kernel) ?_
  intro w1 x1 s1 h1
  repeat' (first | ((with_reducible refine nx0 ?_); go_step) | ((with_reducible refine o_s ?_); first | refine wk0 ?_ | (refine wg0 ?_ ?_ <;> intro hc)) | fail)
  refine wpl_callV (enters_of Tryz.func69 rfl rfl) rfl rfl (t17 _ _) ?_; intro w2 x2; refine gset ?_
  have h2 := x2.at h1
  have x12 : Ext w w2 := x1.trans x2
  repeat' (first | ((with_reducible refine nx0 ?_); go_step) | ((with_reducible refine o_s ?_); first | refine wk0 ?_ | (refine wg0 ?_ ?_ <;> intro hc)) | fail)
  have hv2 := hv1.ext x12
  repeat' (first | ((with_reducible refine nx0 ?_); go_step) | ((with_reducible refine o_s ?_); first | refine wk0 ?_ | (refine wg0 ?_ ?_ <;> intro hc)) | fail)
  go_loopw [9, 14] (fun _ i wr => ∃ k : Nat, k ≤ l.length ∧ i = .int .i64 k ∧ Ext w2 wr ∧ (l.take k).find? (hit (fold n) kd) = none) (fun _ i _ => l.length - (intOf i).toNat)
  case atStart => exact ⟨0, Nat.zero_le _, rfl, Ext.refl _, rfl⟩
  case round =>
    obtain ⟨k, hk, rfl, hx, hall⟩ := hrel
    have hxw : Ext w wr := x12.trans hx
    have hv2 := hv1.ext hxw
    have h3 := hx.at h2
    by_cases hlt : k < l.length
    · obtain ⟨x, h4, h4d⟩ := (hv.ext hxw).elem (List.getElem?_eq_getElem hlt)
      have hbk := hb _ (List.getElem_mem hlt)
      repeat' (first | ((with_reducible refine nx0 ?_); go_step) | ((with_reducible refine o_s ?_); first | refine wk0 ?_ | (refine wg0 ?_ ?_ <;> intro hc)) | fail)
      refine wpl_allocB (z := zset) rfl (by decide +kernel) ?_
      intro w5 x5 s5 h5
      repeat' (first | ((with_reducible refine nx0 ?_); go_step) | ((with_reducible refine o_s ?_); first | refine wk0 ?_ | (refine wg0 ?_ ?_ <;> intro hc)) | fail)
      refine wpl_storeB (v := .agg #[str l[k].name, .int .i64 l[k].kind, .int .i64 l[k].ttl, x]) rfl rfl rfl h5 (show sizeTy Tryz.prog 115 4 = true by decide +kernel) rfl (all4 rfl rfl rfl h4d.one) ?_
      intro w6 p6
      have x6 : Ext wr w6 := x5.move p6.mv (by rintro k ⟨⟩; exact Nat.le_refl _)
      have b6 := p6.this
      have hp6 := pts_block (cs := [str l[k].name, .int .i64 l[k].kind, .int .i64 l[k].ttl, x]) b6
      have z6 : w6.heap.size = wr.heap.size + 1 := p6.size.trans s5
      clear p6 h5 x5
      repeat' (first | ((with_reducible refine nx0 ?_); go_step) | ((with_reducible refine o_s ?_); first | refine wk0 ?_ | (refine wg0 ?_ ?_ <;> intro hc)) | fail)
      · have hh : findS l n kd = some l[k] := find_at hlt hall (by have h1 := ‹l[k].name = fold n›; have h2 := ‹l[k].kind = kd›; simp [hit, h1, h2])
        refine wpl_callR (enters_of Tryz.func81 rfl rfl) rfl rfl (t24 x l[k].data _ (h4d.ext x6) hbk) ?_
        intro y w7 x7 o7
        refine gset ?_
        repeat' (first | ((with_reducible refine nx0 ?_); go_step) | ((with_reducible refine o_s ?_); first | refine wk0 ?_ | (refine wg0 ?_ ?_ <;> intro hc)) | fail)
        have b7 := x7.at b6
        refine wpl_storeF (cs := [str l[k].name, .int .i64 l[k].kind, .int .i64 l[k].ttl, x]) b7 rfl rfl rfl (by simp) (by decide +kernel) o7.one ?_
        intro w8 p8
        have x68 : Ext wr w8 := (x6.trans x7).move p8.mv (by rintro k ⟨⟩; exact Nat.le_refl _)
        have hp8 := pts_block (cs := [str l[k].name, .int .i64 l[k].kind, .int .i64 l[k].ttl, y]) p8.this
        have h8 := x68.at h3
        have o8 : Own (w.heap.size + 1) 1 9 w8 y (tcells l[k].data) := (o7.put p8 (by omega)).weaken (by have := hx.size; have := x2.size; omega)
        clear hp6 b6 b7 p8
        repeat' (first | ((with_reducible refine nx0 ?_); go_step) | ((with_reducible refine o_s ?_); first | refine wk0 ?_ | (refine wg0 ?_ ?_ <;> intro hc)) | fail)
        refine wpl_storeB (v := .agg #[str l[k].name, .int .i64 l[k].kind, .int .i64 l[k].ttl, y]) rfl rfl rfl h8 (show sizeTy Tryz.prog 115 4 = true by decide +kernel) rfl (all4 rfl rfl rfl o7.one) ?_
        intro w9 p9
        have x9 : Ext w w9 := (hxw.trans x68).move p9.mv (by rintro k ⟨⟩; exact Nat.le_refl _)
        have o9 : Own (w.heap.size + 1) 1 9 w9 y (tcells l[k].data) := o8.put p9 (by omega)
        repeat' (first | ((with_reducible refine nx0 ?_); go_step) | ((with_reducible refine o_s ?_); first | refine wk0 ?_ | (refine wg0 ?_ ?_ <;> intro hc)) | fail)
        refine bodyPost_ret (results_cellT (cs := [str l[k].name, .int .i64 l[k].kind, .int .i64 l[k].ttl, y]) rfl rfl p9.this (show aggTy Tryz.prog 115 4 = true by decide +kernel)) rfl ⟨_, rfl, x9, ?_⟩
        rw [hh]
        exact ⟨y, rfl, o9.weaken (by omega)⟩
      · exact ⟨⟨k + 1, by omega, rfl, by exact extc, find_take hlt hall (by have h2 := ‹¬l[k].kind = kd›; simp [hit, h2])⟩, by simp [intOf]; omega⟩
      · exact ⟨⟨k + 1, by omega, rfl, by exact extc, find_take hlt hall (by have h2 := ‹¬l[k].name = fold n›; simp [hit, h2])⟩, by simp [intOf]; omega⟩
    · have hk2 : k = l.length := by omega
      subst hk2
      rw [List.take_length] at hall
      repeat' (first | ((with_reducible refine nx0 ?_); go_step) | ((with_reducible refine o_s ?_); first | refine wk0 ?_ | (refine wg0 ?_ ?_ <;> intro hc)) | fail)
      refine wpl_run rfl (Runs.build0 (cells := zset.toArray) (by kernel_rfl)) ?_
      refine gset ?_
      refine wpl_storeB (v := .agg zset.toArray) rfl rfl rfl h3 (show sizeTy Tryz.prog 115 4 = true by decide +kernel) rfl (all4 rfl rfl rfl rfl) ?_
      intro w4 p4
      have x4 : Ext w w4 := hxw.move p4.mv (by rintro k ⟨⟩; exact Nat.le_refl _)
      repeat' (first | ((with_reducible refine nx0 ?_); go_step) | ((with_reducible refine o_s ?_); first | refine wk0 ?_ | (refine wg0 ?_ ?_ <;> intro hc)) | fail)
      refine bodyPost_ret (results_cellT (cs := zset) rfl rfl p4.this (by decide +kernel)) rfl ⟨_, rfl, x4, ?_⟩
      have hh : findS l n kd = none := hall
      rw [hh]
      rfl
def recOf (s : RSet) (d : List UInt8) : Rec := ⟨s.name, s.kind, s.ttl, d⟩
def recsOf (s : RSet) : List Rec := s.data.map (recOf s)
def recordsS (l : List RSet) : List Rec := (l.map recsOf).flatten
theorem map_take_succ {α β : Type} {f : α → β} {l : List α} {k : Nat} (h : k < l.length) : (l.take (k + 1)).map f = (l.take k).map f ++ [f l[k]] := by
  rw [List.take_add_one, List.getElem?_eq_getElem h, List.map_append]
  simp
theorem flat_take_le {α : Type} (L : List (List α)) (k : Nat) : (L.take k).flatten.length ≤ L.flatten.length := by
  conv => rhs; rw [← List.take_append_drop k L, List.flatten_append]
  simp
def recsP (l : List RSet) (k : Nat) : List Rec := ((l.take k).map recsOf).flatten
theorem recsP_succ {l : List RSet} {k : Nat} (h : k < l.length) : recsP l (k + 1) = recsP l k ++ recsOf l[k] := by
  rw [recsP, map_take_succ h, List.flatten_append]
  simp [recsP]
theorem recsP_le (l : List RSet) (k : Nat) : (recsP l k).length ≤ (recordsS l).length := by
  rw [recsP, recordsS, List.map_take]
  exact flat_take_le _ _
theorem recsP_all (l : List RSet) : recsP l l.length = recordsS l := by rw [recsP, List.take_length, recordsS]
set_option maxHeartbeats 12000000 in
theorem t10 (v : Value) (l : List RSet) (w : World) (hv : SetsAt w v l) (hb : (recordsS l).length ≤ 1000000) : Calls Tryz.prog 71 #[v] w (Ret w fun r w' => Own w.heap.size 4 81 w' r (rcells (recordsS l))) := by
  obtain ⟨cv, hv1, hvl⟩ := hv.sl
  have hle := hv1.le
  go_enter Tryz.func71, Tryz.ntmps71
  repeat' (first | ((with_reducible refine nx0 ?_); go_step) | ((with_reducible refine o_s ?_); first | refine wk0 ?_ | (refine wg0 ?_ ?_ <;> intro hc)) | fail)
  go_loopw [3, 5, 7, 10, 17] (fun o _ _ i _ wr => ∃ k : Nat, k ≤ l.length ∧ i = .int .i64 k ∧ Ext w wr ∧ Own w.heap.size 4 81 wr o (rcells (recsP l k))) (fun _ _ _ i _ _ => l.length - (intOf i).toNat)
  case atStart => exact ⟨0, Nat.zero_le _, rfl, Ext.refl _, Own.nil _ _ _ _⟩
  case round =>
    obtain ⟨k, hk, rfl, hx, ho⟩ := hrel
    have hv2 := hv1.ext hx
    by_cases hlt : k < l.length
    · obtain ⟨x, h4, h4d⟩ := hv.elem (List.getElem?_eq_getElem hlt)
      have hdl := tcells_length l[k].data
      have hdle := h4d.le
      have hlo := hx.size
      repeat' (first | ((with_reducible refine nx0 ?_); go_step) | ((with_reducible refine o_s ?_); first | refine wk0 ?_ | (refine wg0 ?_ ?_ <;> intro hc)) | fail)
      refine wpl_allocB (z := zset) rfl (by decide +kernel) ?_
      intro w5 x5 s5 h5
      repeat' (first | ((with_reducible refine nx0 ?_); go_step) | ((with_reducible refine o_s ?_); first | refine wk0 ?_ | (refine wg0 ?_ ?_ <;> intro hc)) | fail)
      refine wpl_storeB (v := .agg #[str l[k].name, .int .i64 l[k].kind, .int .i64 l[k].ttl, x]) rfl rfl rfl h5 (show sizeTy Tryz.prog 115 4 = true by decide +kernel) rfl (all4 rfl rfl rfl h4d.one) ?_
      intro w6 p6
      have x6 : Ext wr w6 := x5.move p6.mv (by rintro k ⟨⟩; exact Nat.le_refl _)
      have b6 : w6.heap[wr.heap.size]? = some (.cells [str l[k].name, .int .i64 l[k].kind, .int .i64 l[k].ttl, x].toArray 115 (0, 0)) := p6.this
      have z6 : wr.heap.size < w6.heap.size := by have := p6.size; omega
      have o6 := ho.ext x6
      have xw6 := hx.trans x6
      have hne6 : u3.ownBlock ≠ some wr.heap.size := fun e => by have := ho.block _ e; omega
      clear p6 h5 x5 s5
      have hp6 := pts_block b6
      repeat' (first | ((with_reducible refine nx0 ?_); go_step) | ((with_reducible refine o_s ?_); first | refine wk0 ?_ | (refine wg0 ?_ ?_ <;> intro hc)) | fail)
      clear hp6
      generalize wr.heap.size = b at b6 z6 hne6 hlo ⊢
      go_loopw [3, 7, 17] (fun o _ i wq => ∃ j : Nat, j ≤ l[k].data.length ∧ i = .int .i64 j ∧ Ext w wq ∧ b < wq.heap.size ∧ wq.heap[b]? = some (.cells [str l[k].name, .int .i64 l[k].kind, .int .i64 l[k].ttl, x].toArray 115 (0, 0)) ∧ o.ownBlock ≠ some b ∧ Own w.heap.size 4 81 wq o (rcells (recsP l k ++ (l[k].data.take j).map (recOf l[k])))) (fun _ _ i _ => l[k].data.length - (intOf i).toNat)
      case atStart => exact ⟨0, Nat.zero_le _, rfl, xw6, z6, b6, hne6, by simpa using o6⟩
      case round =>
        obtain ⟨j, hj, rfl, hxq, hz, hbq, hne, hoq⟩ := hrel
        have hpq := pts_block hbq
        by_cases hlt2 : j < l[k].data.length
        · have h3 := h4d.elem (tcells_at hlt2)
          have hle1 := recsP_le l (k + 1)
          rw [recsP_succ hlt, List.length_append] at hle1
          have hle2 : (recsOf l[k]).length = l[k].data.length := by simp [recsOf]
          have hcl : (rcells (recsP l k ++ (l[k].data.take j).map (recOf l[k]))).length = (recsP l k).length + j := by simp [rcells]; omega
          repeat' (first | ((with_reducible refine nx0 ?_); go_step) | ((with_reducible refine o_s ?_); first | refine wk0 ?_ | (refine wg0 ?_ ?_ <;> intro hc)) | fail)
          refine wpl_callV (enters_of Tryz.func134 rfl rfl) rfl rfl (t22 l[k] x l[k].data[j] _) ?_; intro w7 x7; refine gset ?_
          repeat' (first | ((with_reducible refine nx0 ?_); go_step) | ((with_reducible refine o_s ?_); first | refine wk0 ?_ | (refine wg0 ?_ ?_ <;> intro hc)) | fail)
          refine wpl_slice (e := 81) (k := 4) (bytes := 48) (xs := [.agg #[str l[k].name, .int .i64 l[k].kind, .int .i64 l[k].ttl, str l[k].data[j]]]) rfl rfl rfl (by simp [Value.cells]) (by decide +kernel) (by simp) ?_
          intro v8 w8 x8 s8 sl8 _
          refine gset ?_
          repeat' (first | ((with_reducible refine nx0 ?_); go_step) | ((with_reducible refine o_s ?_); first | refine wk0 ?_ | (refine wg0 ?_ ?_ <;> intro hc)) | fail)
          refine wpl_appendK (B := w.heap.size) (e := 81) (k := 4) (bytes := 48) rfl (hoq.ext (x7.trans x8)) rfl sl8 (by decide +kernel) (by simp [Value.cells, str, Value.oneCell']) (by have := hxq.size; have := x7.size; omega) (by rw [hcl]; simp; omega) (by rw [hcl]; simp; omega) ?_
          intro v9 w9 o9 m9 k9
          have hb8 := (x7.trans x8).at hbq
          have hb9 := m9.at hb8 (fun e => hne e.symm)
          have x9 : Ext w w9 := (hoq.ext (x7.trans x8)).mvx m9 (hxq.trans (x7.trans x8)) (Nat.le_refl _)
          repeat' (first | ((with_reducible refine nx0 ?_); go_step) | ((with_reducible refine o_s ?_); first | refine wk0 ?_ | (refine wg0 ?_ ?_ <;> intro hc)) | fail)
          refine ⟨⟨j + 1, by omega, rfl, x9, ?_, hb9, ?_, ?_⟩, by simp [intOf]; omega⟩
          · have := x7.size; have := x8.size; have := m9.size; omega
          · rcases k9 with h | h
            · rw [h]; exact hne
            · rw [h]; intro e; have := Option.some.inj e; have := x7.size; omega
          · rw [map_take_succ hlt2, ← List.append_assoc]
            simpa [rcells, recOf, Rec.cells, Value.cells] using o9
        · have hj2 : j = l[k].data.length := by omega
          subst hj2
          repeat' (first | ((with_reducible refine nx0 ?_); go_step) | ((with_reducible refine o_s ?_); first | refine wk0 ?_ | (refine wg0 ?_ ?_ <;> intro hc)) | fail)
          exact ⟨⟨k + 1, by omega, rfl, hxq, by rw [recsP_succ hlt]; rw [List.take_length] at hoq; exact hoq⟩, by simp [intOf]; omega⟩
    · have hk2 : k = l.length := by omega
      subst hk2
      repeat' (first | ((with_reducible refine nx0 ?_); go_step) | ((with_reducible refine o_s ?_); first | refine wk0 ?_ | (refine wg0 ?_ ?_ <;> intro hc)) | fail)
      go_ret
      refine ⟨_, rfl, hx, ?_⟩
      rw [recsP_all] at ho
      exact ho
end Go.Proofs.X
