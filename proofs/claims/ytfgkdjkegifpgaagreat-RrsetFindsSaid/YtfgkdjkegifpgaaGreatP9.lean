/- Laws and walks that the proof of the statement is made of (part 9). -/
import Derived.Test.YtfgkdjkegifpgaaGreatProg
import Derived.Test.YtfgkdjkegifpgaaGreatRows
import Derived.Test.YtfgkdjkegifpgaaGreatP4
import Derived.Test.YtfgkdjkegifpgaaGreatP6
import Derived.Test.YtfgkdjkegifpgaaGreatP8
set_option linter.unusedSimpArgs false
set_option linter.unusedVariables false
namespace Go.Proofs.X
open Go.RowKit
set_option maxRecDepth 100000
def sval (s : RSet) (v : Value) : Value := .agg #[str s.name, .int .i64 s.kind, .int .i64 s.ttl, v]
def aheadS (a b : RSet) : Bool := decide (cmpN a.name b.name < 0) || (decide (cmpN a.name b.name = 0) && decide (a.kind < b.kind))
set_option maxHeartbeats 1000000 in
/-- lodestarref07.ahead -/
theorem r7_ahead (a b : RSet) (u v : Value) (w : World) : Calls Tryz.prog 60 #[.agg #[str a.name, .int .i64 a.kind, .int .i64 a.ttl, u], .agg #[str b.name, .int .i64 b.kind, .int .i64 b.ttl, v]] w (RetV w (.bool (aheadS a b))) := by
  go_enter Tryz.func60, Tryz.ntmps60
  repeat' ((fail_if_success (with_reducible refine o_s ?_)); go_step)
  refine wpl_box (vs := [str a.name, .int .i64 a.kind, .int .i64 a.ttl, u]) rfl rfl ?_
  intro p w1 x1 hp
  refine gset ?_
  refine wpl_box (vs := [str b.name, .int .i64 b.kind, .int .i64 b.ttl, v]) rfl rfl ?_
  intro q w2 x2 hq
  refine gset ?_
  have hp := hp.ext x2
  repeat' (first | ((with_reducible refine o_s ?_); (first | (refine o_1 ?_; refine o_2 ?_) | (refine o_g ?_; first | refine o_u ?_ | refine o_k ?_ | refine o_n ?_ | refine o_v ?_ | ((first | refine o_G ?_ ?_ | refine o_N ?_ ?_) <;> intro hc)))) | ((fail_if_success (with_reducible refine o_s ?_)); go_step))
  refine wpl_callV (enters_of Tryz.func94 rfl rfl) rfl rfl (r1_Compare a.name b.name _) ?_; intro w3 x3; refine gset ?_
  have hp := hp.ext x3
  have hq := hq.ext x3
  have x := (x1.trans x2).trans x3
  repeat' (first | ((with_reducible refine o_s ?_); (first | (refine o_1 ?_; refine o_2 ?_) | (refine o_g ?_; first | refine o_u ?_ | refine o_k ?_ | refine o_n ?_ | refine o_v ?_ | ((first | refine o_G ?_ ?_ | refine o_N ?_ ?_) <;> intro hc)))) | ((fail_if_success (with_reducible refine o_s ?_)); go_step))
  · have c1 := ‹¬cmpN a.name b.name < 0›
    have c2 := ‹cmpN a.name b.name = 0›
    go_ret
    exact ⟨by simp [aheadS, c2], x⟩
  · have c1 := ‹¬cmpN a.name b.name < 0›
    have c2 := ‹¬cmpN a.name b.name = 0›
    go_ret
    exact ⟨by rw [aheadS, decide_eq_false c1, decide_eq_false c2]; rfl, x⟩
  · have c1 := ‹cmpN a.name b.name < 0›
    go_ret
    exact ⟨by rw [aheadS, decide_eq_true c1]; rfl, x⟩
set_option maxHeartbeats 1000000 in
/-- lodestarref07.May -/
theorem r7_May (s : RSet) (v : Value) (w : World) (hv : Sl 1 w v (tcells s.data)) (hd : ∀ d ∈ s.data, d.length ≤ 4611686018427387904) : Calls Tryz.prog 59 #[.agg #[str s.name, .int .i64 s.kind, .int .i64 s.ttl, v]] w (RetV w (.bool (mayS s))) := by
  have hlen := tcells_length s.data
  have hle := hv.le
  go_enter Tryz.func59, Tryz.ntmps59
  repeat' ((fail_if_success (with_reducible refine o_s ?_)); go_step)
  refine wpl_box (vs := [str s.name, .int .i64 s.kind, .int .i64 s.ttl, v]) rfl rfl ?_
  intro p w1 x1 hp
  refine gset ?_
  have hv1 := hv.ext x1
  repeat' (first | ((with_reducible refine o_s ?_); (first | (refine o_1 ?_; refine o_2 ?_) | (refine o_g ?_; first | refine o_u ?_ | refine o_k ?_ | refine o_n ?_ | refine o_v ?_ | ((first | refine o_G ?_ ?_ | refine o_N ?_ ?_) <;> intro hc)))) | ((fail_if_success (with_reducible refine o_s ?_)); go_step))
  cases hb : decide (fold s.name = s.name) with
  | false =>
    have hno : mayS s = false := by simp [mayS, hb]
    refine wpq_region (by decide +kernel) (by decide +kernel) ?_
    repeat' (first | ((with_reducible refine q_s ?_); (first | (refine q_1 ?_; refine q_2 ?_) | (refine q_g ?_; first | refine q_u ?_ | refine q_k ?_ | refine q_v ?_))) | (with_reducible refine q_n ?_))
    refine wpq_call (enters_of Tryz.func54 rfl rfl) rfl rfl (fun w' _ => r1_Fold s.name w') ?_
    refine gset ?_
    repeat' (first | ((with_reducible refine q_s ?_); (first | (refine q_1 ?_; refine q_2 ?_) | (refine q_g ?_; first | refine q_u ?_ | refine q_k ?_ | refine q_v ?_))) | (with_reducible refine q_n ?_))
    simp only [hb, Bool.not_true, Bool.not_false]
    repeat' (first | ((with_reducible refine q_s ?_); (first | (refine q_1 ?_; refine q_2 ?_) | (refine q_g ?_; first | refine q_u ?_ | refine q_k ?_ | refine q_v ?_))) | (with_reducible refine q_n ?_))
    intro w2 x2
    repeat' (first | ((with_reducible refine o_s ?_); (first | (refine o_1 ?_; refine o_2 ?_) | (refine o_g ?_; first | refine o_u ?_ | refine o_k ?_ | refine o_n ?_ | refine o_v ?_ | ((first | refine o_G ?_ ?_ | refine o_N ?_ ?_) <;> intro hc)))) | ((fail_if_success (with_reducible refine o_s ?_)); go_step))
    go_ret
    exact ⟨by rw [hno]; rfl, x1.trans x2⟩
  | true =>
    have hfo : fold s.name = s.name := by simpa using hb
    refine wpq_region (by decide +kernel) (by decide +kernel) ?_
    repeat' (first | ((with_reducible refine q_s ?_); (first | (refine q_1 ?_; refine q_2 ?_) | (refine q_g ?_; first | refine q_u ?_ | refine q_k ?_ | refine q_v ?_))) | (with_reducible refine q_n ?_))
    refine wpq_call (enters_of Tryz.func54 rfl rfl) rfl rfl (fun w' _ => r1_Fold s.name w') ?_
    refine gset ?_
    repeat' (first | ((with_reducible refine q_s ?_); (first | (refine q_1 ?_; refine q_2 ?_) | (refine q_g ?_; first | refine q_u ?_ | refine q_k ?_ | refine q_v ?_))) | (with_reducible refine q_n ?_))
    simp only [hb, Bool.not_true, Bool.not_false]
    repeat' (first | ((with_reducible refine q_s ?_); (first | (refine q_1 ?_; refine q_2 ?_) | (refine q_g ?_; first | refine q_u ?_ | refine q_k ?_ | refine q_v ?_))) | (with_reducible refine q_n ?_))
    cases hb1 : decide (((tcells s.data).length : Int) < 1) with
    | true =>
      have hno : mayS s = false := by simp at hb1; simp [mayS]; intro _ h; omega
      repeat' (first | ((with_reducible refine q_s ?_); (first | (refine q_1 ?_; refine q_2 ?_) | (refine q_g ?_; first | refine q_u ?_ | refine q_k ?_ | refine q_v ?_))) | (with_reducible refine q_n ?_))
      intro w2 x2
      repeat' (first | ((with_reducible refine o_s ?_); (first | (refine o_1 ?_; refine o_2 ?_) | (refine o_g ?_; first | refine o_u ?_ | refine o_k ?_ | refine o_n ?_ | refine o_v ?_ | ((first | refine o_G ?_ ?_ | refine o_N ?_ ?_) <;> intro hc)))) | ((fail_if_success (with_reducible refine o_s ?_)); go_step))
      go_ret
      exact ⟨by rw [hno]; rfl, x1.trans x2⟩
    | false =>
      repeat' (first | ((with_reducible refine q_s ?_); (first | (refine q_1 ?_; refine q_2 ?_) | (refine q_g ?_; first | refine q_u ?_ | refine q_k ?_ | refine q_v ?_))) | (with_reducible refine q_n ?_))
      cases hb2 : decide ((20 : Int) < ((tcells s.data).length : Int)) with
      | true =>
        have hno : mayS s = false := by simp at hb2; simp [mayS]; intro _ _ h; omega
        repeat' (first | ((with_reducible refine q_s ?_); (first | (refine q_1 ?_; refine q_2 ?_) | (refine q_g ?_; first | refine q_u ?_ | refine q_k ?_ | refine q_v ?_))) | (with_reducible refine q_n ?_))
        intro w2 x2
        repeat' (first | ((with_reducible refine o_s ?_); (first | (refine o_1 ?_; refine o_2 ?_) | (refine o_g ?_; first | refine o_u ?_ | refine o_k ?_ | refine o_n ?_ | refine o_v ?_ | ((first | refine o_G ?_ ?_ | refine o_N ?_ ?_) <;> intro hc)))) | ((fail_if_success (with_reducible refine o_s ?_)); go_step))
        go_ret
        exact ⟨by rw [hno]; rfl, x1.trans x2⟩
      | false =>
        repeat' (first | ((with_reducible refine q_s ?_); (first | (refine q_1 ?_; refine q_2 ?_) | (refine q_g ?_; first | refine q_u ?_ | refine q_k ?_ | refine q_v ?_))) | (with_reducible refine q_n ?_))
        intro w2 x2
        have hl1 : 1 ≤ s.data.length := by simp at hb1; omega
        have hl2 : s.data.length ≤ 20 := by simp at hb2; omega
        have hp := hp.ext x2
        have hv2 := hv1.ext x2
        have x12 := x1.trans x2
        clear x1 x2 hv1
        repeat' (first | ((with_reducible refine o_s ?_); (first | (refine o_1 ?_; refine o_2 ?_) | (refine o_g ?_; first | refine o_u ?_ | refine o_k ?_ | refine o_n ?_ | refine o_v ?_ | ((first | refine o_G ?_ ?_ | refine o_N ?_ ?_) <;> intro hc)))) | ((fail_if_success (with_reducible refine o_s ?_)); go_step))
        go_loopw [3] (fun i wr => ∃ k : Nat, k ≤ s.data.length ∧ i = .int .i64 k ∧ Ext w2 wr ∧ ∀ j, j < k → badAt s j = false) (fun i _ => s.data.length - (intOf i).toNat)
        case atStart => exact ⟨0, Nat.zero_le _, rfl, Ext.refl _, by omega⟩
        case round =>
          obtain ⟨k, hk, rfl, hx, hall⟩ := hrel
          have hp := hp.ext hx
          have hv3 := hv2.ext hx
          by_cases hlt : k < s.data.length
          · have hq := hv3.elem (tcells_at hlt)
            have hdk := hd _ (List.getElem_mem hlt)
            have hbad : badAt s k = (decide (checkR ⟨s.name, s.kind, s.ttl, s.data[k]⟩ ≠ 0) || (decide (0 < k) && !Op.bytesLess (s.data.getD (k - 1) []) s.data[k])) := by
              rw [badAt, show s.data.getD k [] = s.data[k] by simp [hlt]]
            have hck : ∀ w', Calls Tryz.prog 51 #[.agg #[str s.name, .int .i64 s.kind, .int .i64 s.ttl, str s.data[k]]] w' (RetV w' (.int .i64 (checkR ⟨s.name, s.kind, s.ttl, s.data[k]⟩))) := fun w' => r3_Check ⟨s.name, s.kind, s.ttl, s.data[k]⟩ w' hdk
            repeat' (first | ((with_reducible refine o_s ?_); (first | (refine o_1 ?_; refine o_2 ?_) | (refine o_g ?_; first | refine o_u ?_ | refine o_k ?_ | refine o_n ?_ | refine o_v ?_ | ((first | refine o_G ?_ ?_ | refine o_N ?_ ?_) <;> intro hc)))) | ((fail_if_success (with_reducible refine o_s ?_)); go_step))
            refine wpq_region (by decide +kernel) (by decide +kernel) ?_
            repeat' (first | ((with_reducible refine q_s ?_); (first | (refine q_1 ?_; refine q_2 ?_) | (refine q_g ?_; first | refine q_u ?_ | refine q_k ?_ | refine q_v ?_))) | (with_reducible refine q_n ?_))
            refine wpq_run (v := .agg #[str s.name, .int .i64 s.kind, .int .i64 s.ttl, str s.data[k]]) rfl (fun w' _ => Runs.build rfl (by kernel_rfl)) ?_
            refine gset ?_
            repeat' (first | ((with_reducible refine q_s ?_); (first | (refine q_1 ?_; refine q_2 ?_) | (refine q_g ?_; first | refine q_u ?_ | refine q_k ?_ | refine q_v ?_))) | (with_reducible refine q_n ?_))
            refine wpq_call (enters_of Tryz.func51 rfl rfl) rfl rfl (fun w' _ => hck w') ?_
            refine gset ?_
            repeat' (first | ((with_reducible refine q_s ?_); (first | (refine q_1 ?_; refine q_2 ?_) | (refine q_g ?_; first | refine q_u ?_ | refine q_k ?_ | refine q_v ?_))) | (with_reducible refine q_n ?_))
            cases hc : decide (checkR ⟨s.name, s.kind, s.ttl, s.data[k]⟩ = 0) with
            | false =>
              have hno : mayS s = false := mayS_bad hlt (by rw [hbad]; simp at hc; simp [hc])
              simp only [Bool.not_false]
              repeat' (first | ((with_reducible refine q_s ?_); (first | (refine q_1 ?_; refine q_2 ?_) | (refine q_g ?_; first | refine q_u ?_ | refine q_k ?_ | refine q_v ?_))) | (with_reducible refine q_n ?_))
              intro w3 x3
              repeat' (first | ((with_reducible refine o_s ?_); (first | (refine o_1 ?_; refine o_2 ?_) | (refine o_g ?_; first | refine o_u ?_ | refine o_k ?_ | refine o_n ?_ | refine o_v ?_ | ((first | refine o_G ?_ ?_ | refine o_N ?_ ?_) <;> intro hc)))) | ((fail_if_success (with_reducible refine o_s ?_)); go_step))
              go_ret
              exact ⟨by rw [hno]; rfl, x12.trans (hx.trans x3)⟩
            | true =>
              have hc0 : checkR ⟨s.name, s.kind, s.ttl, s.data[k]⟩ = 0 := by simpa using hc
              simp only [Bool.not_true]
              repeat' (first | ((with_reducible refine q_s ?_); (first | (refine q_1 ?_; refine q_2 ?_) | (refine q_g ?_; first | refine q_u ?_ | refine q_k ?_ | refine q_v ?_))) | (with_reducible refine q_n ?_))
              by_cases hk0 : k = 0
              · have hb0 : badAt s k = false := by rw [hbad, hc0]; simp [hk0]
                rw [show decide ((0 : Int) < (k : Int)) = false by simp [hk0]]
                repeat' (first | ((with_reducible refine q_s ?_); (first | (refine q_1 ?_; refine q_2 ?_) | (refine q_g ?_; first | refine q_u ?_ | refine q_k ?_ | refine q_v ?_))) | (with_reducible refine q_n ?_))
                intro w3 x3
                repeat' (first | ((with_reducible refine o_s ?_); (first | (refine o_1 ?_; refine o_2 ?_) | (refine o_g ?_; first | refine o_u ?_ | refine o_k ?_ | refine o_n ?_ | refine o_v ?_ | ((first | refine o_G ?_ ?_ | refine o_N ?_ ?_) <;> intro hc)))) | ((fail_if_success (with_reducible refine o_s ?_)); go_step))
                exact ⟨⟨k + 1, by omega, by go_num, hx.trans x3, fun j hj => by
                  rcases Nat.lt_succ_iff_lt_or_eq.1 hj with h | rfl
                  · exact hall j h
                  · exact hb0⟩, by simp [intOf]; omega⟩
              · rw [show decide ((0 : Int) < (k : Int)) = true by simp; omega]
                have hq2 : Pts wr (elemPtr v (((k : Int) - 1).toNat * 1)) [str (s.data.getD (k - 1) [])] := by
                  have := hv3.elem (i := k - 1) (e := [str (s.data.getD (k - 1) [])]) (by rw [tcells_at (show k - 1 < s.data.length by omega)]; simp [show k - 1 < s.data.length by omega])
                  rwa [show ((k : Int) - 1).toNat = k - 1 by omega]
                repeat' (first | ((with_reducible refine q_s ?_); (first | (refine q_1 ?_; refine q_2 ?_) | (refine q_g ?_; first | refine q_u ?_ | refine q_k ?_ | refine q_v ?_))) | (with_reducible refine q_n ?_))
                have hb0 : badAt s k = !Op.bytesLess (s.data.getD (k - 1) []) s.data[k] := by rw [hbad, hc0]; simp; omega
                intro w3 x3
                cases hbl : Op.bytesLess (s.data.getD (k - 1) []) s.data[k] with
                | false =>
                  have hno : mayS s = false := mayS_bad hlt (by rw [hb0, hbl]; rfl)
                  repeat' (first | ((with_reducible refine o_s ?_); (first | (refine o_1 ?_; refine o_2 ?_) | (refine o_g ?_; first | refine o_u ?_ | refine o_k ?_ | refine o_n ?_ | refine o_v ?_ | ((first | refine o_G ?_ ?_ | refine o_N ?_ ?_) <;> intro hc)))) | ((fail_if_success (with_reducible refine o_s ?_)); go_step))
                  go_ret
                  exact ⟨by rw [hno]; rfl, x12.trans (hx.trans x3)⟩
                | true =>
                  have hb1 : badAt s k = false := by rw [hb0, hbl]; rfl
                  repeat' (first | ((with_reducible refine o_s ?_); (first | (refine o_1 ?_; refine o_2 ?_) | (refine o_g ?_; first | refine o_u ?_ | refine o_k ?_ | refine o_n ?_ | refine o_v ?_ | ((first | refine o_G ?_ ?_ | refine o_N ?_ ?_) <;> intro hc)))) | ((fail_if_success (with_reducible refine o_s ?_)); go_step))
                  exact ⟨⟨k + 1, by omega, rfl, hx.trans x3, fun j hj => by
                    rcases Nat.lt_succ_iff_lt_or_eq.1 hj with h | rfl
                    · exact hall j h
                    · exact hb1⟩, by simp [intOf]; omega⟩
          · have : k = s.data.length := by omega
            subst this
            have hyes : mayS s = true := by
              simp only [mayS, hb, decide_eq_true hl1, decide_eq_true hl2, Bool.true_and, List.all_eq_true, List.mem_range, Bool.not_eq_true']
              exact hall
            repeat' (first | ((with_reducible refine o_s ?_); (first | (refine o_1 ?_; refine o_2 ?_) | (refine o_g ?_; first | refine o_u ?_ | refine o_k ?_ | refine o_n ?_ | refine o_v ?_ | ((first | refine o_G ?_ ?_ | refine o_N ?_ ?_) <;> intro hc)))) | ((fail_if_success (with_reducible refine o_s ?_)); go_step))
            go_ret
            exact ⟨by rw [hyes]; rfl, x12.trans hx⟩

end Go.Proofs.X
set_option linter.unusedSimpArgs false
set_option linter.unusedVariables false
namespace Go.Proofs.X
open Go.RowKit
set_option maxRecDepth 100000
theorem ahead_cmp (a b : RSet) : aheadS a b = decide (cmpSet a.name b.name a.kind b.kind < 0) := by
  unfold aheadS cmpSet cmpI
  by_cases h1 : cmpN a.name b.name < 0
  · rw [if_pos (by omega)]; simp [h1]
  · by_cases h2 : cmpN a.name b.name = 0
    · simp [h2]
      by_cases h3 : a.kind < b.kind
      · simp [h3]
      · simp [h3]; split <;> omega
    · rw [if_pos h2]; simp [h1, h2]
set_option maxHeartbeats 1000000 in
/-- lodestarref07.Check -/
theorem r7_Check (v : Value) (l : List RSet) (w : World) (hv : SetsAt w v l) (hd : ∀ s ∈ l, ∀ d ∈ s.data, d.length ≤ 4611686018427387904) : Calls Tryz.prog 25 #[v] w (RetV w (.int .i64 (checkS l))) := by
  obtain ⟨cv, hv1, hvl⟩ := hv.sl
  have hle := hv1.le
  go_enter Tryz.func25, Tryz.ntmps25
  repeat' (first | ((with_reducible refine o_s ?_); (first | (refine o_1 ?_; refine o_2 ?_) | (refine o_g ?_; first | refine o_u ?_ | refine o_k ?_ | refine o_n ?_ | refine o_v ?_ | ((first | refine o_G ?_ ?_ | refine o_N ?_ ?_) <;> intro hc)))) | ((fail_if_success (with_reducible refine o_s ?_)); go_step))
  · go_ret
    refine ⟨?_, Ext.refl _⟩
    rw [checkS, if_pos (by omega)]
    rfl
  go_loopw [3] (fun i wr => ∃ k : Nat, k ≤ l.length ∧ i = .int .i64 k ∧ Ext w wr ∧ ∀ j, j < k → badSet l j = false) (fun i _ => l.length - (intOf i).toNat)
  case atStart => exact ⟨0, Nat.zero_le _, rfl, Ext.refl _, by omega⟩
  case round =>
    obtain ⟨k, hk, rfl, hx, hall⟩ := hrel
    have hv2 := hv1.ext hx
    by_cases hlt : k < l.length
    · obtain ⟨x, h1, h1d⟩ := (hv.ext hx).elem (List.getElem?_eq_getElem hlt)
      have hdk := hd _ (List.getElem_mem hlt)
      have hbad : badSet l k = (!mayS l[k] || (decide (0 < k) && !aheadS (l.getD (k - 1) default) l[k])) := by
        rw [badSet, List.getElem?_eq_getElem hlt, ahead_cmp]
        simp only []
        congr 2
        by_cases h : cmpSet (l.getD (k - 1) default).name l[k].name (l.getD (k - 1) default).kind l[k].kind < 0
        · rw [decide_eq_true h, decide_eq_false (by omega)]; rfl
        · rw [decide_eq_false h, decide_eq_true (by omega)]; rfl
      have hck : ∀ w', Ext wr w' → Calls Tryz.prog 59 #[.agg #[str l[k].name, .int .i64 l[k].kind, .int .i64 l[k].ttl, x]] w' (RetV w' (.bool (mayS l[k]))) := fun w' x' => r7_May l[k] x w' (h1d.ext x') hdk
      repeat' (first | ((with_reducible refine o_s ?_); (first | (refine o_1 ?_; refine o_2 ?_) | (refine o_g ?_; first | refine o_u ?_ | refine o_k ?_ | refine o_n ?_ | refine o_v ?_ | ((first | refine o_G ?_ ?_ | refine o_N ?_ ?_) <;> intro hc)))) | ((fail_if_success (with_reducible refine o_s ?_)); go_step))
      refine wpq_region (by decide +kernel) (by decide +kernel) ?_
      repeat' (first | ((with_reducible refine q_s ?_); (first | (refine q_1 ?_; refine q_2 ?_) | (refine q_g ?_; first | refine q_u ?_ | refine q_k ?_ | refine q_v ?_))) | (with_reducible refine q_n ?_))
      refine wpq_call (enters_of Tryz.func59 rfl rfl) rfl rfl (fun w' x' => hck w' x') ?_
      refine gset ?_
      repeat' (first | ((with_reducible refine q_s ?_); (first | (refine q_1 ?_; refine q_2 ?_) | (refine q_g ?_; first | refine q_u ?_ | refine q_k ?_ | refine q_v ?_))) | (with_reducible refine q_n ?_))
      cases hm : mayS l[k] with
      | false =>
        have hno : checkS l = 1 := checkS_bad hlt (by rw [hbad, hm]; rfl)
        simp only [Bool.not_false]
        repeat' (first | ((with_reducible refine q_s ?_); (first | (refine q_1 ?_; refine q_2 ?_) | (refine q_g ?_; first | refine q_u ?_ | refine q_k ?_ | refine q_v ?_))) | (with_reducible refine q_n ?_))
        intro w3 x3
        repeat' (first | ((with_reducible refine o_s ?_); (first | (refine o_1 ?_; refine o_2 ?_) | (refine o_g ?_; first | refine o_u ?_ | refine o_k ?_ | refine o_n ?_ | refine o_v ?_ | ((first | refine o_G ?_ ?_ | refine o_N ?_ ?_) <;> intro hc)))) | ((fail_if_success (with_reducible refine o_s ?_)); go_step))
        go_ret
        exact ⟨by rw [hno]; rfl, hx.trans x3⟩
      | true =>
        simp only [Bool.not_true]
        repeat' (first | ((with_reducible refine q_s ?_); (first | (refine q_1 ?_; refine q_2 ?_) | (refine q_g ?_; first | refine q_u ?_ | refine q_k ?_ | refine q_v ?_))) | (with_reducible refine q_n ?_))
        by_cases hk0 : k = 0
        · have hb0 : badSet l k = false := by rw [hbad, hm]; simp [hk0]
          rw [show decide ((0 : Int) < (k : Int)) = false by simp [hk0]]
          repeat' (first | ((with_reducible refine q_s ?_); (first | (refine q_1 ?_; refine q_2 ?_) | (refine q_g ?_; first | refine q_u ?_ | refine q_k ?_ | refine q_v ?_))) | (with_reducible refine q_n ?_))
          intro w3 x3
          repeat' (first | ((with_reducible refine o_s ?_); (first | (refine o_1 ?_; refine o_2 ?_) | (refine o_g ?_; first | refine o_u ?_ | refine o_k ?_ | refine o_n ?_ | refine o_v ?_ | ((first | refine o_G ?_ ?_ | refine o_N ?_ ?_) <;> intro hc)))) | ((fail_if_success (with_reducible refine o_s ?_)); go_step))
          exact ⟨⟨k + 1, by omega, by go_num, hx.trans x3, fun j hj => by
            rcases Nat.lt_succ_iff_lt_or_eq.1 hj with h | rfl
            · exact hall j h
            · exact hb0⟩, by simp [intOf]; omega⟩
        · rw [show decide ((0 : Int) < (k : Int)) = true by simp; omega]
          have hlp : k - 1 < l.length := by omega
          obtain ⟨y, h2, h2d⟩ := (hv.ext hx).elem (List.getElem?_eq_getElem hlp)
          have h2 : Pts wr (elemPtr v (((k : Int) - 1).toNat * 4)) [str l[k - 1].name, .int .i64 l[k - 1].kind, .int .i64 l[k - 1].ttl, y] := by
            rwa [show ((k : Int) - 1).toNat = k - 1 by omega]
          have hpr : l.getD (k - 1) default = l[k - 1] := by simp [hlp]
          have hah : ∀ w', Calls Tryz.prog 60 #[.agg #[str l[k - 1].name, .int .i64 l[k - 1].kind, .int .i64 l[k - 1].ttl, y], .agg #[str l[k].name, .int .i64 l[k].kind, .int .i64 l[k].ttl, x]] w' (RetV w' (.bool (aheadS l[k - 1] l[k]))) := fun w' => r7_ahead l[k - 1] l[k] y x w'
          repeat' (first | ((with_reducible refine q_s ?_); (first | (refine q_1 ?_; refine q_2 ?_) | (refine q_g ?_; first | refine q_u ?_ | refine q_k ?_ | refine q_v ?_))) | (with_reducible refine q_n ?_))
          refine wpq_call (enters_of Tryz.func60 rfl rfl) rfl rfl (fun w' x' => hah w') ?_
          refine gset ?_
          repeat' (first | ((with_reducible refine q_s ?_); (first | (refine q_1 ?_; refine q_2 ?_) | (refine q_g ?_; first | refine q_u ?_ | refine q_k ?_ | refine q_v ?_))) | (with_reducible refine q_n ?_))
          intro w3 x3
          cases ha : aheadS l[k - 1] l[k] with
          | false =>
            have hno : checkS l = 1 := checkS_bad hlt (by rw [hbad, hm, hpr, ha]; simp; omega)
            repeat' (first | ((with_reducible refine o_s ?_); (first | (refine o_1 ?_; refine o_2 ?_) | (refine o_g ?_; first | refine o_u ?_ | refine o_k ?_ | refine o_n ?_ | refine o_v ?_ | ((first | refine o_G ?_ ?_ | refine o_N ?_ ?_) <;> intro hc)))) | ((fail_if_success (with_reducible refine o_s ?_)); go_step))
            go_ret
            exact ⟨by rw [hno]; rfl, hx.trans x3⟩
          | true =>
            have hb0 : badSet l k = false := by rw [hbad, hm, hpr, ha]; simp
            repeat' (first | ((with_reducible refine o_s ?_); (first | (refine o_1 ?_; refine o_2 ?_) | (refine o_g ?_; first | refine o_u ?_ | refine o_k ?_ | refine o_n ?_ | refine o_v ?_ | ((first | refine o_G ?_ ?_ | refine o_N ?_ ?_) <;> intro hc)))) | ((fail_if_success (with_reducible refine o_s ?_)); go_step))
            exact ⟨⟨k + 1, by omega, by go_num, hx.trans x3, fun j hj => by
              rcases Nat.lt_succ_iff_lt_or_eq.1 hj with h | rfl
              · exact hall j h
              · exact hb0⟩, by simp [intOf]; omega⟩
    · have : k = l.length := by omega
      subst this
      have hyes : checkS l = 0 := by
        rw [checkS, if_neg (by omega), if_pos]
        simp only [List.all_eq_true, List.mem_range, Bool.not_eq_true']
        exact hall
      repeat' (first | ((with_reducible refine o_s ?_); (first | (refine o_1 ?_; refine o_2 ?_) | (refine o_g ?_; first | refine o_u ?_ | refine o_k ?_ | refine o_n ?_ | refine o_v ?_ | ((first | refine o_G ?_ ?_ | refine o_N ?_ ?_) <;> intro hc)))) | ((fail_if_success (with_reducible refine o_s ?_)); go_step))
      go_ret
      exact ⟨by rw [hyes]; rfl, hx⟩

theorem Own.nilE {B k e : Nat} {w : World} : Own B k e w (.slice none 0 0) [] := Own.nil _ _ _ _
set_option maxHeartbeats 1000000 in
/-- lodestarref07.Copy -/
theorem r7_Copy (s : RSet) (v : Value) (w : World) (hv : Sl 1 w v (tcells s.data)) (hb : s.data.length ≤ 1000000) : Calls Tryz.prog 55 #[.agg #[str s.name, .int .i64 s.kind, .int .i64 s.ttl, v]] w (Ret w fun r w' => ∃ x, r = .agg #[str s.name, .int .i64 s.kind, .int .i64 s.ttl, x] ∧ Own w.heap.size 1 9 w' x (tcells s.data)) := by
  go_enter Tryz.func55, Tryz.ntmps55
  repeat' ((fail_if_success (with_reducible refine o_s ?_)); go_step)
  refine wpl_box (vs := [str s.name, .int .i64 s.kind, .int .i64 s.ttl, v]) rfl rfl ?_
  intro p w1 x1 hp
  refine gset ?_
  refine wpl_allocB (z := zset) rfl (by decide +kernel) ?_
  intro w2 x2 s2 h2
  refine gset ?_
  have hp := hp.ext x2
  repeat' (first | ((with_reducible refine o_s ?_); (first | (refine o_1 ?_; refine o_2 ?_) | (refine o_g ?_; first | refine o_u ?_ | refine o_k ?_ | refine o_n ?_ | refine o_v ?_ | ((first | refine o_G ?_ ?_ | refine o_N ?_ ?_) <;> intro hc)))) | ((fail_if_success (with_reducible refine o_s ?_)); go_step))
  refine wpl_allocB (z := zset) rfl (by decide +kernel) ?_
  intro w3 x3 s3 h3
  refine gset ?_
  have h2 := x3.at h2
  refine wpl_storeB (v := .agg #[str s.name, .int .i64 s.kind, .int .i64 s.ttl, v]) rfl rfl rfl h3 (show sizeTy Tryz.prog 35 4 = true by decide +kernel) rfl (all4 rfl rfl rfl hv.one) ?_
  intro w4 p4
  have x04 : Ext w w4 := ((x1.trans x2).trans x3).move p4.mv (by have := x1.size; rintro k ⟨⟩; omega)
  have h2 := p4.at h2 (by omega)
  have x24 : Ext w2 w4 := x3.move p4.mv (by rintro k ⟨⟩; omega)
  have hp4 := hp.ext x24
  have h4 : w4.heap[w2.heap.size]? = some (.cells [str s.name, .int .i64 s.kind, .int .i64 s.ttl, v].toArray 35 (0, 0)) := p4.this
  have hz4 := p4.size
  clear p4 h3 x3 hp
  repeat' (first | ((with_reducible refine o_s ?_); (first | (refine o_1 ?_; refine o_2 ?_) | (refine o_g ?_; first | refine o_u ?_ | refine o_k ?_ | refine o_n ?_ | refine o_v ?_ | ((first | refine o_G ?_ ?_ | refine o_N ?_ ?_) <;> intro hc)))) | ((fail_if_success (with_reducible refine o_s ?_)); go_step))
  have s1 := x1.size
  refine wpl_appendO (v0 := .slice none 0 0) (B := w4.heap.size) (e := 9) rfl Own.nilE rfl (hv.ext x04) (by simp [tcells, str, Value.oneCell']) (Nat.le_refl _) (by rw [tcells_length]; simpa using hb) ?_
  intro x w5 o5 m5 k5
  have x45 : Ext w4 w5 := ⟨m5.os, m5.tape, m5.output, m5.size, fun k hk => m5.block k hk (by simp [Value.ownBlock]), m5.drawn⟩
  refine gset ?_
  have h2 := x45.at h2
  have h4 := x45.at h4
  have hp4 := hp4.ext x45
  have hp5 := pts_block h4
  repeat' (first | ((with_reducible refine o_s ?_); (first | (refine o_1 ?_; refine o_2 ?_) | (refine o_g ?_; first | refine o_u ?_ | refine o_k ?_ | refine o_n ?_ | refine o_v ?_ | ((first | refine o_G ?_ ?_ | refine o_N ?_ ?_) <;> intro hc)))) | ((fail_if_success (with_reducible refine o_s ?_)); go_step))
  have o5 : Own w4.heap.size 1 9 w5 x (tcells s.data) := by simpa using o5
  refine wpl_storeF (cs := [str s.name, .int .i64 s.kind, .int .i64 s.ttl, v]) h4 rfl rfl rfl (by simp) (by decide +kernel) o5.one ?_
  intro w6 p6
  have x46 : Ext w w6 := (x04.trans x45).move p6.mv (by have := x2.size; rintro k ⟨⟩; omega)
  have h2 := p6.at h2 (by omega)
  have o6 : Own w4.heap.size 1 9 w6 x (tcells s.data) := o5.put p6 (by omega)
  have hp6 := pts_block (cs := [str s.name, .int .i64 s.kind, .int .i64 s.ttl, x]) p6.this
  clear p6 h4 hp5 hp4
  repeat' (first | ((with_reducible refine o_s ?_); (first | (refine o_1 ?_; refine o_2 ?_) | (refine o_g ?_; first | refine o_u ?_ | refine o_k ?_ | refine o_n ?_ | refine o_v ?_ | ((first | refine o_G ?_ ?_ | refine o_N ?_ ?_) <;> intro hc)))) | ((fail_if_success (with_reducible refine o_s ?_)); go_step))
  refine wpl_storeB (v := .agg #[str s.name, .int .i64 s.kind, .int .i64 s.ttl, x]) rfl rfl rfl h2 (show sizeTy Tryz.prog 35 4 = true by decide +kernel) rfl (all4 rfl rfl rfl o6.sl.one) ?_
  intro w7 p7
  have x7 : Ext w w7 := x46.move p7.mv (by rintro k ⟨⟩; omega)
  have o7 : Own w4.heap.size 1 9 w7 x (tcells s.data) := o6.put p7 (by omega)
  repeat' (first | ((with_reducible refine o_s ?_); (first | (refine o_1 ?_; refine o_2 ?_) | (refine o_g ?_; first | refine o_u ?_ | refine o_k ?_ | refine o_n ?_ | refine o_v ?_ | ((first | refine o_G ?_ ?_ | refine o_N ?_ ?_) <;> intro hc)))) | ((fail_if_success (with_reducible refine o_s ?_)); go_step))
  refine bodyPost_ret (results_cell1 (cs := [str s.name, .int .i64 s.kind, .int .i64 s.ttl, x]) rfl rfl p7.this (show aggTy Tryz.prog 35 4 = true by decide +kernel)) rfl ⟨_, rfl, x7, x, rfl, o7.weaken x04.size⟩

end Go.Proofs.X
set_option linter.unusedSimpArgs false
set_option linter.unusedVariables false
namespace Go.Proofs.X
open Go.RowKit
set_option maxRecDepth 100000
set_option maxHeartbeats 2000000 in
/-- lodestarref07.Find -/
theorem r7_Find (v : Value) (l : List RSet) (n : List UInt8) (kd : Int) (w : World) (hv : SetsAt w v l) (hb : ∀ s ∈ l, s.data.length ≤ 1000000) : Calls Tryz.prog 20 #[v, str n, .int .i64 kd] w (Ret w fun r w' => match findS l n kd with
    | some s => ∃ x, r = .tuple #[.agg #[str s.name, .int .i64 s.kind, .int .i64 s.ttl, x], .bool true] ∧ Own w.heap.size 1 9 w' x (tcells s.data)
    | none => r = .tuple #[.agg zset.toArray, .bool false]) := by
  obtain ⟨cv, hv1, hvl⟩ := hv.sl
  have hle := hv1.le
  go_enter Tryz.func20, Tryz.ntmps20
  repeat' ((fail_if_success (with_reducible refine o_s ?_)); go_step)
  refine wpl_allocB (z := zset) rfl (by decide +kernel) ?_
  intro w2 x2 s2 h2
  refine gset ?_
  repeat' (first | ((with_reducible refine o_s ?_); (first | (refine o_1 ?_; refine o_2 ?_) | (refine o_g ?_; first | refine o_u ?_ | refine o_k ?_ | refine o_n ?_ | refine o_v ?_ | ((first | refine o_G ?_ ?_ | refine o_N ?_ ?_) <;> intro hc)))) | ((fail_if_success (with_reducible refine o_s ?_)); go_step))
  go_loopw [8] (fun i wr => ∃ k : Nat, k ≤ l.length ∧ i = .int .i64 k ∧ Ext w2 wr ∧ (l.take k).find? (hit (fold n) kd) = none) (fun i _ => l.length - (intOf i).toNat)
  case atStart => exact ⟨0, Nat.zero_le _, rfl, Ext.refl _, rfl⟩
  case round =>
    obtain ⟨k, hk, rfl, hx, hall⟩ := hrel
    have hxw : Ext w wr := x2.trans hx
    have hv2 := hv1.ext hxw
    have h3 := hx.at h2
    by_cases hlt : k < l.length
    · obtain ⟨x, h4, h4d⟩ := (hv.ext hxw).elem (List.getElem?_eq_getElem hlt)
      have hbk := hb _ (List.getElem_mem hlt)
      repeat' (first | ((with_reducible refine o_s ?_); (first | (refine o_1 ?_; refine o_2 ?_) | (refine o_g ?_; first | refine o_u ?_ | refine o_k ?_ | refine o_n ?_ | refine o_v ?_ | ((first | refine o_G ?_ ?_ | refine o_N ?_ ?_) <;> intro hc)))) | ((fail_if_success (with_reducible refine o_s ?_)); go_step))
      refine wpq_region (by decide +kernel) (by decide +kernel) ?_
      repeat' (first | ((with_reducible refine q_s ?_); (first | (refine q_1 ?_; refine q_2 ?_) | (refine q_g ?_; first | refine q_u ?_ | refine q_k ?_ | refine q_v ?_))) | (with_reducible refine q_n ?_))
      refine wpq_call (enters_of Tryz.func54 rfl rfl) rfl rfl (fun w' _ => r1_Fold n w') ?_
      refine gset ?_
      repeat' (first | ((with_reducible refine q_s ?_); (first | (refine q_1 ?_; refine q_2 ?_) | (refine q_g ?_; first | refine q_u ?_ | refine q_k ?_ | refine q_v ?_))) | (with_reducible refine q_n ?_))
      by_cases q1 : l[k].name = fold n
      · rw [decide_eq_true q1]
        repeat' (first | ((with_reducible refine q_s ?_); (first | (refine q_1 ?_; refine q_2 ?_) | (refine q_g ?_; first | refine q_u ?_ | refine q_k ?_ | refine q_v ?_))) | (with_reducible refine q_n ?_))
        intro w5 x5
        have h5 := x5.at h3
        have hv5 := hv2.ext x5
        have hp5 := h4.ext x5
        by_cases q2 : l[k].kind = kd
        · have hh : findS l n kd = some l[k] := find_at hlt hall (by simp [hit, q1, q2])
          rw [decide_eq_true q2]
          repeat' (first | ((with_reducible refine o_s ?_); (first | (refine o_1 ?_; refine o_2 ?_) | (refine o_g ?_; first | refine o_u ?_ | refine o_k ?_ | refine o_n ?_ | refine o_v ?_ | ((first | refine o_G ?_ ?_ | refine o_N ?_ ?_) <;> intro hc)))) | ((fail_if_success (with_reducible refine o_s ?_)); go_step))
          refine wpl_callR (enters_of Tryz.func55 rfl rfl) rfl rfl (r7_Copy l[k] x _ (h4d.ext x5) hbk) ?_
          intro r w6 x6 hr
          obtain ⟨y, rfl, oy⟩ := hr
          refine gset ?_
          have h6 := x6.at h5
          have hs5 := hx.size
          have hs6 := x5.size
          refine wpl_storeB (v := .agg #[str l[k].name, .int .i64 l[k].kind, .int .i64 l[k].ttl, y]) rfl rfl rfl h6 (show sizeTy Tryz.prog 35 4 = true by decide +kernel) rfl (all4 rfl rfl rfl oy.sl.one) ?_
          intro w7 p7
          have x7 : Ext w w7 := ((hxw.trans x5).trans x6).move p7.mv (by rintro k ⟨⟩; exact Nat.le_refl _)
          have o7 := oy.put p7 (by omega)
          repeat' (first | ((with_reducible refine o_s ?_); (first | (refine o_1 ?_; refine o_2 ?_) | (refine o_g ?_; first | refine o_u ?_ | refine o_k ?_ | refine o_n ?_ | refine o_v ?_ | ((first | refine o_G ?_ ?_ | refine o_N ?_ ?_) <;> intro hc)))) | ((fail_if_success (with_reducible refine o_s ?_)); go_step))
          refine bodyPost_ret (results_cellT (cs := [str l[k].name, .int .i64 l[k].kind, .int .i64 l[k].ttl, y]) rfl rfl p7.this (show aggTy Tryz.prog 35 4 = true by decide +kernel)) rfl ⟨_, rfl, x7, ?_⟩
          rw [hh]
          exact ⟨y, rfl, o7.weaken (by omega)⟩
        · rw [decide_eq_false q2]
          repeat' (first | ((with_reducible refine o_s ?_); (first | (refine o_1 ?_; refine o_2 ?_) | (refine o_g ?_; first | refine o_u ?_ | refine o_k ?_ | refine o_n ?_ | refine o_v ?_ | ((first | refine o_G ?_ ?_ | refine o_N ?_ ?_) <;> intro hc)))) | ((fail_if_success (with_reducible refine o_s ?_)); go_step))
          exact ⟨⟨k + 1, by omega, by go_num, hx.trans x5, find_take hlt hall (by simp [hit, q2])⟩, by simp [intOf]; omega⟩
      · rw [decide_eq_false q1]
        repeat' (first | ((with_reducible refine q_s ?_); (first | (refine q_1 ?_; refine q_2 ?_) | (refine q_g ?_; first | refine q_u ?_ | refine q_k ?_ | refine q_v ?_))) | (with_reducible refine q_n ?_))
        intro w5 x5
        repeat' (first | ((with_reducible refine o_s ?_); (first | (refine o_1 ?_; refine o_2 ?_) | (refine o_g ?_; first | refine o_u ?_ | refine o_k ?_ | refine o_n ?_ | refine o_v ?_ | ((first | refine o_G ?_ ?_ | refine o_N ?_ ?_) <;> intro hc)))) | ((fail_if_success (with_reducible refine o_s ?_)); go_step))
        exact ⟨⟨k + 1, by omega, by go_num, hx.trans x5, find_take hlt hall (by simp [hit, q1])⟩, by simp [intOf]; omega⟩
    · have : k = l.length := by omega
      subst this
      have hno : findS l n kd = none := by rw [List.take_length] at hall; exact hall
      repeat' (first | ((with_reducible refine o_s ?_); (first | (refine o_1 ?_; refine o_2 ?_) | (refine o_g ?_; first | refine o_u ?_ | refine o_k ?_ | refine o_n ?_ | refine o_v ?_ | ((first | refine o_G ?_ ?_ | refine o_N ?_ ?_) <;> intro hc)))) | ((fail_if_success (with_reducible refine o_s ?_)); go_step))
      refine wpl_run (v := .agg zset.toArray) rfl (Runs.build0 (by kernel_rfl)) ?_
      refine gset ?_
      refine wpl_storeB (v := .agg zset.toArray) rfl rfl rfl h3 (by decide +kernel) rfl (by decide +kernel) ?_
      intro w7 p7
      have x7 : Ext w w7 := hxw.move p7.mv (by rintro k ⟨⟩; exact Nat.le_refl _)
      repeat' (first | ((with_reducible refine o_s ?_); (first | (refine o_1 ?_; refine o_2 ?_) | (refine o_g ?_; first | refine o_u ?_ | refine o_k ?_ | refine o_n ?_ | refine o_v ?_ | ((first | refine o_G ?_ ?_ | refine o_N ?_ ?_) <;> intro hc)))) | ((fail_if_success (with_reducible refine o_s ?_)); go_step))
      refine bodyPost_ret (results_cellT (cs := zset) rfl rfl p7.this (by decide +kernel)) rfl ⟨_, rfl, x7, ?_⟩
      rw [hno]
      rfl

end Go.Proofs.X
set_option linter.unusedSimpArgs false
set_option linter.unusedVariables false
namespace Go.Proofs.X
open Go.RowKit
set_option maxRecDepth 100000
set_option maxHeartbeats 2000000 in
/-- lodestarref07.Records -/
theorem r7_Records (v : Value) (l : List RSet) (w : World) (hv : SetsAt w v l) (hb : (recordsS l).length ≤ 100000) : Calls Tryz.prog 23 #[v] w (Ret w fun r w' => Own w.heap.size 4 66 w' r (rcells (recordsS l))) := by
  obtain ⟨cv, hv1, hvl⟩ := hv.sl
  have hle := hv1.le
  go_enter Tryz.func23, Tryz.ntmps23
  repeat' (first | ((with_reducible refine o_s ?_); (first | (refine o_1 ?_; refine o_2 ?_) | (refine o_g ?_; first | refine o_u ?_ | refine o_k ?_ | refine o_n ?_ | refine o_v ?_ | ((first | refine o_G ?_ ?_ | refine o_N ?_ ?_) <;> intro hc)))) | ((fail_if_success (with_reducible refine o_s ?_)); go_step))
  go_loopw [3, 4, 5] (fun o i _ wr => ∃ k : Nat, k ≤ l.length ∧ i = .int .i64 k ∧ Ext w wr ∧ Own w.heap.size 4 66 wr o (rcells (recsP l k))) (fun _ i _ _ => l.length - (intOf i).toNat)
  case atStart => exact ⟨0, Nat.zero_le _, rfl, Ext.refl _, Own.nil _ _ _ _⟩
  case round =>
    obtain ⟨k, hk, rfl, hx, ho⟩ := hrel
    have hv2 := hv1.ext hx
    by_cases hlt : k < l.length
    · obtain ⟨x, h4, h4d⟩ := hv.elem (List.getElem?_eq_getElem hlt)
      have hdl := tcells_length l[k].data
      have hdle := h4d.le
      repeat' (first | ((with_reducible refine o_s ?_); (first | (refine o_1 ?_; refine o_2 ?_) | (refine o_g ?_; first | refine o_u ?_ | refine o_k ?_ | refine o_n ?_ | refine o_v ?_ | ((first | refine o_G ?_ ?_ | refine o_N ?_ ?_) <;> intro hc)))) | ((fail_if_success (with_reducible refine o_s ?_)); go_step))
      go_loopw [3, 5] (fun o i wq => ∃ j : Nat, j ≤ l[k].data.length ∧ i = .int .i64 j ∧ Ext w wq ∧ Own w.heap.size 4 66 wq o (rcells (recsP l k ++ (l[k].data.take j).map (recOf l[k])))) (fun _ i _ => l[k].data.length - (intOf i).toNat)
      case atStart => exact ⟨0, Nat.zero_le _, rfl, hx, by simpa using ho⟩
      case round =>
        obtain ⟨j, hj, rfl, hxq, hoq⟩ := hrel
        have hv3 := hv1.ext hxq
        have h4q := h4.ext hxq
        have h4dq := h4d.ext hxq
        by_cases hlt2 : j < l[k].data.length
        · have h3 := h4d.elem (tcells_at hlt2)
          have hle1 := recsP_le l (k + 1)
          rw [recsP_succ hlt, List.length_append] at hle1
          have hle2 : (recsOf l[k]).length = l[k].data.length := by simp [recsOf]
          have hcl : (rcells (recsP l k ++ (l[k].data.take j).map (recOf l[k]))).length = (recsP l k).length + j := by simp [rcells]; omega
          repeat' (first | ((with_reducible refine o_s ?_); (first | (refine o_1 ?_; refine o_2 ?_) | (refine o_g ?_; first | refine o_u ?_ | refine o_k ?_ | refine o_n ?_ | refine o_v ?_ | ((first | refine o_G ?_ ?_ | refine o_N ?_ ?_) <;> intro hc)))) | ((fail_if_success (with_reducible refine o_s ?_)); go_step))
          clear hv2 hv3 h4q h4dq
          refine wph_region (S := fun w' => Ext w w') (by decide +kernel) ?_
          intro w5 x5 hh5
          refine tk 0 ?_; refine gset ?_; refine tk 1 ?_; refine gset ?_; refine tk 2 ?_; refine gset ?_; refine tk 3 ?_; refine gset ?_; refine tk 4 ?_; refine gset ?_; refine tk 5 ?_; refine gset ?_; refine tk 6 ?_; refine gset ?_; refine tk 7 ?_; refine gset ?_; refine tk 8 ?_; refine gset ?_; refine tk 9 ?_; refine gset ?_; refine tk 10 ?_; refine gset ?_; refine tk 11 ?_; refine gset ?_; refine tk 12 ?_; refine gset ?_; refine tk 13 ?_; refine gset ?_; refine tk 14 ?_; refine gset ?_; refine tk 15 ?_; refine gset ?_; refine tk 16 ?_; refine gset ?_; refine tk 17 ?_; refine gset ?_; refine tk 18 ?_; refine gset ?_; refine tk 19 ?_; refine gset ?_; refine tk 20 ?_; refine gset ?_; refine tk 21 ?_; refine gset ?_; refine tk 22 ?_; refine gset ?_; refine tk 23 ?_; refine gset ?_
          refine wph_take (i := 24) (v := .agg #[str l[k].name, .int .i64 l[k].kind, .int .i64 l[k].ttl, str l[k].data[j]]) rfl rfl (by decide +kernel) (by decide +kernel) (by decide +kernel) rfl (hxq.trans x5) (fun w' _ => Runs.build rfl (by kernel_rfl)) (fun _ _ _ h => h) ?_
          refine gset ?_
          refine wph_one (i := 25) (by decide +kernel) rfl rfl ?_
          refine wpl_slice (e := 66) (k := 4) (bytes := 48) (xs := [.agg #[str l[k].name, .int .i64 l[k].kind, .int .i64 l[k].ttl, str l[k].data[j]]]) rfl rfl rfl (by simp [Value.cells]) (by decide +kernel) (by simp) ?_
          intro v8 w8 x8 s8 sl8 _
          refine gset ?_
          have hx8 := (hxq.trans x5).trans x8
          refine wph_nil ⟨hx8, ?_⟩
          refine wph_one (i := 26) (by decide +kernel) rfl rfl ?_
          have ho8 := (hoq.ext x5).ext x8
          refine wpl_appendO (B := w.heap.size) (e := 66) (k := 4) rfl ho8 rfl sl8 (by simp [Value.cells, str, Value.oneCell']) hx8.size (by rw [hcl]; simp; omega) ?_
          intro v9 w9 o9 m9 k9
          refine gset ?_
          have x9 : Ext w w9 := ho8.mvx m9 hx8 (Nat.le_refl _)
          have o9 : Own w.heap.size 4 66 w9 v9 (rcells (recsP l k ++ (l[k].data.take (j + 1)).map (recOf l[k]))) := by
            rw [map_take_succ hlt2, ← List.append_assoc]
            simpa [rcells, Rec.cells, recOf, Value.cells] using o9
          refine wph_nil ⟨x9, ?_⟩
          refine wph_one (i := 27) (by decide +kernel) rfl rfl ?_
          repeat' (first | ((with_reducible refine o_s ?_); (first | (refine o_1 ?_; refine o_2 ?_) | (refine o_g ?_; first | refine o_u ?_ | refine o_k ?_ | refine o_n ?_ | refine o_v ?_ | ((first | refine o_G ?_ ?_ | refine o_N ?_ ?_) <;> intro hc)))) | ((fail_if_success (with_reducible refine o_s ?_)); go_step))
          refine ⟨x9, ?_⟩
          refine wph_done (by decide +kernel) ?_
          repeat' (first | ((with_reducible refine o_s ?_); (first | (refine o_1 ?_; refine o_2 ?_) | (refine o_g ?_; first | refine o_u ?_ | refine o_k ?_ | refine o_n ?_ | refine o_v ?_ | ((first | refine o_G ?_ ?_ | refine o_N ?_ ?_) <;> intro hc)))) | ((fail_if_success (with_reducible refine o_s ?_)); go_step))
          exact ⟨⟨j + 1, by omega, by go_num, x9, o9⟩, by simp [intOf]; omega⟩
        · have : j = l[k].data.length := by omega
          subst this
          repeat' (first | ((with_reducible refine o_s ?_); (first | (refine o_1 ?_; refine o_2 ?_) | (refine o_g ?_; first | refine o_u ?_ | refine o_k ?_ | refine o_n ?_ | refine o_v ?_ | ((first | refine o_G ?_ ?_ | refine o_N ?_ ?_) <;> intro hc)))) | ((fail_if_success (with_reducible refine o_s ?_)); go_step))
          refine ⟨⟨k + 1, by omega, by go_num, hxq, ?_⟩, by simp [intOf]; omega⟩
          rw [recsP_succ hlt]
          rw [List.take_length] at hoq
          exact hoq
    · have : k = l.length := by omega
      subst this
      rw [recsP_all] at ho
      repeat' (first | ((with_reducible refine o_s ?_); (first | (refine o_1 ?_; refine o_2 ?_) | (refine o_g ?_; first | refine o_u ?_ | refine o_k ?_ | refine o_n ?_ | refine o_v ?_ | ((first | refine o_G ?_ ?_ | refine o_N ?_ ?_) <;> intro hc)))) | ((fail_if_success (with_reducible refine o_s ?_)); go_step))
      go_ret
      exact ⟨_, rfl, hx, ho⟩

end Go.Proofs.X
set_option linter.unusedSimpArgs false
set_option linter.unusedVariables false
namespace Go.Proofs.X
open Go.RowKit
set_option maxRecDepth 100000
/-! ### plain laws: what may be is found -/
theorem TPO.ltt {α : Type} {c : α → α → Int} (h : TPO c) {x y z : α} (h1 : c x y < 0) (h2 : c y z < 0) : c x z < 0 := by
  have h3 := h.tr x y z (by omega) (by omega)
  rcases Int.lt_or_eq_of_le h3 with h4 | h4
  · exact h4
  · exfalso
    have h5 := (h.eqL h4 (z := y)).1 (by omega)
    have h6 := h.anti y z
    omega
theorem check_ok {l : List RSet} (h : checkS l = 0) : ∀ i, i < l.length → badSet l i = false := by
  unfold checkS at h
  split at h
  · omega
  · split at h
    · rename_i h1
      intro i hi
      rw [List.all_eq_true] at h1
      have := h1 i (by simpa using hi)
      simpa using this
    · omega
theorem check_may {l : List RSet} (h : checkS l = 0) {i : Nat} (hi : i < l.length) : mayS l[i] = true := by
  have := check_ok h i hi
  rw [badSet, List.getElem?_eq_getElem hi] at this
  simp only [Bool.or_eq_false_iff, Bool.not_eq_false'] at this
  exact this.1
theorem check_lt {l : List RSet} (h : checkS l = 0) {i : Nat} (hi : i + 1 < l.length) : cmpSet l[i].name l[i + 1].name l[i].kind l[i + 1].kind < 0 := by
  have := check_ok h (i + 1) hi
  rw [badSet, List.getElem?_eq_getElem hi] at this
  simp only [Bool.or_eq_false_iff, Bool.and_eq_false_iff, decide_eq_false_iff_not] at this
  have h2 := this.2.resolve_left (by omega)
  have e : l.getD (i + 1 - 1) default = l[i] := by simp [show i < l.length by omega]
  rw [e] at h2
  omega
theorem check_sorted {l : List RSet} (h : checkS l = 0) (i : Nat) : ∀ j (hj : i < j) (hl : j < l.length), cmpSet l[i].name l[j].name l[i].kind l[j].kind < 0
  | 0, hj, _ => by omega
  | j + 1, hj, hl => by
    have h1 := check_lt h hl
    by_cases e : i = j
    · subst e; exact h1
    · have h2 := check_sorted h i j (by omega) (by omega)
      exact tpo_cmpSet.ltt (x := (l[i].name, l[i].kind)) (y := (l[j].name, l[j].kind)) (z := (l[j + 1].name, l[j + 1].kind)) h2 h1
theorem may_fold {s : RSet} (h : mayS s = true) : fold s.name = s.name := by
  simp only [mayS, Bool.and_eq_true, decide_eq_true_eq] at h
  exact h.1.1.1
theorem found_all {l : List RSet} (h : checkS l = 0) {i : Nat} (hi : i < l.length) : findS l l[i].name l[i].kind = some l[i] := by
  have hf := may_fold (check_may h hi)
  refine find_at hi ?_ (by simp [hit, hf])
  rw [List.find?_eq_none]
  intro x hx hh
  obtain ⟨j, hj, rfl⟩ := List.getElem_of_mem hx
  have hj' : j < i := by rw [List.length_take] at hj; omega
  rw [List.getElem_take] at hh
  simp only [hit, hf, Bool.and_eq_true, decide_eq_true_eq] at hh
  have h1 := check_sorted h j i hj' hi
  rw [hh.1, hh.2] at h1
  have h2 := tpo_cmpSet.refl (l[i].name, l[i].kind)
  simp only at h2
  omega
theorem find_kind {l : List RSet} {n : List UInt8} {k : Int} {s : RSet} (h : findS l n k = some s) : s.kind = k := by
  have := List.find?_some h
  simp only [hit, Bool.and_eq_true, decide_eq_true_eq] at this
  exact this.2
theorem meet3 {α β : Type} {F : α → β → World → Prop} {G : α → β → World → Prop} {goal : Prop} (h1 : (∀ x y w', F x y w' → G x y w') → goal) (h2 : ∀ x y w', F x y w' → G x y w') : goal := h1 h2

end Go.Proofs.X
set_option linter.unusedSimpArgs false
set_option linter.unusedVariables false
namespace Go.Proofs.X
open Go.RowKit
set_option maxRecDepth 100000
section
variable {P : Program} {w : World} {ts : List Value} {df : List Deferred} {d : Option Nat} {ty : TypeId} {ps : String} {af : Array Edge} {g : Option (Nat × Bool)}
def boolTy (P : Program) (t : TypeId) : Bool := match P.underlying t with | some .bool => true | _ => false
theorem Runs.eqlB {t u : TypeId} {x y : Operand} {a b : Bool} (hx : (Act.mk ts.toArray df).eval x = .bool a) (hy : (Act.mk ts.toArray df).eval y = .bool b) (ht : boolTy P t = true) :
    Runs P (Oper.mk d (.binOp .eql t x y u) ty ps af g) (Act.mk ts.toArray df) w (.bool (a == b)) := by
  have hu : P.underlying t = some .bool := by
    unfold boolTy at ht; split at ht
    · assumption
    · cases ht
  constructor
  simp [execOp, hx, hy, eqGuard, binOp, run_equal_bool w t a b hu]
end
theorem few_bounds {l : List RSet} (h : fewS l = true) : l.length ≤ 25 ∧ (∀ s ∈ l, s.data.length ≤ 12) ∧ (∀ s ∈ l, s.name.length ≤ 300) ∧ ∀ s ∈ l, ∀ d ∈ s.data, d.length ≤ 300 := by
  simp only [fewS, Bool.and_eq_true, decide_eq_true_eq, List.all_eq_true, fewAt] at h
  exact ⟨h.1, fun s hs => (h.2 s hs).1.1, fun s hs => (h.2 s hs).1.2, fun s hs d hd => (h.2 s hs).2 d hd⟩
theorem recs_bound : ∀ {l : List RSet}, (∀ s ∈ l, s.data.length ≤ 12) → (recordsS l).length ≤ 12 * l.length
  | [], _ => by simp [recordsS]
  | s :: l, h => by
    have ih := recs_bound (l := l) fun t ht => h t (List.mem_cons_of_mem _ ht)
    have h1 := h s (by simp)
    have e : recordsS (s :: l) = recsOf s ++ recordsS l := by simp [recordsS]
    rw [e, List.length_append, List.length_cons]
    simp only [recsOf, List.length_map]
    omega
def zS : RSet := ⟨[], 0, 0, []⟩
theorem find_uni {w w' : World} {r : Value} {o : Option RSet} (h : match o with
    | some s => ∃ x, r = .tuple #[.agg #[str s.name, .int .i64 s.kind, .int .i64 s.ttl, x], .bool true] ∧ Own w.heap.size 1 9 w' x (tcells s.data)
    | none => r = .tuple #[.agg zset.toArray, .bool false]) :
    ∃ x, r = .tuple #[.agg #[str (o.getD zS).name, .int .i64 (o.getD zS).kind, .int .i64 (o.getD zS).ttl, x], .bool o.isSome] ∧ Sl 1 w' x (tcells (o.getD zS).data) := by
  cases o with
  | none => exact ⟨.slice none 0 0, h, Sl.nil _ _⟩
  | some s =>
    obtain ⟨x, h1, h2⟩ := h
    exact ⟨x, h1, h2.sl⟩
set_option maxHeartbeats 1000000 in
/-- lodestarlaw07.RrsetFinds -/
theorem z4 (v : Value) (l : List RSet) (n : List UInt8) (kd : Int) (w : World) (hv : SetsAt w v l) : Calls Tryz.prog 4 #[v, str n, .int .i64 kd] w (Yes w) := by
  obtain ⟨cv, hv1, hvl⟩ := hv.sl
  have hle := hv1.le
  go_enter Tryz.func4, Tryz.ntmps4
  repeat' (first | ((with_reducible refine o_s ?_); (first | (refine o_1 ?_; refine o_2 ?_) | (refine o_g ?_; first | refine o_u ?_ | refine o_k ?_ | refine o_n ?_ | refine o_v ?_ | ((first | refine o_G ?_ ?_ | refine o_N ?_ ?_) <;> intro hc)))) | ((fail_if_success (with_reducible refine o_s ?_)); go_step))
  refine wpl_callV (enters_of Tryz.func18 rfl rfl) rfl rfl (t14 v l _ hv) ?_; intro w1 x1; refine gset ?_
  repeat' (first | ((with_reducible refine o_s ?_); (first | (refine o_1 ?_; refine o_2 ?_) | (refine o_g ?_; first | refine o_u ?_ | refine o_k ?_ | refine o_n ?_ | refine o_v ?_ | ((first | refine o_G ?_ ?_ | refine o_N ?_ ?_) <;> intro hc)))) | ((fail_if_success (with_reducible refine o_s ?_)); go_step))
  rotate_left
  · have hs : fewS l = true := by simpa using hc
    obtain ⟨b1, b2, b3, b4⟩ := few_bounds hs
    have b5 := recs_bound b2
    have hv1 := hv.ext x1
    refine wpl_callR (enters_of Tryz.func19 rfl rfl) rfl rfl (t13 v l n kd _ hv1 (fun s hs => by have := b2 s hs; omega)) ?_
    intro r2 w2 x2 hr2
    obtain ⟨x, rfl, sx⟩ := find_uni hr2
    generalize hA : (findS l n kd).getD zS = A at *
    generalize hB : (findS l n kd).isSome = B at *
    refine gset ?_
    repeat' (first | ((with_reducible refine o_s ?_); (first | (refine o_1 ?_; refine o_2 ?_) | (refine o_g ?_; first | refine o_u ?_ | refine o_k ?_ | refine o_n ?_ | refine o_v ?_ | ((first | refine o_G ?_ ?_ | refine o_N ?_ ?_) <;> intro hc)))) | ((fail_if_success (with_reducible refine o_s ?_)); go_step))
    refine wpl_allocB (z := zset) rfl (by decide +kernel) ?_
    intro w3 x3 s3 h3
    refine gset ?_
    refine wpl_storeB (v := .agg #[str A.name, .int .i64 A.kind, .int .i64 A.ttl, x]) rfl rfl rfl h3 (show sizeTy Tryz.prog 35 4 = true by decide +kernel) rfl (all4 rfl rfl rfl sx.one) ?_
    intro w4 p4
    have x24 : Ext w2 w4 := x3.move p4.mv (by rintro k ⟨⟩; exact Nat.le_refl _)
    have hp4 := pts_block (cs := [str A.name, .int .i64 A.kind, .int .i64 A.ttl, x]) p4.this
    have xw4 := (x1.trans x2).trans x24
    have sx4 := sx.ext x24
    clear p4 h3 x3 hr2
    repeat' (first | ((with_reducible refine o_s ?_); (first | (refine o_1 ?_; refine o_2 ?_) | (refine o_g ?_; first | refine o_u ?_ | refine o_k ?_ | refine o_n ?_ | refine o_v ?_ | ((first | refine o_G ?_ ?_ | refine o_N ?_ ?_) <;> intro hc)))) | ((fail_if_success (with_reducible refine o_s ?_)); go_step))
    refine wpl_callR (enters_of Tryz.func20 rfl rfl) rfl rfl (r7_Find v l n kd _ (hv.ext xw4) (fun s hs => by have := b2 s hs; omega)) ?_
    intro r5 w5 x5 hr5
    obtain ⟨y, rfl, sy⟩ := find_uni hr5
    rw [hA, hB] at *
    refine gset ?_
    repeat' (first | ((with_reducible refine o_s ?_); (first | (refine o_1 ?_; refine o_2 ?_) | (refine o_g ?_; first | refine o_u ?_ | refine o_k ?_ | refine o_n ?_ | refine o_v ?_ | ((first | refine o_G ?_ ?_ | refine o_N ?_ ?_) <;> intro hc)))) | ((fail_if_success (with_reducible refine o_s ?_)); go_step))
    refine wpl_allocB (z := zset) rfl (by decide +kernel) ?_
    intro w6 x6 s6 h6
    refine gset ?_
    refine wpl_storeB (v := .agg #[str A.name, .int .i64 A.kind, .int .i64 A.ttl, y]) rfl rfl rfl h6 (show sizeTy Tryz.prog 35 4 = true by decide +kernel) rfl (all4 rfl rfl rfl sy.one) ?_
    intro w7 p7
    have x57 : Ext w5 w7 := x6.move p7.mv (by rintro k ⟨⟩; exact Nat.le_refl _)
    have hp7 := pts_block (cs := [str A.name, .int .i64 A.kind, .int .i64 A.ttl, y]) p7.this
    have hp4 := hp4.ext (x5.trans x57)
    have xw7 := (xw4.trans x5).trans x57
    have sx7 := sx4.ext (x5.trans x57)
    have sy7 := sy.ext x57
    clear p7 h6 x6 hr5
    repeat' (first | ((with_reducible refine o_s ?_); (first | (refine o_1 ?_; refine o_2 ?_) | (refine o_g ?_; first | refine o_u ?_ | refine o_k ?_ | refine o_n ?_ | refine o_v ?_ | ((first | refine o_G ?_ ?_ | refine o_N ?_ ?_) <;> intro hc)))) | ((fail_if_success (with_reducible refine o_s ?_)); go_step))
    refine wpl_callV (enters_of Tryz.func21 rfl rfl) rfl rfl (t15 A A x y _ sx7 sy7) ?_; intro w8 x8; refine gset ?_
    repeat' (first | ((with_reducible refine o_s ?_); (first | (refine o_1 ?_; refine o_2 ?_) | (refine o_g ?_; first | refine o_u ?_ | refine o_k ?_ | refine o_n ?_ | refine o_v ?_ | ((first | refine o_G ?_ ?_ | refine o_N ?_ ?_) <;> intro hc)))) | ((fail_if_success (with_reducible refine o_s ?_)); go_step))
    refine wpl_run rfl (Runs.eqlB rfl rfl (by decide +kernel)) ?_
    rw [show (B == B) = true by simp]
    refine gset ?_
    repeat' (first | ((with_reducible refine o_s ?_); (first | (refine o_1 ?_; refine o_2 ?_) | (refine o_g ?_; first | refine o_u ?_ | refine o_k ?_ | refine o_n ?_ | refine o_v ?_ | ((first | refine o_G ?_ ?_ | refine o_N ?_ ?_) <;> intro hc)))) | ((fail_if_success (with_reducible refine o_s ?_)); go_step))
    have xw8 := xw7.trans x8
    refine wpl_callR (enters_of Tryz.func22 rfl rfl) rfl rfl (t10 v l _ (hv.ext xw8) (by omega)) ?_
    intro ra w9 x9 oa
    refine gset ?_
    repeat' (first | ((with_reducible refine o_s ?_); (first | (refine o_1 ?_; refine o_2 ?_) | (refine o_g ?_; first | refine o_u ?_ | refine o_k ?_ | refine o_n ?_ | refine o_v ?_ | ((first | refine o_G ?_ ?_ | refine o_N ?_ ?_) <;> intro hc)))) | ((fail_if_success (with_reducible refine o_s ?_)); go_step))
    refine wpl_callR (enters_of Tryz.func23 rfl rfl) rfl rfl (r7_Records v l _ (hv.ext (xw8.trans x9)) (by omega)) ?_
    intro rb w10 x10 ob
    refine gset ?_
    repeat' (first | ((with_reducible refine o_s ?_); (first | (refine o_1 ?_; refine o_2 ?_) | (refine o_g ?_; first | refine o_u ?_ | refine o_k ?_ | refine o_n ?_ | refine o_v ?_ | ((first | refine o_G ?_ ?_ | refine o_N ?_ ?_) <;> intro hc)))) | ((fail_if_success (with_reducible refine o_s ?_)); go_step))
    refine wpl_callV (enters_of Tryz.func17 rfl rfl) rfl rfl (r3_Same ra rb (recordsS l) (recordsS l) _ (oa.sl.ext x10) ob.sl) ?_; intro w11 x11; refine gset ?_
    repeat' (first | ((with_reducible refine o_s ?_); (first | (refine o_1 ?_; refine o_2 ?_) | (refine o_g ?_; first | refine o_u ?_ | refine o_k ?_ | refine o_n ?_ | refine o_v ?_ | ((first | refine o_G ?_ ?_ | refine o_N ?_ ?_) <;> intro hc)))) | ((fail_if_success (with_reducible refine o_s ?_)); go_step))
    have xw11 := ((xw8.trans x9).trans x10).trans x11
    refine wpl_callV (enters_of Tryz.func24 rfl rfl) rfl rfl (t12 v l _ (hv.ext xw11)) ?_; intro w12 x12; refine gset ?_
    repeat' (first | ((with_reducible refine o_s ?_); (first | (refine o_1 ?_; refine o_2 ?_) | (refine o_g ?_; first | refine o_u ?_ | refine o_k ?_ | refine o_n ?_ | refine o_v ?_ | ((first | refine o_G ?_ ?_ | refine o_N ?_ ?_) <;> intro hc)))) | ((fail_if_success (with_reducible refine o_s ?_)); go_step))
    refine wpl_callV (enters_of Tryz.func25 rfl rfl) rfl rfl (r7_Check v l _ (hv.ext (xw11.trans x12)) (fun s hs d hd => by have := b4 s hs d hd; omega)) ?_; intro w13 x13; refine gset ?_
    repeat' (first | ((with_reducible refine o_s ?_); (first | (refine o_1 ?_; refine o_2 ?_) | (refine o_g ?_; first | refine o_u ?_ | refine o_k ?_ | refine o_n ?_ | refine o_v ?_ | ((first | refine o_G ?_ ?_ | refine o_N ?_ ?_) <;> intro hc)))) | ((fail_if_success (with_reducible refine o_s ?_)); go_step))
    refine wpl_callG (enters_of Tryz.func13 rfl rfl) rfl rfl (t8 _) ?_
    rintro e w14 ⟨rfl, x14⟩
    refine ⟨_, rfl, ?_⟩
    refine gset ?_
    repeat' (first | ((with_reducible refine o_s ?_); (first | (refine o_1 ?_; refine o_2 ?_) | (refine o_g ?_; first | refine o_u ?_ | refine o_k ?_ | refine o_n ?_ | refine o_v ?_ | ((first | refine o_G ?_ ?_ | refine o_N ?_ ?_) <;> intro hc)))) | ((fail_if_success (with_reducible refine o_s ?_)); go_step))
    go_ret
    exact ⟨rfl, ((xw11.trans x12).trans x13).trans x14⟩
  all_goals
    refine wpl_callG (enters_of Tryz.func13 rfl rfl) rfl rfl (t8 _) ?_
    rintro e w2 ⟨rfl, x2⟩
    refine ⟨_, rfl, ?_⟩
    refine gset ?_
    repeat' (first | ((with_reducible refine o_s ?_); (first | (refine o_1 ?_; refine o_2 ?_) | (refine o_g ?_; first | refine o_u ?_ | refine o_k ?_ | refine o_n ?_ | refine o_v ?_ | ((first | refine o_G ?_ ?_ | refine o_N ?_ ?_) <;> intro hc)))) | ((fail_if_success (with_reducible refine o_s ?_)); go_step))
    go_ret
    exact ⟨rfl, by exact extc⟩

end Go.Proofs.X
set_option linter.unusedSimpArgs false
set_option linter.unusedVariables false
namespace Go.Proofs.X
open Go.RowKit
set_option maxRecDepth 100000
open Go.ChangeShapes Go.WideShapes Go.ChangeAt Go.RowKit
/-- a slice of texts that came in -/
theorem open_texts {H : Type} {enc : TypeId × Value → H} {w : World} {base : Nat} {spare : Nat → Bool} {held : Bool} {fuel : Nat} {v : Value} {x : DataW H × List MemPlace} (h : DataW.trod enc Tryz.prog w base spare held fuel 33 [v] = some x) : ∃ l : List (List UInt8), Sl 1 w v (tcells l) := by
  obtain ⟨es, hs, he⟩ := open_rows Tryz.underlying33 (show Tryz.prog.cellsOf 9 = 1 by kernel_rfl) (by omega) h
  obtain ⟨l, rfl⟩ : ∃ l : List (List UInt8), es = l.map fun s => [str s] := by
    refine all_map fun c hc => ?_
    obtain ⟨n, y, hy⟩ := he c hc
    have hl : c.length = 1 := by
      obtain ⟨_, _, _, _, _, h4, _, _⟩ := hs
      exact h4 c hc
    match c, hl with
    | [a], _ =>
      obtain ⟨s, rfl, _⟩ := trod_str Tryz.underlying9 hy
      exact ⟨s, rfl⟩
  exact ⟨l, hs⟩
/-- a slice of sets that came in -/
theorem open_sets {H : Type} {enc : TypeId × Value → H} {w : World} {base : Nat} {spare : Nat → Bool} {held : Bool} {fuel : Nat} {v : Value} {x : DataW H × List MemPlace} (h : DataW.trod enc Tryz.prog w base spare held fuel 25 [v] = some x) : ∃ l : List RSet, SetsAt w v l := by
  obtain ⟨es, hs, he⟩ := open_rows Tryz.underlying25 (show Tryz.prog.cellsOf 35 = 4 by kernel_rfl) (by omega) h
  obtain ⟨l, rfl⟩ : ∃ l : List {p : RSet × Value // Sl 1 w p.2 (tcells p.1.data)}, es = l.map fun p => [str p.1.1.name, .int .i64 p.1.1.kind, .int .i64 p.1.1.ttl, p.1.2] := by
    refine all_map fun c hc => ?_
    obtain ⟨n, y, hy⟩ := he c hc
    obtain ⟨xs, n', _, _, hl, hxl, hf⟩ := DataW.trod_struct Tryz.underlying35 hy
    have c30 : Tryz.prog.cellsOf 31 = 1 := by kernel_rfl
    have c3 : Tryz.prog.cellsOf 3 = 1 := by kernel_rfl
    have c35 : Tryz.prog.cellsOf 33 = 1 := by kernel_rfl
    have c37 : Tryz.prog.cellsOf 35 = 4 := by kernel_rfl
    rw [c37] at hl
    match c, hl, xs, hxl with
    | [a, b, d, e], _, [y0, y1, y2, y3], _ =>
      have g0 := hf 0 _ rfl
      have g1 := hf 1 _ rfl
      have g2 := hf 2 _ rfl
      have g3 := hf 3 _ rfl
      simp [c30, c3, c35] at g0 g1 g2 g3
      obtain ⟨s0, rfl, _⟩ := trod_str Tryz.underlying31 g0
      obtain ⟨n1, rfl, _⟩ := trod_num Tryz.underlying3 g1
      obtain ⟨n2, rfl, _⟩ := trod_num Tryz.underlying3 g2
      obtain ⟨ts, hts⟩ := open_texts g3
      exact ⟨⟨(⟨s0, n1, n2, ts⟩, e), hts⟩, rfl⟩
  refine ⟨l.map fun p => p.1.1, _, hs, by simp, ?_⟩
  intro i s hi
  rw [List.getElem?_map] at hi
  obtain ⟨p, hp, rfl⟩ := Option.map_eq_some_iff.1 hi
  exact ⟨p.1.2, by rw [List.getElem?_map, hp]; rfl, p.2⟩
set_option maxRecDepth 100000 in
theorem finds_lifted (os : Os) (started : os.Started) (H : Type) (enc : TypeId × Value → H) :
    ReturnsInHanded {} Tryz.checked os 4 .any (YtfgkdjkegifpgaaGreat.Rows.rrsetFindsSpec.pre6 enc Tryz.prog Tryz.f4 YtfgkdjkegifpgaaGreat.Rows.rrsetFindsRow.domain false) (YtfgkdjkegifpgaaGreat.Rows.rrsetFindsSpec.post enc Tryz.prog Tryz.f4 false true false false) := by
  refine returnsInHanded_of_change (C := Tryz.checked) own started (by kernel_rfl) Tryz.func4
    (ChangeSpec.witness6 (enc := enc) (C := Tryz.checked) false ⟨#[], #[.slice none 0 0, str [], .int .i64 0], []⟩ 8 (by kernel_rfl) (by kernel_rfl) (by kernel_rfl) (by kernel_rfl)) ?_
  intro W base args ds gs before hval0 hW hcnd _
  have hW' := hW
  obtain ⟨p, q, hA0, hV, rfl, hfz, hnd⟩ := hW
  have hA : DataW.TrodAll enc Tryz.prog W 0 (fun _ => true) true Tryz.f4.params.toList args.toList ds p := hA0
  have hval : ∀ (j : Nat) t v, Tryz.f4.params[j]? = some t → args[j]? = some v → Value.okWide Tryz.prog W .any base t v := hval0
  rw [Tryz.params4] at hA hval
  obtain ⟨v0, vs0, d0, ds0, p0, q0, hargs, rfl, rfl, h0, r0⟩ := trodAll_cons hA
  obtain ⟨v1, vs1, d1, ds1, p1, q1, rfl, rfl, rfl, h1, r1⟩ := trodAll_cons r0
  obtain ⟨v2, vs2, d2, ds2, p2, q2, rfl, rfl, rfl, h2, r2⟩ := trodAll_cons r1
  obtain ⟨rfl, rfl, rfl⟩ := trodAll_nil r2
  obtain rfl : args = #[v0, v1, v2] := by cases args; simp_all
  obtain ⟨rfl, rfl⟩ := trodVars_none hV
  have k0 := h0
  have k1 := h1
  have k2 := h2
  have lt0 : ∀ x ∈ p0, x.block < W.heap.size := by obtain ⟨m, hm⟩ := k0; exact DataW.trod_lt m _ _ _ hm
  have lt1 : ∀ x ∈ p1, x.block < W.heap.size := by obtain ⟨m, hm⟩ := k1; exact DataW.trod_lt m _ _ _ hm
  have lt2 : ∀ x ∈ p2, x.block < W.heap.size := by obtain ⟨m, hm⟩ := k2; exact DataW.trod_lt m _ _ _ hm
  obtain ⟨a0, len0, cap0, rfl⟩ := okWide_slice Tryz.underlying25 (hval 0 25 v0 rfl rfl)
  obtain ⟨b1, rfl⟩ := okWide_string Tryz.underlying31 (hval 1 31 v1 rfl rfl)
  obtain ⟨n2, rfl⟩ := okWide_int Tryz.underlying3 (hval 2 3 v2 rfl rfl)
  obtain ⟨l, hl⟩ : ∃ l : List RSet, SetsAt W (.slice a0 len0 cap0) l := by
    obtain ⟨fuel, hf⟩ := h0
    exact open_sets hf
  obtain ⟨n, hn⟩ : ∃ n : List UInt8, Value.string b1 = str n := ⟨b1.data.toList, by rw [str, Array.toArray_toList]⟩
  clear hA0 hval0
  have h6 := z4 _ l n n2 W hl
  rw [← hn] at h6
  refine h6.mono fun e W' ⟨he, hx⟩ => ?_
  subst he
  have bel := hx.below
  exact ⟨_, rfl, _, _, _, [], _, [], hW', trodAll_mk1 (shut_bool Tryz.underlying4 _), (trodAll_cons_mk (Below.trod laidOut (by kernel_rfl) (of_decide_eq_true (by kernel_rfl)) k0 bel lt0) (trodAll_cons_mk (Below.trod laidOut (by kernel_rfl) (of_decide_eq_true (by kernel_rfl)) k1 bel lt1) (trodAll_cons_mk (Below.trod laidOut (by kernel_rfl) (of_decide_eq_true (by kernel_rfl)) k2 bel lt2) trodAll_mk0))), rfl, bel.frame _, fun h => by cases h⟩
theorem finds_holds : YtfgkdjkegifpgaaGreat.Rows.RrsetFindsSaid :=
  OpenClaim.holds_of_wide 4 Tryz.f4 rfl rfl rfl rfl rfl rfl rfl ⟨rfl, rfl, rfl, rfl, rfl⟩ rfl rfl rfl rfl rfl (by kernel_rfl) Tryz.func4 (by kernel_rfl)
    (of_decide_eq_true (by kernel_rfl)) (by unfold Func.isWrapper; first | (rw [if_pos (by decide +kernel)]; kernel_rfl) | (rw [if_neg (by decide +kernel)]; exact ⟨rfl, rfl⟩))
    (fun os started H enc _ => finds_lifted os started H enc)

end Go.Proofs.X
