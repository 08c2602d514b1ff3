/- Laws and walks that the proof of the statement is made of (part 17). -/
import Derived.Test.YtoajkilickakiaaGreatProg
import Derived.Test.YtoajkilickakiaaGreatShelf
import Derived.Shelf.SlSortCmp.NoneTotal
import Derived.Shelf.RegionOpenPlain
import Derived.Lib.Strings
import Derived.Lib.Slices
import Derived.Lib.Walk
import Derived.Lib.Builder
import Derived.Lib.AppendStr
import Derived.Lib.UnsafeStr
import Derived.Lib.MakeNoZero
import Derived.WalkKit
import Derived.Laws.Externs
import Derived.Laws.IdiomCopy
import Derived.Laws.BitsLemmas
import GoSem.Claims
import Derived.Lib.Hide
import Derived.OwnWalk
import Derived.Test.YtoajkilickakiaaGreatRows
import Derived.ProofKit
import Derived.OpenShut
import Derived.ShutString
import Derived.ChangeOld
import Derived.Below
import Derived.Test.YtoajkilickakiaaGreatP1
import Derived.Test.YtoajkilickakiaaGreatP2
import Derived.Test.YtoajkilickakiaaGreatP3
import Derived.Test.YtoajkilickakiaaGreatP4
import Derived.Test.YtoajkilickakiaaGreatP5
import Derived.Test.YtoajkilickakiaaGreatP6
import Derived.Test.YtoajkilickakiaaGreatP10
import Derived.Test.YtoajkilickakiaaGreatP11
import Derived.Test.YtoajkilickakiaaGreatP12
import Derived.Test.YtoajkilickakiaaGreatP13
import Derived.Test.YtoajkilickakiaaGreatP14
import Derived.Test.YtoajkilickakiaaGreatP15
import Derived.Test.YtoajkilickakiaaGreatP16
set_option linter.unusedSimpArgs false
set_option linter.unusedVariables false
namespace Go.Proofs.X
open Go.RowKit
set_option maxRecDepth 100000
section
variable {P : Program} {w : World} {ts : List Value} {df : List Deferred} {d : Option Nat} {ty : TypeId} {ps : String} {af : Array Edge} {g : Option (Nat × Bool)}
def boolTy (P : Program) (t : TypeId) : Bool := match P.underlying t with | some .bool => true | _ => false
theorem Runs.eqlB {t u : TypeId} {x y : Operand} {a b : Bool} (hx : (Act.mk ts.toArray df).eval x = .bool a) (hy : (Act.mk ts.toArray df).eval y = .bool b) (ht : boolTy P t = true) :
    Runs P (Oper.mk d (.binOp .eql t x y u) ty ps af g) (Act.mk ts.toArray df) w (.bool (a == b)) := by
  have hu : P.underlying t = some .bool := by
    unfold boolTy at ht; split at ht
    · assumption
    · cases ht
  constructor
  simp [execOp, hx, hy, eqGuard, binOp, run_equal_bool w t a b hu]
end
theorem few_bounds {l : List RSet} (h : fewS l = true) : l.length ≤ 25 ∧ (∀ s ∈ l, s.data.length ≤ 12) ∧ (∀ s ∈ l, s.name.length ≤ 300) ∧ ∀ s ∈ l, ∀ d ∈ s.data, d.length ≤ 300 := by
  simp only [fewS, Bool.and_eq_true, decide_eq_true_eq, List.all_eq_true, fewAt] at h
  exact ⟨h.1, fun s hs => (h.2 s hs).1.1, fun s hs => (h.2 s hs).1.2, fun s hs d hd => (h.2 s hs).2 d hd⟩
theorem recs_bound : ∀ {l : List RSet}, (∀ s ∈ l, s.data.length ≤ 12) → (recordsS l).length ≤ 12 * l.length
  | [], _ => by simp [recordsS]
  | s :: l, h => by
    have ih := recs_bound (l := l) fun t ht => h t (List.mem_cons_of_mem _ ht)
    have h1 := h s (by simp)
    have e : recordsS (s :: l) = recsOf s ++ recordsS l := by simp [recordsS]
    rw [e, List.length_append, List.length_cons]
    simp only [recsOf, List.length_map]
    omega
def zS : RSet := ⟨[], 0, 0, []⟩
theorem find_uni {w w' : World} {r : Value} {o : Option RSet} (h : match o with
    | some s => ∃ x, r = .tuple #[.agg #[str s.name, .int .i64 s.kind, .int .i64 s.ttl, x], .bool true] ∧ Own w.heap.size 1 9 w' x (tcells s.data)
    | none => r = .tuple #[.agg zset.toArray, .bool false]) :
    ∃ x, r = .tuple #[.agg #[str (o.getD zS).name, .int .i64 (o.getD zS).kind, .int .i64 (o.getD zS).ttl, x], .bool o.isSome] ∧ Sl 1 w' x (tcells (o.getD zS).data) := by
  cases o with
  | none => exact ⟨.slice none 0 0, h, Sl.nil _ _⟩
  | some s =>
    obtain ⟨x, h1, h2⟩ := h
    exact ⟨x, h1, h2.sl⟩
theorem fewz {o : List UInt8} {l : List RSet} (h : (decide ((o.length : Int) ≤ 300) && fewS l) = true) : l.length ≤ 25 ∧ (∀ s ∈ l, s.data.length ≤ 1000000) ∧ (∀ s ∈ l, ∀ d ∈ s.data, d.length ≤ 4611686018427387904) ∧ o.length ≤ 300 ∧ (∀ s ∈ l, s.data.length ≤ 12) ∧ (∀ s ∈ l, ∀ d ∈ s.data, d.length ≤ 300) := by
  simp only [Bool.and_eq_true, decide_eq_true_eq] at h
  obtain ⟨b1, b2, b3, b4⟩ := few_bounds h.2
  exact ⟨b1, fun s hs => by have := b2 s hs; omega, fun s hs d hd => by have := b4 s hs d hd; omega, by omega, b2, b4⟩
/-! ### bounds of small zones' deltas -/
theorem d_liveV (w : World) : Calls Tryz.prog 20 #[] w (RetV w (.bool true)) := d_live w
theorem fewd {o : List UInt8} {l : List RSet} (h : (decide ((o.length : Int) ≤ 300) && fewS l) = true) : (recordsS l).length ≤ 300 ∧ (∀ s ∈ l, ∀ d ∈ s.data, d.length ≤ 1000000) ∧ ∀ r ∈ recordsS l, r.data.length ≤ 1000000 := by
  obtain ⟨a, _, _, _, b, c⟩ := fewz h
  have := recs_bound b
  have hd : ∀ s ∈ l, ∀ d ∈ s.data, d.length ≤ 1000000 := fun s hs d hd => by have := c s hs d hd; omega
  exact ⟨by omega, hd, recs_data hd⟩
theorem mkD_bounds {oa ob : List UInt8} {la lb : List RSet} (ha : (recordsS la).length ≤ 300) (hb : (recordsS lb).length ≤ 300) (da : ∀ r ∈ recordsS la, r.data.length ≤ 1000000) (db : ∀ r ∈ recordsS lb, r.data.length ≤ 1000000) :
    ((mkD oa la ob lb).gone.length ≤ 300 ∧ (mkD oa la ob lb).new.length ≤ 300) ∧ (∀ q ∈ (mkD oa la ob lb).gone, q.data.length ≤ 1000000) ∧ ∀ q ∈ (mkD oa la ob lb).new, q.data.length ≤ 1000000 := by
  unfold mkD
  split
  · have h1 := less_len (recordsS la) (recordsS lb)
    have h2 := less_len (recordsS lb) (recordsS la)
    exact ⟨⟨by show (lessR _ _).length ≤ _; omega, by show (lessR _ _).length ≤ _; omega⟩, fun q hq => da q (mem_less.1 hq).1, fun q hq => db q (mem_less.1 hq).1⟩
  · simp [zeroD]
theorem comD_bounds {a b : DeltaR} {n : Nat} (h1 : a.gone.length ≤ n) (h2 : a.new.length ≤ n) (h3 : b.gone.length ≤ n) (h4 : b.new.length ≤ n) (d2 : ∀ q ∈ a.new, q.data.length ≤ 1000000) (d4 : ∀ q ∈ b.new, q.data.length ≤ 1000000) :
    ((comD a b).gone.length ≤ n + n ∧ (comD a b).new.length ≤ n + n) ∧ ∀ q ∈ (comD a b).new, q.data.length ≤ 1000000 := by
  unfold comD
  split
  · have e1 := less_len b.gone a.new
    have e2 := less_len a.new b.gone
    have e3 := less_len (comG a b) (comN a b)
    have e4 := less_len (comN a b) (comG a b)
    have lG : (comG a b).length ≤ n + n := by rw [comG, List.length_append]; omega
    have lN : (comN a b).length ≤ n + n := by rw [comN, List.length_append]; omega
    refine ⟨⟨by show (lessR _ _).length ≤ _; omega, by show (lessR _ _).length ≤ _; omega⟩, fun q hq => ?_⟩
    rcases List.mem_append.1 (mem_less.1 hq).1 with h | h
    · exact d2 q (mem_less.1 h).1
    · exact d4 q h
  · simp [zeroD]
/-! ### Make, of the reference -/
set_option maxHeartbeats 6000000 in
/-- lodestarref10.Make -/
theorem r10_Make (oa : List UInt8) (u : Value) (la : List RSet) (ob : List UInt8) (v : Value) (lb : List RSet) (w : World) (hu : SetsAt w u la) (hv : SetsAt w v lb)
    (ba : ∀ s ∈ la, s.data.length ≤ 1000000) (da : ∀ s ∈ la, ∀ d ∈ s.data, d.length ≤ 4611686018427387904) (bb : ∀ s ∈ lb, s.data.length ≤ 1000000) (db : ∀ s ∈ lb, ∀ d ∈ s.data, d.length ≤ 4611686018427387904)
    (h1 : (recordsS la).length ≤ 100000) (h2 : (recordsS lb).length ≤ 100000) : Calls Tryz.prog 22 #[.agg #[str oa, u], .agg #[str ob, v]] w (Ret w (DelU w.heap.size (mkD oa la ob lb) (mkE oa la ob lb))) := by
  go_enter Tryz.func22, Tryz.ntmps22
  repeat' ((fail_if_success (with_reducible refine o_s ?_)); go_step)
  refine wpl_box (vs := [str oa, u]) rfl rfl ?_
  intro p w1 x1 hp
  refine gset ?_
  refine wpl_box (vs := [str ob, v]) rfl rfl ?_
  intro q w2 x2 hq
  refine gset ?_
  refine wpl_allocB (z := zdel) rfl (by decide +kernel) ?_
  intro w3 x3 s3 h3
  refine gset ?_
  have hx3 := (x1.trans x2).trans x3
  have zz := (x1.trans x2).size
  have hp3 := (hp.ext x2).ext x3
  have hq3 := hq.ext x3
  repeat' (first | ((with_reducible refine o_s ?_); (first | (refine o_1 ?_; refine o_2 ?_) | (refine o_g ?_; first | refine o_u ?_ | refine o_k ?_ | refine o_n ?_ | refine o_v ?_ | ((first | refine o_G ?_ ?_ | refine o_N ?_ ?_) <;> intro hc)))) | ((fail_if_success (with_reducible refine o_s ?_)); go_step))
  refine wpl_callV (enters_of Tryz.func68 rfl rfl) rfl rfl (r8_Soa oa u la _ (hu.ext hx3) ba da) ?_; intro w4 x4; refine gset ?_
  have hx4 := hx3.trans x4
  repeat' (first | ((with_reducible refine o_s ?_); (first | (refine o_1 ?_; refine o_2 ?_) | (refine o_g ?_; first | refine o_u ?_ | refine o_k ?_ | refine o_n ?_ | refine o_v ?_ | ((first | refine o_G ?_ ?_ | refine o_N ?_ ?_) <;> intro hc)))) | ((fail_if_success (with_reducible refine o_s ?_)); go_step))
  refine wpl_allocB (z := zeroSoa) rfl (by decide +kernel) ?_
  intro w5 x5 s5 h5
  refine gset ?_
  refine wpl_storeB (v := .agg (soaZ oa la).cells.toArray) rfl rfl rfl h5 (show sizeTy Tryz.prog 103 7 = true by decide +kernel) rfl (soaR_one _) ?_
  intro w6 p6
  have x46 : Ext w4 w6 := x5.move p6.mv (by rintro k ⟨⟩; exact Nat.le_refl _)
  have b6 : w6.heap[w4.heap.size]? = some (.cells (soaZ oa la).cells.toArray 103 (0, 0)) := p6.this
  have x36 := x4.trans x46
  have hx6 := hx3.trans x36
  clear p6 h5 x5
  have h6 := x36.at h3
  have hp6 := hp3.ext x36
  have hq6 := hq3.ext x36
  repeat' (first | ((with_reducible refine o_s ?_); (first | (refine o_1 ?_; refine o_2 ?_) | (refine o_g ?_; first | refine o_u ?_ | refine o_k ?_ | refine o_n ?_ | refine o_v ?_ | ((first | refine o_G ?_ ?_ | refine o_N ?_ ?_) <;> intro hc)))) | ((fail_if_success (with_reducible refine o_s ?_)); go_step))
  · have q0 : ¬ zoneR oa la = 0 := by simpa using (by assumption : (!decide (zoneR oa la = 0)) = true)
    refine wpl_run (v := .agg zdel.toArray) rfl (Runs.build0 (by kernel_rfl)) ?_
    refine gset ?_
    repeat' (first | ((with_reducible refine o_s ?_); (first | (refine o_1 ?_; refine o_2 ?_) | (refine o_g ?_; first | refine o_u ?_ | refine o_k ?_ | refine o_n ?_ | refine o_v ?_ | ((first | refine o_G ?_ ?_ | refine o_N ?_ ?_) <;> intro hc)))) | ((fail_if_success (with_reducible refine o_s ?_)); go_step))
    refine wpl_storeB (v := .agg zdel.toArray) rfl rfl rfl h6 (by decide +kernel) rfl (by decide +kernel) ?_
    intro w7 p7
    have x7 : Ext w w7 := hx6.move p7.mv (by rintro k ⟨⟩; exact zz)
    repeat' (first | ((with_reducible refine o_s ?_); (first | (refine o_1 ?_; refine o_2 ?_) | (refine o_g ?_; first | refine o_u ?_ | refine o_k ?_ | refine o_n ?_ | refine o_v ?_ | ((first | refine o_G ?_ ?_ | refine o_N ?_ ?_) <;> intro hc)))) | ((fail_if_success (with_reducible refine o_s ?_)); go_step))
    refine bodyPost_ret (results_cellT (cs := zdel) rfl rfl p7.this (by decide +kernel)) rfl ⟨_, rfl, x7, ?_⟩
    have he : mkE oa la ob lb = zoneR oa la := by rw [mkE, if_neg q0]
    rw [mkD_bad (by rw [he]; exact q0), he]
    exact DelU.bad rfl
  · have q0 : zoneR oa la = 0 := by simpa using (by assumption : (!decide (zoneR oa la = 0)) = false)
    refine wpl_callV (enters_of Tryz.func68 rfl rfl) rfl rfl (r8_Soa ob v lb _ (hv.ext hx6) bb db) ?_; intro w7 x7; refine gset ?_
    have hx7 := hx6.trans x7
    repeat' (first | ((with_reducible refine o_s ?_); (first | (refine o_1 ?_; refine o_2 ?_) | (refine o_g ?_; first | refine o_u ?_ | refine o_k ?_ | refine o_n ?_ | refine o_v ?_ | ((first | refine o_G ?_ ?_ | refine o_N ?_ ?_) <;> intro hc)))) | ((fail_if_success (with_reducible refine o_s ?_)); go_step))
    refine wpl_allocB (z := zeroSoa) rfl (by decide +kernel) ?_
    intro w8 x8 s8 h8
    refine gset ?_
    refine wpl_storeB (v := .agg (soaZ ob lb).cells.toArray) rfl rfl rfl h8 (show sizeTy Tryz.prog 103 7 = true by decide +kernel) rfl (soaR_one _) ?_
    intro w9 p9
    have x79 : Ext w7 w9 := x8.move p9.mv (by rintro k ⟨⟩; exact Nat.le_refl _)
    have c9 : w9.heap[w7.heap.size]? = some (.cells (soaZ ob lb).cells.toArray 103 (0, 0)) := p9.this
    have x69 := x7.trans x79
    have hx9 := hx6.trans x69
    clear p9 h8 x8
    have h9 := x69.at h6
    have b9 := x69.at b6
    have hp9 := hp6.ext x69
    have hq9 := hq6.ext x69
    repeat' (first | ((with_reducible refine o_s ?_); (first | (refine o_1 ?_; refine o_2 ?_) | (refine o_g ?_; first | refine o_u ?_ | refine o_k ?_ | refine o_n ?_ | refine o_v ?_ | ((first | refine o_G ?_ ?_ | refine o_N ?_ ?_) <;> intro hc)))) | ((fail_if_success (with_reducible refine o_s ?_)); go_step))
    · have q1 : ¬ zoneR ob lb = 0 := by simpa using (by assumption : (!decide (zoneR ob lb = 0)) = true)
      refine wpl_run (v := .agg zdel.toArray) rfl (Runs.build0 (by kernel_rfl)) ?_
      refine gset ?_
      repeat' (first | ((with_reducible refine o_s ?_); (first | (refine o_1 ?_; refine o_2 ?_) | (refine o_g ?_; first | refine o_u ?_ | refine o_k ?_ | refine o_n ?_ | refine o_v ?_ | ((first | refine o_G ?_ ?_ | refine o_N ?_ ?_) <;> intro hc)))) | ((fail_if_success (with_reducible refine o_s ?_)); go_step))
      refine wpl_storeB (v := .agg zdel.toArray) rfl rfl rfl h9 (by decide +kernel) rfl (by decide +kernel) ?_
      intro wz pz
      have xz : Ext w wz := hx9.move pz.mv (by rintro k ⟨⟩; exact zz)
      repeat' (first | ((with_reducible refine o_s ?_); (first | (refine o_1 ?_; refine o_2 ?_) | (refine o_g ?_; first | refine o_u ?_ | refine o_k ?_ | refine o_n ?_ | refine o_v ?_ | ((first | refine o_G ?_ ?_ | refine o_N ?_ ?_) <;> intro hc)))) | ((fail_if_success (with_reducible refine o_s ?_)); go_step))
      refine bodyPost_ret (results_cellT (cs := zdel) rfl rfl pz.this (by decide +kernel)) rfl ⟨_, rfl, xz, ?_⟩
      have he : mkE oa la ob lb = zoneR ob lb := by rw [mkE, if_pos q0, if_neg q1]
      rw [mkD_bad (by rw [he]; exact q1), he]
      exact DelU.bad rfl
    · have q1 : zoneR ob lb = 0 := by simpa using (by assumption : (!decide (zoneR ob lb = 0)) = false)
      · have q2 : ¬ oa = ob := by simpa using (by assumption : (!decide (oa = ob)) = true)
        refine wpl_run (v := .agg zdel.toArray) rfl (Runs.build0 (by kernel_rfl)) ?_
        refine gset ?_
        repeat' (first | ((with_reducible refine o_s ?_); (first | (refine o_1 ?_; refine o_2 ?_) | (refine o_g ?_; first | refine o_u ?_ | refine o_k ?_ | refine o_n ?_ | refine o_v ?_ | ((first | refine o_G ?_ ?_ | refine o_N ?_ ?_) <;> intro hc)))) | ((fail_if_success (with_reducible refine o_s ?_)); go_step))
        refine wpl_storeB (v := .agg zdel.toArray) rfl rfl rfl h9 (by decide +kernel) rfl (by decide +kernel) ?_
        intro wz pz
        have xz : Ext w wz := hx9.move pz.mv (by rintro k ⟨⟩; exact zz)
        repeat' (first | ((with_reducible refine o_s ?_); (first | (refine o_1 ?_; refine o_2 ?_) | (refine o_g ?_; first | refine o_u ?_ | refine o_k ?_ | refine o_n ?_ | refine o_v ?_ | ((first | refine o_G ?_ ?_ | refine o_N ?_ ?_) <;> intro hc)))) | ((fail_if_success (with_reducible refine o_s ?_)); go_step))
        refine bodyPost_ret (results_cellT (cs := zdel) rfl rfl pz.this (by decide +kernel)) rfl ⟨_, rfl, xz, ?_⟩
        have he : mkE oa la ob lb = 1 := by rw [mkE, if_pos q0, if_pos q1, if_neg q2]
        rw [mkD_bad (by rw [he]; decide), he]
        exact DelU.bad rfl
    · have q1 : zoneR ob lb = 0 := by simpa using (by assumption : (!decide (zoneR ob lb = 0)) = false)
      have q2 : oa = ob := by simpa using (by assumption : (!decide (oa = ob)) = false)
      have he : mkE oa la ob lb = 0 := by rw [mkE, if_pos q0, if_pos q1, if_pos q2]
      repeat' (first | ((with_reducible refine o_s ?_); (first | (refine o_1 ?_; refine o_2 ?_) | (refine o_g ?_; first | refine o_u ?_ | refine o_k ?_ | refine o_n ?_ | refine o_v ?_ | ((first | refine o_G ?_ ?_ | refine o_N ?_ ?_) <;> intro hc)))) | ((fail_if_success (with_reducible refine o_s ?_)); go_step))
      refine wpl_callR (enters_of Tryz.func69 rfl rfl) rfl rfl (r7_Records u la _ (hu.ext hx9) (by omega)) ?_
      intro r1 w11 x911 o11
      refine gset ?_
      have hq11 := hq9.ext x911
      repeat' (first | ((with_reducible refine o_s ?_); (first | (refine o_1 ?_; refine o_2 ?_) | (refine o_g ?_; first | refine o_u ?_ | refine o_k ?_ | refine o_n ?_ | refine o_v ?_ | ((first | refine o_G ?_ ?_ | refine o_N ?_ ?_) <;> intro hc)))) | ((fail_if_success (with_reducible refine o_s ?_)); go_step))
      refine wpl_callR (enters_of Tryz.func69 rfl rfl) rfl rfl (r7_Records v lb _ (hv.ext (hx9.trans x911)) (by omega)) ?_
      intro r2 w12 x12 o12
      refine gset ?_
      have x912 := x911.trans x12
      have hx12 := hx9.trans x912
      have h12 := x912.at h9
      have sr1 := (o11.ext x12).sl
      have sr2 := o12.sl
      have pb12 := pts_block (x912.at b9)
      have pc12 := pts_block (x912.at c9)
      repeat' (first | ((with_reducible refine o_s ?_); (first | (refine o_1 ?_; refine o_2 ?_) | (refine o_g ?_; first | refine o_u ?_ | refine o_k ?_ | refine o_n ?_ | refine o_v ?_ | ((first | refine o_G ?_ ?_ | refine o_N ?_ ?_) <;> intro hc)))) | ((fail_if_success (with_reducible refine o_s ?_)); go_step))
      refine wpi_region 11 (Ext w12) (by decide +kernel) ?_
      intro w13 x13 _
      refine ⟨x13, ?_⟩
      ((with_reducible apply wpi_take (i := 0)); (rfl); (rfl); (rfl); (decide +kernel); (decide +kernel); (decide +kernel); (decide +kernel); (rfl); (intro _ _; exact rn); (exact fun _ _ _ h => h); (refine gset ?_)); ((with_reducible apply wpi_take (i := 1)); (rfl); (rfl); (rfl); (decide +kernel); (decide +kernel); (decide +kernel); (decide +kernel); (rfl); (intro _ _; exact rn); (exact fun _ _ _ h => h); (refine gset ?_)); ((with_reducible apply wpi_take (i := 2)); (rfl); (rfl); (rfl); (decide +kernel); (decide +kernel); (decide +kernel); (decide +kernel); (rfl); (intro _ _; exact rn); (exact fun _ _ _ h => h); (refine gset ?_)); ((with_reducible apply wpi_take (i := 3)); (rfl); (rfl); (rfl); (decide +kernel); (decide +kernel); (decide +kernel); (decide +kernel); (rfl); (intro _ _; exact rn); (exact fun _ _ _ h => h); (refine gset ?_)); ((with_reducible apply wpi_take (i := 4)); (rfl); (rfl); (rfl); (decide +kernel); (decide +kernel); (decide +kernel); (decide +kernel); (rfl); (intro _ _; exact rn); (exact fun _ _ _ h => h); (refine gset ?_)); ((with_reducible apply wpi_take (i := 5)); (rfl); (rfl); (rfl); (decide +kernel); (decide +kernel); (decide +kernel); (decide +kernel); (rfl); (intro _ _; exact rn); (exact fun _ _ _ h => h); (refine gset ?_)); ((with_reducible apply wpi_take (i := 7)); (rfl); (rfl); (rfl); (decide +kernel); (decide +kernel); (decide +kernel); (decide +kernel); (rfl); (intro _ _; exact rn); (exact fun _ _ _ h => h); (refine gset ?_)); ((with_reducible apply wpi_take (i := 8)); (rfl); (rfl); (rfl); (decide +kernel); (decide +kernel); (decide +kernel); (decide +kernel); (rfl); (intro _ _; exact rn); (exact fun _ _ _ h => h); (refine gset ?_))
      refine wpi_op (i := 6) (by decide +kernel) rfl rfl ?_
      refine wpl_callR (enters_of Tryz.func70 rfl rfl) rfl rfl (r10_less r1 r2 _ _ _ (sr1.ext x13) (sr2.ext x13) (by omega)) ?_
      intro g w14 x14 og
      refine gset ?_
      have x1214 := x13.trans x14
      refine wph_nil ⟨till_yes x1214, ?_⟩
      refine wpi_op (i := 9) (by decide +kernel) rfl rfl ?_
      refine wpl_callR (enters_of Tryz.func70 rfl rfl) rfl rfl (r10_less r2 r1 _ _ _ (sr2.ext x1214) (sr1.ext x1214) (by omega)) ?_
      intro n w15 x15 on
      refine gset ?_
      have x1215 := x1214.trans x15
      refine wph_nil ⟨till_yes x1215, ?_⟩
      have sg := (og.ext x15).sl
      have sn := on.sl
      refine wpi_take (i := 10) (v := .agg #[.int .i64 (soaZ oa la).serial, .int .i64 (soaZ ob lb).serial, g, n]) rfl rfl rfl (by decide +kernel) (by decide +kernel) (by decide +kernel) (by decide +kernel) rfl (fun w' _ => Runs.build rfl (by obtain ⟨_, _, _, rfl⟩ := sg.slf; obtain ⟨_, _, _, rfl⟩ := sn.slf; kernel_rfl)) (fun _ _ _ h => h) ?_
      refine gset ?_
      refine wpi_op (i := 11) (by decide +kernel) rfl rfl ?_
      have h15 := x1215.at h12
      refine wpl_storeB (v := .agg #[.int .i64 (soaZ oa la).serial, .int .i64 (soaZ ob lb).serial, g, n]) rfl rfl rfl h15 (show sizeTy Tryz.prog 34 4 = true by decide +kernel) rfl (all4 rfl rfl sg.one sn.one) ?_
      intro w16 p16
      refine wph_nil ⟨till_no rfl, ?_⟩
      ((with_reducible apply wpi_pure (i := 12)); (rfl); (rfl); (rfl); (decide +kernel); (decide +kernel); (decide +kernel); (rfl); (intro _; exact rn); (exact fun _ _ _ h => h); (refine gset ?_))
      refine wpi_done (by decide +kernel) ?_
      have x16 : Ext w w16 := (hx12.trans x1215).move p16.mv (by rintro k ⟨⟩; exact zz)
      repeat' (first | ((with_reducible refine o_s ?_); (first | (refine o_1 ?_; refine o_2 ?_) | (refine o_g ?_; first | refine o_u ?_ | refine o_k ?_ | refine o_n ?_ | refine o_v ?_ | ((first | refine o_G ?_ ?_ | refine o_N ?_ ?_) <;> intro hc)))) | ((fail_if_success (with_reducible refine o_s ?_)); go_step))
      refine bodyPost_ret (results_cellT (cs := [.int .i64 (soaZ oa la).serial, .int .i64 (soaZ ob lb).serial, g, n]) rfl rfl p16.this (show aggTy Tryz.prog 34 4 = true by decide +kernel)) rfl ⟨_, rfl, x16, ?_⟩
      have hd : mkD oa la ob lb = ⟨(soaZ oa la).serial, (soaZ ob lb).serial, lessR (recordsS la) (recordsS lb), lessR (recordsS lb) (recordsS la)⟩ := by rw [mkD, if_pos he]
      rw [hd, he]
      exact ⟨_, rfl, g, n, rfl, (og.ext x15).mv p16.mv (.inr ((og.ext x15).neBlock h15 (by decide))) |>.weaken (hx12.trans x13).size, on.mv p16.mv (.inr (on.neBlock h15 (by decide))) |>.weaken (hx12.trans x1214).size⟩
theorem same_delT {d : DeltaR} {r q : Value} (w : World) (h : DelA d r w) (k : DelA d q w) : Calls Tryz.prog 23 #[r, q] w (RetV w (.bool true)) := by
  have := r10_Same w h k
  rw [decide_eq_true rfl] at this
  exact this
set_option maxHeartbeats 6000000 in
/-- lodestarlaw10.DiffMakes -/
theorem d3 (oa : List UInt8) (u : Value) (la : List RSet) (ob : List UInt8) (v : Value) (lb : List RSet) (w : World) (hu : SetsAt w u la) (hv : SetsAt w v lb) : Calls Tryz.prog 3 #[.agg #[str oa, u], .agg #[str ob, v]] w (Yes w) := by
  go_enter Tryz.func3, Tryz.ntmps3
  repeat' ((fail_if_success (with_reducible refine o_s ?_)); go_step)
  refine wpl_box (vs := [str oa, u]) rfl rfl ?_
  intro p w1 x1 hp
  refine gset ?_
  refine wpl_box (vs := [str ob, v]) rfl rfl ?_
  intro q w2 x2 hq
  refine gset ?_
  have hx2 := x1.trans x2
  have hp2 := hp.ext x2
  repeat' (first | ((with_reducible refine o_s ?_); (first | (refine o_1 ?_; refine o_2 ?_) | (refine o_g ?_; first | refine o_u ?_ | refine o_k ?_ | refine o_n ?_ | refine o_v ?_ | ((first | refine o_G ?_ ?_ | refine o_N ?_ ?_) <;> intro hc)))) | ((fail_if_success (with_reducible refine o_s ?_)); go_step))
  refine wpl_callV (enters_of Tryz.func19 rfl rfl) rfl rfl (l10_few oa ob u v la lb _ (hu.ext hx2) (hv.ext hx2)) ?_; intro w4 x4; refine gset ?_
  have hx5 := hx2.trans x4
  have hp5 := hp2.ext x4
  have hq5 := hq.ext x4
  cases hf : ((decide ((oa.length : Int) ≤ 300) && fewS la) && (decide ((ob.length : Int) ≤ 300) && fewS lb)) with
  | false =>
    repeat' (first | ((with_reducible refine o_s ?_); (first | (refine o_1 ?_; refine o_2 ?_) | (refine o_g ?_; first | refine o_u ?_ | refine o_k ?_ | refine o_n ?_ | refine o_v ?_ | ((first | refine o_G ?_ ?_ | refine o_N ?_ ?_) <;> intro hc)))) | ((fail_if_success (with_reducible refine o_s ?_)); go_step))
    refine wpl_callV (enters_of Tryz.func20 rfl rfl) rfl rfl (d_liveV _) ?_; intro w5 x5; refine gset ?_
    repeat' (first | ((with_reducible refine o_s ?_); (first | (refine o_1 ?_; refine o_2 ?_) | (refine o_g ?_; first | refine o_u ?_ | refine o_k ?_ | refine o_n ?_ | refine o_v ?_ | ((first | refine o_G ?_ ?_ | refine o_N ?_ ?_) <;> intro hc)))) | ((fail_if_success (with_reducible refine o_s ?_)); go_step))
    go_ret
    exact ⟨rfl, hx5.trans x5⟩
  | true =>
    obtain ⟨fa, fb⟩ := Bool.and_eq_true_iff.1 hf
    obtain ⟨_, ba, da, _⟩ := fewz fa
    obtain ⟨_, bb, db, _⟩ := fewz fb
    obtain ⟨ra, ea, ga⟩ := fewd fa
    obtain ⟨rb, eb, gb⟩ := fewd fb
    obtain ⟨⟨m1, m2⟩, m3, m4⟩ := mkD_bounds (oa := oa) (ob := ob) ra rb ga gb
    repeat' (first | ((with_reducible refine o_s ?_); (first | (refine o_1 ?_; refine o_2 ?_) | (refine o_g ?_; first | refine o_u ?_ | refine o_k ?_ | refine o_n ?_ | refine o_v ?_ | ((first | refine o_G ?_ ?_ | refine o_N ?_ ?_) <;> intro hc)))) | ((fail_if_success (with_reducible refine o_s ?_)); go_step))
    refine wpl_callR (enters_of Tryz.func21 rfl rfl) rfl rfl (p_Make oa u la ob v lb _ (hu.ext hx5) (hv.ext hx5) ba da bb db (by omega) (by omega)) ?_
    rintro _ w6 x6 ⟨_, rfl, g, n, rfl, og, on⟩
    have sg := og.sl
    have sn := on.sl
    refine gset ?_
    repeat' (first | ((with_reducible refine o_s ?_); (first | (refine o_1 ?_; refine o_2 ?_) | (refine o_g ?_; first | refine o_u ?_ | refine o_k ?_ | refine o_n ?_ | refine o_v ?_ | ((first | refine o_G ?_ ?_ | refine o_N ?_ ?_) <;> intro hc)))) | ((fail_if_success (with_reducible refine o_s ?_)); go_step))
    refine wpl_allocB (z := zdel) rfl (by decide +kernel) ?_
    intro w7 x7 s7 h7
    refine gset ?_
    generalize hmd : mkD oa la ob lb = dd at *
    refine wpl_storeB (v := .agg #[.int .i64 dd.fr, .int .i64 dd.to, g, n]) rfl rfl rfl h7 (show sizeTy Tryz.prog 30 4 = true by decide +kernel) rfl (all4 rfl rfl sg.one sn.one) ?_
    intro w8 p8
    have x8 : Ext w6 w8 := x7.move p8.mv (by rintro k ⟨⟩; exact Nat.le_refl _)
    have hd8 := pts_block (cs := [.int .i64 dd.fr, .int .i64 dd.to, g, n]) p8.this
    have x58 := x6.trans x8
    have hp8 := hp5.ext x58
    have hq8 := hq5.ext x58
    have hx8 := hx5.trans x58
    have sg8 := sg.ext x8
    have sn8 := sn.ext x8
    have hD8 : DelA dd (.agg #[.int .i64 dd.fr, .int .i64 dd.to, g, n]) w8 := ⟨g, n, rfl, sg8, sn8⟩
    clear p8 h7 x7
    repeat' (first | ((with_reducible refine o_s ?_); (first | (refine o_1 ?_; refine o_2 ?_) | (refine o_g ?_; first | refine o_u ?_ | refine o_k ?_ | refine o_n ?_ | refine o_v ?_ | ((first | refine o_G ?_ ?_ | refine o_N ?_ ?_) <;> intro hc)))) | ((fail_if_success (with_reducible refine o_s ?_)); go_step))
    refine wpl_callR (enters_of Tryz.func22 rfl rfl) rfl rfl (r10_Make oa u la ob v lb _ (hu.ext hx8) (hv.ext hx8) ba da bb db (by omega) (by omega)) ?_
    rintro _ w9 x9 ⟨_, rfl, g', n', rfl, og', on'⟩
    rw [hmd] at og' on' ⊢
    have sg' := og'.sl
    have sn' := on'.sl
    refine gset ?_
    repeat' (first | ((with_reducible refine o_s ?_); (first | (refine o_1 ?_; refine o_2 ?_) | (refine o_g ?_; first | refine o_u ?_ | refine o_k ?_ | refine o_n ?_ | refine o_v ?_ | ((first | refine o_G ?_ ?_ | refine o_N ?_ ?_) <;> intro hc)))) | ((fail_if_success (with_reducible refine o_s ?_)); go_step))
    refine wpl_allocB (z := zdel) rfl (by decide +kernel) ?_
    intro w10 x10 s10 h10
    refine gset ?_
    refine wpl_storeB (v := .agg #[.int .i64 dd.fr, .int .i64 dd.to, g', n']) rfl rfl rfl h10 (show sizeTy Tryz.prog 34 4 = true by decide +kernel) rfl (all4 rfl rfl sg'.one sn'.one) ?_
    intro w11 p11
    have x11 : Ext w9 w11 := x10.move p11.mv (by rintro k ⟨⟩; exact Nat.le_refl _)
    have he11 := pts_block (cs := [.int .i64 dd.fr, .int .i64 dd.to, g', n']) p11.this
    have x811 := x9.trans x11
    have hd11 := hd8.ext x811
    have hx11 := hx8.trans x811
    have hD11 := hD8.ext x811
    have sg11 := sg8.ext x811
    have sn11 := sn8.ext x811
    have sg'11 := sg'.ext x11
    have sn'11 := sn'.ext x11
    have hE11 : DelA dd (.agg #[.int .i64 dd.fr, .int .i64 dd.to, g', n']) w11 := ⟨g', n', rfl, sg'11, sn'11⟩
    clear p11 h10 x10
    repeat' (first | ((with_reducible refine o_s ?_); (first | (refine o_1 ?_; refine o_2 ?_) | (refine o_g ?_; first | refine o_u ?_ | refine o_k ?_ | refine o_n ?_ | refine o_v ?_ | ((first | refine o_G ?_ ?_ | refine o_N ?_ ?_) <;> intro hc)))) | ((fail_if_success (with_reducible refine o_s ?_)); go_step))
    refine wpq_region (by decide +kernel) (by decide +kernel) ?_
    repeat' (first | ((with_reducible refine q_s ?_); (first | (refine q_1 ?_; refine q_2 ?_) | (refine q_g ?_; first | refine q_u ?_ | refine q_k ?_ | refine q_v ?_))) | (with_reducible refine q_n ?_))
    refine wpq_call (enters_of Tryz.func24 rfl rfl) rfl rfl (fun w' x' => l10_Told w' (hD11.ext x')) ?_
    refine gset ?_
    repeat' (first | ((with_reducible refine q_s ?_); (first | (refine q_1 ?_; refine q_2 ?_) | (refine q_g ?_; first | refine q_u ?_ | refine q_k ?_ | refine q_v ?_))) | (with_reducible refine q_n ?_))
    refine wpq_call (enters_of Tryz.func23 rfl rfl) rfl rfl (fun w' x' => same_delT w' (hD11.ext x') (hE11.ext x')) ?_
    refine gset ?_
    repeat' (first | ((with_reducible refine q_s ?_); (first | (refine q_1 ?_; refine q_2 ?_) | (refine q_g ?_; first | refine q_u ?_ | refine q_k ?_ | refine q_v ?_))) | (with_reducible refine q_n ?_))
    refine wpq_call (enters_of Tryz.func20 rfl rfl) rfl rfl (fun w' x' => d_liveV w') ?_
    refine gset ?_
    repeat' (first | ((with_reducible refine q_s ?_); (first | (refine q_1 ?_; refine q_2 ?_) | (refine q_g ?_; first | refine q_u ?_ | refine q_k ?_ | refine q_v ?_))) | (with_reducible refine q_n ?_))
    intro w12 x12
    repeat' (first | ((with_reducible refine o_s ?_); (first | (refine o_1 ?_; refine o_2 ?_) | (refine o_g ?_; first | refine o_u ?_ | refine o_k ?_ | refine o_n ?_ | refine o_v ?_ | ((first | refine o_G ?_ ?_ | refine o_N ?_ ?_) <;> intro hc)))) | ((fail_if_success (with_reducible refine o_s ?_)); go_step))
    go_ret
    exact ⟨rfl, hx11.trans x12⟩
theorem self_ok (o : List UInt8) (l : List RSet) : mkE o l o l = zoneR o l ∧ ∃ n : Int, mkD o l o l = ⟨n, n, [], []⟩ := by
  have he : mkE o l o l = zoneR o l := by
    unfold mkE
    by_cases q : zoneR o l = 0
    · rw [if_pos q, if_pos q, if_pos rfl, q]
    · rw [if_neg q]
  refine ⟨he, ?_⟩
  unfold mkD
  split
  · exact ⟨_, by rw [less_self]⟩
  · exact ⟨0, rfl⟩
theorem shortD {l : List Rec} (h : shortR l = true) : l.length ≤ 25 ∧ ∀ r ∈ l, r.data.length ≤ 300 := by
  simp only [shortR, Bool.and_eq_true, decide_eq_true_eq, List.all_eq_true] at h
  refine ⟨h.1, fun r hr => ?_⟩
  have := h.2 r hr
  simp only [shortAt, Bool.and_eq_true, decide_eq_true_eq] at this
  omega
set_option maxHeartbeats 6000000 in
/-- lodestarlaw10.DiffSelf -/
theorem d8 (o : List UInt8) (v : Value) (l : List RSet) {d : DeltaR} {r : Value} (w : World) (hv : SetsAt w v l) (hd : DelA d r w) : Calls Tryz.prog 8 #[.agg #[str o, v], r] w (Yes w) := by
  obtain ⟨g, n, rfl, sg, sn⟩ := hd
  go_enter Tryz.func8, Tryz.ntmps8
  repeat' ((fail_if_success (with_reducible refine o_s ?_)); go_step)
  refine wpl_box (vs := [str o, v]) rfl rfl ?_
  intro p w1 x1 hp
  refine gset ?_
  refine wpl_box (vs := [.int .i64 d.fr, .int .i64 d.to, g, n]) rfl rfl ?_
  intro q w2 x2 hq
  refine gset ?_
  have hx2 := x1.trans x2
  have hp2 := hp.ext x2
  have sg2 := sg.ext hx2
  have sn2 := sn.ext hx2
  have hD2 : DelA d (.agg #[.int .i64 d.fr, .int .i64 d.to, g, n]) w2 := ⟨g, n, rfl, sg2, sn2⟩
  repeat' (first | ((with_reducible refine o_s ?_); (first | (refine o_1 ?_; refine o_2 ?_) | (refine o_g ?_; first | refine o_u ?_ | refine o_k ?_ | refine o_n ?_ | refine o_v ?_ | ((first | refine o_G ?_ ?_ | refine o_N ?_ ?_) <;> intro hc)))) | ((fail_if_success (with_reducible refine o_s ?_)); go_step))
  refine wpl_callV (enters_of Tryz.func25 rfl rfl) rfl rfl (r8_Few o v l _ (hv.ext hx2)) ?_; intro w3 x3; refine gset ?_
  have hx3 := hx2.trans x3
  have hp3 := hp2.ext x3
  have hq3 := hq.ext x3
  have sg3 := sg2.ext x3
  have sn3 := sn2.ext x3
  have hD3 := hD2.ext x3
  cases hf : (decide ((o.length : Int) ≤ 300) && fewS l) with
  | false =>
    repeat' (first | ((with_reducible refine o_s ?_); (first | (refine o_1 ?_; refine o_2 ?_) | (refine o_g ?_; first | refine o_u ?_ | refine o_k ?_ | refine o_n ?_ | refine o_v ?_ | ((first | refine o_G ?_ ?_ | refine o_N ?_ ?_) <;> intro hc)))) | ((fail_if_success (with_reducible refine o_s ?_)); go_step))
    refine wpl_callV (enters_of Tryz.func20 rfl rfl) rfl rfl (d_liveV _) ?_; intro w4 x4; refine gset ?_
    repeat' (first | ((with_reducible refine o_s ?_); (first | (refine o_1 ?_; refine o_2 ?_) | (refine o_g ?_; first | refine o_u ?_ | refine o_k ?_ | refine o_n ?_ | refine o_v ?_ | ((first | refine o_G ?_ ?_ | refine o_N ?_ ?_) <;> intro hc)))) | ((fail_if_success (with_reducible refine o_s ?_)); go_step))
    go_ret
    exact ⟨rfl, hx3.trans x4⟩
  | true =>
    repeat' (first | ((with_reducible refine o_s ?_); (first | (refine o_1 ?_; refine o_2 ?_) | (refine o_g ?_; first | refine o_u ?_ | refine o_k ?_ | refine o_n ?_ | refine o_v ?_ | ((first | refine o_G ?_ ?_ | refine o_N ?_ ?_) <;> intro hc)))) | ((fail_if_success (with_reducible refine o_s ?_)); go_step))
    refine wpl_callV (enters_of Tryz.func26 rfl rfl) rfl rfl (l10_short _ hD3) ?_; intro w4 x4; refine gset ?_
    have hx4 := hx3.trans x4
    have hp4 := hp3.ext x4
    have hq4 := hq3.ext x4
    have hD4 := hD3.ext x4
    have sg4 := sg3.ext x4
    have sn4 := sn3.ext x4
    cases hs : (shortR d.gone && shortR d.new) with
    | false =>
      repeat' (first | ((with_reducible refine o_s ?_); (first | (refine o_1 ?_; refine o_2 ?_) | (refine o_g ?_; first | refine o_u ?_ | refine o_k ?_ | refine o_n ?_ | refine o_v ?_ | ((first | refine o_G ?_ ?_ | refine o_N ?_ ?_) <;> intro hc)))) | ((fail_if_success (with_reducible refine o_s ?_)); go_step))
      refine wpl_callV (enters_of Tryz.func20 rfl rfl) rfl rfl (d_liveV _) ?_; intro w5 x5; refine gset ?_
      repeat' (first | ((with_reducible refine o_s ?_); (first | (refine o_1 ?_; refine o_2 ?_) | (refine o_g ?_; first | refine o_u ?_ | refine o_k ?_ | refine o_n ?_ | refine o_v ?_ | ((first | refine o_G ?_ ?_ | refine o_N ?_ ?_) <;> intro hc)))) | ((fail_if_success (with_reducible refine o_s ?_)); go_step))
      go_ret
      exact ⟨rfl, hx4.trans x5⟩
    | true =>
      obtain ⟨_, ba, da, _⟩ := fewz hf
      obtain ⟨ra, ea, ga⟩ := fewd hf
      obtain ⟨hs1, hs2⟩ := Bool.and_eq_true_iff.1 hs
      obtain ⟨l1, _⟩ := shortD hs1
      obtain ⟨l2, _⟩ := shortD hs2
      obtain ⟨e1, k, e2⟩ := self_ok o l
      repeat' (first | ((with_reducible refine o_s ?_); (first | (refine o_1 ?_; refine o_2 ?_) | (refine o_g ?_; first | refine o_u ?_ | refine o_k ?_ | refine o_n ?_ | refine o_v ?_ | ((first | refine o_G ?_ ?_ | refine o_N ?_ ?_) <;> intro hc)))) | ((fail_if_success (with_reducible refine o_s ?_)); go_step))
      refine wpl_callR (enters_of Tryz.func21 rfl rfl) rfl rfl (p_Make o v l o v l _ (hv.ext hx4) (hv.ext hx4) ba da ba da (by omega) (by omega)) ?_
      rintro _ w6 x6 ⟨_, rfl, g', n', rfl, og, on⟩
      rw [e1, e2]
      rw [e2] at og on
      have sg' := og.sl
      have sn' := on.sl
      rw [show rcells ([] : List Rec) = [] from rfl] at sg' sn'
      refine gset ?_
      repeat' (first | ((with_reducible refine o_s ?_); (first | (refine o_1 ?_; refine o_2 ?_) | (refine o_g ?_; first | refine o_u ?_ | refine o_k ?_ | refine o_n ?_ | refine o_v ?_ | ((first | refine o_G ?_ ?_ | refine o_N ?_ ?_) <;> intro hc)))) | ((fail_if_success (with_reducible refine o_s ?_)); go_step))
      refine wpl_allocB (z := zdel) rfl (by decide +kernel) ?_
      intro w7 x7 s7 h7
      refine gset ?_
      refine wpl_storeB (v := .agg #[.int .i64 k, .int .i64 k, g', n']) rfl rfl rfl h7 (show sizeTy Tryz.prog 30 4 = true by decide +kernel) rfl (all4 rfl rfl sg'.one sn'.one) ?_
      intro w8 p8
      have x8 : Ext w6 w8 := x7.move p8.mv (by rintro k ⟨⟩; exact Nat.le_refl _)
      have hd8 := pts_block (cs := [.int .i64 k, .int .i64 k, g', n']) p8.this
      have x48 := x6.trans x8
      have hx8 := hx4.trans x48
      have hp8 := hp4.ext x48
      have hq8 := hq4.ext x48
      have hD8 := hD4.ext x48
      have sg8 := sg4.ext x48
      have sn8 := sn4.ext x48
      have sg'8 := sg'.ext x8
      have sn'8 := sn'.ext x8
      clear p8 h7 x7
      repeat' (first | ((with_reducible refine o_s ?_); (first | (refine o_1 ?_; refine o_2 ?_) | (refine o_g ?_; first | refine o_u ?_ | refine o_k ?_ | refine o_n ?_ | refine o_v ?_ | ((first | refine o_G ?_ ?_ | refine o_N ?_ ?_) <;> intro hc)))) | ((fail_if_success (with_reducible refine o_s ?_)); go_step))
      · refine wpl_callV (enters_of Tryz.func37 rfl rfl) rfl rfl (p_Check o v l _ (hv.ext hx8) ba) ?_; intro w9 x9; refine gset ?_
        have hx9 := hx8.trans x9
        have hq9 := hq8.ext x9
        have hD9 := hD8.ext x9
        have sg9 := sg8.ext x9
        have sn9 := sn8.ext x9
        repeat' (first | ((with_reducible refine o_s ?_); (first | (refine o_1 ?_; refine o_2 ?_) | (refine o_g ?_; first | refine o_u ?_ | refine o_k ?_ | refine o_n ?_ | refine o_v ?_ | ((first | refine o_G ?_ ?_ | refine o_N ?_ ?_) <;> intro hc)))) | ((fail_if_success (with_reducible refine o_s ?_)); go_step))
        refine wph_region (S := fun w' => Ext w9 w') (by decide +kernel) ?_
        intro w10 x10 hh10
        refine tk 0 ?_; refine gset ?_; refine tk 5 ?_; refine gset ?_
        refine wph_one (i := 1) (by decide +kernel) rfl rfl ?_
        refine wpl_callV (enters_of Tryz.func29 rfl rfl) rfl rfl (l10_Delta _ (hD9.ext x10)) ?_; intro w11 x11; refine gset ?_
        have y11 := x10.trans x11
        refine wph_nil ⟨y11, ?_⟩
        refine wph_one (i := 2) (by decide +kernel) rfl rfl ?_
        refine wpl_callR (enters_of Tryz.func35 rfl rfl) rfl rfl (p_Invert _ (hD9.ext y11) (by omega) (by omega)) ?_
        intro u12 w12 x12 o12
        refine gset ?_
        have y12 := y11.trans x12
        refine wph_nil ⟨y12, ?_⟩
        refine wph_one (i := 3) (by decide +kernel) rfl rfl ?_
        refine wpl_callR (enters_of Tryz.func35 rfl rfl) rfl rfl (p_Invert _ o12.a (show d.new.length ≤ 100000 by omega) (show d.gone.length ≤ 100000 by omega)) ?_
        intro u13 w13 x13 o13
        refine gset ?_
        have y13 := y12.trans x13
        refine wph_nil ⟨y13, ?_⟩
        refine wph_one (i := 4) (by decide +kernel) rfl rfl ?_
        refine wpl_callV (enters_of Tryz.func24 rfl rfl) rfl rfl (l10_Told _ o13.a) ?_; intro w14 x14; refine gset ?_
        have y14 := y13.trans x14
        refine wph_nil ⟨y14, ?_⟩
        refine wph_one (i := 6) (by decide +kernel) rfl rfl ?_
        refine wpl_callV (enters_of Tryz.func23 rfl rfl) rfl rfl (same_delT (d := d) _ (o13.a.ext x14) (hD9.ext y14)) ?_; intro w15 x15; refine gset ?_
        have y15 := y14.trans x15
        refine wph_nil ⟨y15, ?_⟩
        refine tk 7 ?_; refine gset ?_
        refine wph_one (i := 8) (by decide +kernel) rfl rfl ?_
        refine wpl_callV (enters_of Tryz.func20 rfl rfl) rfl rfl (d_liveV _) ?_; intro w16 x16; refine gset ?_
        have y16 := y15.trans x16
        refine wph_nil ⟨y16, ?_⟩
        refine tk 9 ?_; refine gset ?_; refine tk 10 ?_; refine gset ?_
        refine wph_done (by decide +kernel) ?_
        repeat' (first | ((with_reducible refine o_s ?_); (first | (refine o_1 ?_; refine o_2 ?_) | (refine o_g ?_; first | refine o_u ?_ | refine o_k ?_ | refine o_n ?_ | refine o_v ?_ | ((first | refine o_G ?_ ?_ | refine o_N ?_ ?_) <;> intro hc)))) | ((fail_if_success (with_reducible refine o_s ?_)); go_step))
        go_ret
        exact ⟨rfl, hx9.trans y16⟩
      · exact absurd hc (by decide)
      · exact absurd hc (by decide)
set_option maxHeartbeats 6000000 in
/-- lodestarlaw10.DiffApplies -/
theorem d4 (o : List UInt8) (v : Value) (l : List RSet) {d : DeltaR} {r : Value} (w : World) (hv : SetsAt w v l) (hd : DelA d r w) : Calls Tryz.prog 4 #[.agg #[str o, v], r] w (Yes w) := by
  obtain ⟨g, n, rfl, sg, sn⟩ := hd
  go_enter Tryz.func4, Tryz.ntmps4
  repeat' ((fail_if_success (with_reducible refine o_s ?_)); go_step)
  refine wpl_box (vs := [str o, v]) rfl rfl ?_
  intro p w1 x1 hp
  refine gset ?_
  refine wpl_box (vs := [.int .i64 d.fr, .int .i64 d.to, g, n]) rfl rfl ?_
  intro q w2 x2 hq
  refine gset ?_
  have hx2 := x1.trans x2
  have hp2 := hp.ext x2
  have sg2 := sg.ext hx2
  have sn2 := sn.ext hx2
  have hD2 : DelA d (.agg #[.int .i64 d.fr, .int .i64 d.to, g, n]) w2 := ⟨g, n, rfl, sg2, sn2⟩
  repeat' (first | ((with_reducible refine o_s ?_); (first | (refine o_1 ?_; refine o_2 ?_) | (refine o_g ?_; first | refine o_u ?_ | refine o_k ?_ | refine o_n ?_ | refine o_v ?_ | ((first | refine o_G ?_ ?_ | refine o_N ?_ ?_) <;> intro hc)))) | ((fail_if_success (with_reducible refine o_s ?_)); go_step))
  refine wpl_callV (enters_of Tryz.func25 rfl rfl) rfl rfl (r8_Few o v l _ (hv.ext hx2)) ?_; intro w3 x3; refine gset ?_
  have hx3 := hx2.trans x3
  have hp3 := hp2.ext x3
  have hq3 := hq.ext x3
  have sg3 := sg2.ext x3
  have sn3 := sn2.ext x3
  have hD3 := hD2.ext x3
  cases hf : (decide ((o.length : Int) ≤ 300) && fewS l) with
  | false =>
    repeat' (first | ((with_reducible refine o_s ?_); (first | (refine o_1 ?_; refine o_2 ?_) | (refine o_g ?_; first | refine o_u ?_ | refine o_k ?_ | refine o_n ?_ | refine o_v ?_ | ((first | refine o_G ?_ ?_ | refine o_N ?_ ?_) <;> intro hc)))) | ((fail_if_success (with_reducible refine o_s ?_)); go_step))
    refine wpl_callV (enters_of Tryz.func20 rfl rfl) rfl rfl (d_liveV _) ?_; intro w4 x4; refine gset ?_
    repeat' (first | ((with_reducible refine o_s ?_); (first | (refine o_1 ?_; refine o_2 ?_) | (refine o_g ?_; first | refine o_u ?_ | refine o_k ?_ | refine o_n ?_ | refine o_v ?_ | ((first | refine o_G ?_ ?_ | refine o_N ?_ ?_) <;> intro hc)))) | ((fail_if_success (with_reducible refine o_s ?_)); go_step))
    go_ret
    exact ⟨rfl, hx3.trans x4⟩
  | true =>
    repeat' (first | ((with_reducible refine o_s ?_); (first | (refine o_1 ?_; refine o_2 ?_) | (refine o_g ?_; first | refine o_u ?_ | refine o_k ?_ | refine o_n ?_ | refine o_v ?_ | ((first | refine o_G ?_ ?_ | refine o_N ?_ ?_) <;> intro hc)))) | ((fail_if_success (with_reducible refine o_s ?_)); go_step))
    refine wpl_callV (enters_of Tryz.func26 rfl rfl) rfl rfl (l10_short _ hD3) ?_; intro w4 x4; refine gset ?_
    have hx4 := hx3.trans x4
    have hp4 := hp3.ext x4
    have hq4 := hq3.ext x4
    have hD4 := hD3.ext x4
    have sg4 := sg3.ext x4
    have sn4 := sn3.ext x4
    cases hs : (shortR d.gone && shortR d.new) with
    | false =>
      repeat' (first | ((with_reducible refine o_s ?_); (first | (refine o_1 ?_; refine o_2 ?_) | (refine o_g ?_; first | refine o_u ?_ | refine o_k ?_ | refine o_n ?_ | refine o_v ?_ | ((first | refine o_G ?_ ?_ | refine o_N ?_ ?_) <;> intro hc)))) | ((fail_if_success (with_reducible refine o_s ?_)); go_step))
      refine wpl_callV (enters_of Tryz.func20 rfl rfl) rfl rfl (d_liveV _) ?_; intro w5 x5; refine gset ?_
      repeat' (first | ((with_reducible refine o_s ?_); (first | (refine o_1 ?_; refine o_2 ?_) | (refine o_g ?_; first | refine o_u ?_ | refine o_k ?_ | refine o_n ?_ | refine o_v ?_ | ((first | refine o_G ?_ ?_ | refine o_N ?_ ?_) <;> intro hc)))) | ((fail_if_success (with_reducible refine o_s ?_)); go_step))
      go_ret
      exact ⟨rfl, hx4.trans x5⟩
    | true =>
      obtain ⟨_, ba, da, _⟩ := fewz hf
      obtain ⟨ra, ea, ga⟩ := fewd hf
      obtain ⟨hs1, hs2⟩ := Bool.and_eq_true_iff.1 hs
      obtain ⟨l1, _⟩ := shortD hs1
      obtain ⟨l2, q2⟩ := shortD hs2
      have q3 : ∀ q ∈ d.new, q.data.length ≤ 1000000 := fun q hq => by have := q2 q hq; omega
      obtain ⟨b25, _⟩ := fewz hf
      repeat' (first | ((with_reducible refine o_s ?_); (first | (refine o_1 ?_; refine o_2 ?_) | (refine o_g ?_; first | refine o_u ?_ | refine o_k ?_ | refine o_n ?_ | refine o_v ?_ | ((first | refine o_G ?_ ?_ | refine o_N ?_ ?_) <;> intro hc)))) | ((fail_if_success (with_reducible refine o_s ?_)); go_step))
      refine wpl_callR (enters_of Tryz.func27 rfl rfl) rfl rfl (r8_Copy o v l _ (hv.ext hx4) (by omega) ba) ?_
      rintro _ w6 x6 ⟨yc, rfl, hyc⟩
      have hyc := (hyc.toO (Nat.le_refl _)).sets
      have hyc1 : yc.oneCell' = true := by obtain ⟨css, h, _⟩ := hyc; exact h.one
      refine gset ?_
      refine wpl_allocB (z := zzone) rfl (by decide +kernel) ?_
      intro w7 x7 s7 h7
      refine gset ?_
      refine wpl_storeB (v := .agg #[str o, yc]) rfl rfl rfl h7 (show sizeTy Tryz.prog 25 2 = true by decide +kernel) rfl (zone_one hyc1) ?_
      intro w8 p8
      have x8 : Ext w6 w8 := x7.move p8.mv (by rintro k ⟨⟩; exact Nat.le_refl _)
      have ho8 := pts_block (cs := [str o, yc]) p8.this
      have x48 := x6.trans x8
      have hx8 := hx4.trans x48
      have hp8 := hp4.ext x48
      have hq8 := hq4.ext x48
      have hD8 := hD4.ext x48
      have sg8 := sg4.ext x48
      have sn8 := sn4.ext x48
      have hc8 := hyc.ext x8
      clear p8 h7 x7
      repeat' (first | ((with_reducible refine o_s ?_); (first | (refine o_1 ?_; refine o_2 ?_) | (refine o_g ?_; first | refine o_u ?_ | refine o_k ?_ | refine o_n ?_ | refine o_v ?_ | ((first | refine o_G ?_ ?_ | refine o_N ?_ ?_) <;> intro hc)))) | ((fail_if_success (with_reducible refine o_s ?_)); go_step))
      refine wph_region (S := fun w' => Ext w8 w') (by decide +kernel) ?_
      intro w21 x21 hh21
      refine tk 0 ?_; refine gset ?_; refine tk 1 ?_; refine gset ?_
      apply meet3 (F := fun (y : Value) (b : Nat) w' => Ext w8 w' ∧ Pts w' (.pointer (some ⟨b, 0, none⟩)) [str (appO o l d), y] ∧ SetsAt w' y (appL o l d))
      · intro hG
        refine wph_two (i := 2) (j := 7) (by decide +kernel) rfl rfl rfl ?_ ?_
        · refine wpl_callV (enters_of Tryz.func29 rfl rfl) rfl rfl (l10_Delta _ (hD8.ext x21)) ?_
          intro wC xC
          refine gset ?_
          have x1 := x21.trans xC
          refine wph_nil ⟨x1, ?_⟩
          refine wph_two (i := 3) (j := 7) (by decide +kernel) rfl rfl rfl ?_ ?_
          · refine wpl_callR (enters_of Tryz.func28 rfl rfl) rfl rfl (p_Apply o yc l (d := d) _ (hc8.ext x1) (hD8.ext x1) ba ea (by omega) (by omega) q3) ?_
            rintro _ wD xD ⟨y4, rfl, hy4⟩
            have hy41 : y4.oneCell' = true := by obtain ⟨css, h, _⟩ := hy4.sets; exact h.one
            refine gset ?_
            have x2 := x1.trans xD
            refine wph_nil ⟨x2, ?_⟩
            refine tk 4 ?_; refine gset ?_; refine tk 5 ?_; refine gset ?_; refine tk 6 ?_; refine gset ?_
            refine wph_one (i := 7) (by decide +kernel) rfl rfl ?_
            refine wpl_allocB (z := zzone) rfl (by decide +kernel) ?_
            intro wE xE sE hE
            refine gset ?_
            have x3 := x2.trans xE
            refine wph_nil ⟨x3, ?_⟩
            refine wph_one (i := 8) (by decide +kernel) rfl rfl ?_
            refine wpl_storeB (v := .agg #[str (appO o l d), y4]) rfl rfl rfl hE (show sizeTy Tryz.prog 25 2 = true by decide +kernel) rfl (zone_one hy41) ?_
            intro wF pF
            have xF : Ext wD wF := xE.move pF.mv (by rintro k ⟨⟩; exact Nat.le_refl _)
            have hF := pts_block (cs := [str (appO o l d), y4]) pF.this
            refine wph_nil ⟨x2.trans xF, ?_⟩
            refine tk 9 ?_; refine gset ?_
            have x4 := x2.trans xF
            clear pF hE xE sE
            generalize wD.heap.size = b at *
            exact hG y4 b _ ⟨x4, hF, hy4.sets.ext xF⟩
          · refine wpl_allocB (z := zzone) rfl (by decide +kernel) ?_
            intro wD xD sD hD
            refine gset ?_
            have x2 := x1.trans xD
            refine wph_nil ⟨x2, ?_⟩
            refine wph_one (i := 3) (by decide +kernel) rfl rfl ?_
            refine wpl_callR (enters_of Tryz.func28 rfl rfl) rfl rfl (p_Apply o yc l (d := d) _ (hc8.ext x2) (hD8.ext x2) ba ea (by omega) (by omega) q3) ?_
            rintro _ wE xE ⟨y4, rfl, hy4⟩
            have hy41 : y4.oneCell' = true := by obtain ⟨css, h, _⟩ := hy4.sets; exact h.one
            refine gset ?_
            have x3 := x2.trans xE
            refine wph_nil ⟨x3, ?_⟩
            refine tk 4 ?_; refine gset ?_; refine tk 5 ?_; refine gset ?_; refine tk 6 ?_; refine gset ?_
            have hb := x1.size
            have hE := xE.at hD
            have hlt : wC.heap.size < wD.heap.size := by omega
            refine wph_one (i := 8) (by decide +kernel) rfl rfl ?_
            refine wpl_storeB (v := .agg #[str (appO o l d), y4]) rfl rfl rfl hE (show sizeTy Tryz.prog 25 2 = true by decide +kernel) rfl (zone_one hy41) ?_
            intro wF pF
            have xF : Ext w8 wF := x3.move pF.mv (by rintro k ⟨⟩; exact hb)
            have hF := pts_block (cs := [str (appO o l d), y4]) pF.this
            refine wph_nil ⟨xF, ?_⟩
            refine tk 9 ?_; refine gset ?_
            have hfin := (hy4.put pF hlt).sets
            clear pF hE hD sD
            generalize wC.heap.size = b at *
            exact hG y4 b _ ⟨xF, hF, hfin⟩
        · refine wpl_allocB (z := zzone) rfl (by decide +kernel) ?_
          intro wC xC sC hC
          refine gset ?_
          have x1 := x21.trans xC
          refine wph_nil ⟨x1, ?_⟩
          refine wph_one (i := 2) (by decide +kernel) rfl rfl ?_
          refine wpl_callV (enters_of Tryz.func29 rfl rfl) rfl rfl (l10_Delta _ (hD8.ext x1)) ?_
          intro wD xD
          refine gset ?_
          have x2 := x1.trans xD
          refine wph_nil ⟨x2, ?_⟩
          refine wph_one (i := 3) (by decide +kernel) rfl rfl ?_
          refine wpl_callR (enters_of Tryz.func28 rfl rfl) rfl rfl (p_Apply o yc l (d := d) _ (hc8.ext x2) (hD8.ext x2) ba ea (by omega) (by omega) q3) ?_
          rintro _ wE xE ⟨y4, rfl, hy4⟩
          have hy41 : y4.oneCell' = true := by obtain ⟨css, h, _⟩ := hy4.sets; exact h.one
          refine gset ?_
          have x3 := x2.trans xE
          refine wph_nil ⟨x3, ?_⟩
          refine tk 4 ?_; refine gset ?_; refine tk 5 ?_; refine gset ?_; refine tk 6 ?_; refine gset ?_
          have hb := x21.size
          have hE := xE.at (xD.at hC)
          have hlt : w21.heap.size < wD.heap.size := by have := xD.size; omega
          refine wph_one (i := 8) (by decide +kernel) rfl rfl ?_
          refine wpl_storeB (v := .agg #[str (appO o l d), y4]) rfl rfl rfl hE (show sizeTy Tryz.prog 25 2 = true by decide +kernel) rfl (zone_one hy41) ?_
          intro wF pF
          have xF : Ext w8 wF := x3.move pF.mv (by rintro k ⟨⟩; exact hb)
          have hF := pts_block (cs := [str (appO o l d), y4]) pF.this
          refine wph_nil ⟨xF, ?_⟩
          refine tk 9 ?_; refine gset ?_
          have hfin := (hy4.put pF hlt).sets
          clear pF hE hC sC
          generalize w21.heap.size = b at *
          exact hG y4 b _ ⟨xF, hF, hfin⟩
      · rintro y4 b w20 ⟨x820, hf20, hy420⟩
        refine wph_done (by decide +kernel) ?_
        have hx20 := hx8.trans x820
        have hp20 := hp8.ext x820
        have hq20 := hq8.ext x820
        have ho20 := ho8.ext x820
        have sg20 := sg8.ext x820
        have sn20 := sn8.ext x820
        repeat' (first | ((with_reducible refine o_s ?_); (first | (refine o_1 ?_; refine o_2 ?_) | (refine o_g ?_; first | refine o_u ?_ | refine o_k ?_ | refine o_n ?_ | refine o_v ?_ | ((first | refine o_G ?_ ?_ | refine o_N ?_ ?_) <;> intro hc)))) | ((fail_if_success (with_reducible refine o_s ?_)); go_step))
        refine wpl_callR (enters_of Tryz.func30 rfl rfl) rfl rfl (r10_Apply o v l (d := d) _ (hv.ext hx20) (hD8.ext x820) ba ea (by omega) (by omega) q3) ?_
        rintro _ w21 x21 ⟨y5, rfl, hy5⟩
        have hy5 := hy5.sets
        have hy51 : y5.oneCell' = true := by obtain ⟨css, h, _⟩ := hy5; exact h.one
        refine gset ?_
        repeat' (first | ((with_reducible refine o_s ?_); (first | (refine o_1 ?_; refine o_2 ?_) | (refine o_g ?_; first | refine o_u ?_ | refine o_k ?_ | refine o_n ?_ | refine o_v ?_ | ((first | refine o_G ?_ ?_ | refine o_N ?_ ?_) <;> intro hc)))) | ((fail_if_success (with_reducible refine o_s ?_)); go_step))
        refine wpl_allocB (z := zzone) rfl (by decide +kernel) ?_
        intro w22 x22 s22 h22
        refine gset ?_
        refine wpl_storeB (v := .agg #[str (appO o l d), y5]) rfl rfl rfl h22 (show sizeTy Tryz.prog 25 2 = true by decide +kernel) rfl (zone_one hy51) ?_
        intro w23 p23
        have x23 : Ext w21 w23 := x22.move p23.mv (by rintro k ⟨⟩; exact Nat.le_refl _)
        have hg23 := pts_block (cs := [str (appO o l d), y5]) p23.this
        have x2023 := x21.trans x23
        have hf23 := hf20.ext x2023
        have hp23 := hp20.ext x2023
        have ho23 := ho20.ext x2023
        have hx23 := hx20.trans x2023
        have hy523 := hy5.ext x23
        have hy423 := hy420.ext x2023
        have hc23 := hc8.ext (x820.trans x2023)
        clear p23 h22 x22
        repeat' (first | ((with_reducible refine o_s ?_); (first | (refine o_1 ?_; refine o_2 ?_) | (refine o_g ?_; first | refine o_u ?_ | refine o_k ?_ | refine o_n ?_ | refine o_v ?_ | ((first | refine o_G ?_ ?_ | refine o_N ?_ ?_) <;> intro hc)))) | ((fail_if_success (with_reducible refine o_s ?_)); go_step))
        refine wpl_callV (enters_of Tryz.func31 rfl rfl) rfl rfl (same_true hy423 hy523 rfl rfl) ?_; intro w24 x24; refine gset ?_
        have hp24 := hp23.ext x24
        have ho24 := ho23.ext x24
        repeat' (first | ((with_reducible refine o_s ?_); (first | (refine o_1 ?_; refine o_2 ?_) | (refine o_g ?_; first | refine o_u ?_ | refine o_k ?_ | refine o_n ?_ | refine o_v ?_ | ((first | refine o_G ?_ ?_ | refine o_N ?_ ?_) <;> intro hc)))) | ((fail_if_success (with_reducible refine o_s ?_)); go_step))
        refine wpl_callV (enters_of Tryz.func31 rfl rfl) rfl rfl (same_true (hc23.ext x24) (hv.ext (hx23.trans x24)) rfl rfl) ?_; intro w25 x25; refine gset ?_
        repeat' (first | ((with_reducible refine o_s ?_); (first | (refine o_1 ?_; refine o_2 ?_) | (refine o_g ?_; first | refine o_u ?_ | refine o_k ?_ | refine o_n ?_ | refine o_v ?_ | ((first | refine o_G ?_ ?_ | refine o_N ?_ ?_) <;> intro hc)))) | ((fail_if_success (with_reducible refine o_s ?_)); go_step))
        refine wpl_callV (enters_of Tryz.func20 rfl rfl) rfl rfl (d_liveV _) ?_; intro w26 x26; refine gset ?_
        repeat' (first | ((with_reducible refine o_s ?_); (first | (refine o_1 ?_; refine o_2 ?_) | (refine o_g ?_; first | refine o_u ?_ | refine o_k ?_ | refine o_n ?_ | refine o_v ?_ | ((first | refine o_G ?_ ?_ | refine o_N ?_ ?_) <;> intro hc)))) | ((fail_if_success (with_reducible refine o_s ?_)); go_step))
        go_ret
        exact ⟨rfl, ((hx23.trans x24).trans x25).trans x26⟩
open Go.ChangeShapes Go.WideShapes Go.ChangeAt Go.RowKit
theorem own : ownKnob Tryz.prog.godebug = none := by kernel_rfl
theorem laidOut : laidOutB Tryz.prog = true := by kernel_rfl
/-- a slice of records that came in -/
theorem open_recs {H : Type} {enc : TypeId × Value → H} {w : World} {base : Nat} {spare : Nat → Bool} {held : Bool} {fuel : Nat} {v : Value} {x : DataW H × List MemPlace} (h : DataW.trod enc Tryz.prog w base spare held fuel 28 [v] = some x) : ∃ l : List Rec, Sl 4 w v (rcells l) := by
  obtain ⟨es, hs, he⟩ := open_rows Tryz.underlying28 (show Tryz.prog.cellsOf 75 = 4 by kernel_rfl) (by omega) h
  obtain ⟨l, rfl⟩ : ∃ l : List Rec, es = l.map Rec.cells := by
    refine all_map fun c hc => ?_
    obtain ⟨n, y, hy⟩ := he c hc
    obtain ⟨xs, n', _, _, hl, hxl, hf⟩ := DataW.trod_struct Tryz.underlying75 hy
    have c30 : Tryz.prog.cellsOf 22 = 1 := by kernel_rfl
    have c3 : Tryz.prog.cellsOf 3 = 1 := by kernel_rfl
    have c9 : Tryz.prog.cellsOf 9 = 1 := by kernel_rfl
    have c32 : Tryz.prog.cellsOf 75 = 4 := by kernel_rfl
    rw [c32] at hl
    match c, hl, xs, hxl with
    | [a, b, d, e], _, [y0, y1, y2, y3], _ =>
      have g0 := hf 0 _ rfl
      have g1 := hf 1 _ rfl
      have g2 := hf 2 _ rfl
      have g3 := hf 3 _ rfl
      simp [c30, c3, c9] at g0 g1 g2 g3
      obtain ⟨s0, rfl, _⟩ := trod_str Tryz.underlying22 g0
      obtain ⟨n1, rfl, _⟩ := trod_num Tryz.underlying3 g1
      obtain ⟨n2, rfl, _⟩ := trod_num Tryz.underlying3 g2
      obtain ⟨s3, rfl, _⟩ := trod_str Tryz.underlying9 g3
      exact ⟨⟨s0, n1, n2, s3⟩, rfl⟩
  exact ⟨l, hs⟩
open Go.ChangeShapes Go.WideShapes Go.ChangeAt Go.RowKit
/-- a slice of texts that came in -/
theorem open_texts {H : Type} {enc : TypeId × Value → H} {w : World} {base : Nat} {spare : Nat → Bool} {held : Bool} {fuel : Nat} {v : Value} {x : DataW H × List MemPlace} (h : DataW.trod enc Tryz.prog w base spare held fuel 53 [v] = some x) : ∃ l : List (List UInt8), Sl 1 w v (tcells l) := by
  obtain ⟨es, hs, he⟩ := open_rows Tryz.underlying53 (show Tryz.prog.cellsOf 9 = 1 by kernel_rfl) (by omega) h
  obtain ⟨l, rfl⟩ : ∃ l : List (List UInt8), es = l.map fun s => [str s] := by
    refine all_map fun c hc => ?_
    obtain ⟨n, y, hy⟩ := he c hc
    have hl : c.length = 1 := by
      obtain ⟨_, _, _, _, _, h4, _, _⟩ := hs
      exact h4 c hc
    match c, hl with
    | [a], _ =>
      obtain ⟨s, rfl, _⟩ := trod_str Tryz.underlying9 hy
      exact ⟨s, rfl⟩
  exact ⟨l, hs⟩
/-- a slice of sets that came in -/
theorem open_sets {H : Type} {enc : TypeId × Value → H} {w : World} {base : Nat} {spare : Nat → Bool} {held : Bool} {fuel : Nat} {v : Value} {x : DataW H × List MemPlace} (h : DataW.trod enc Tryz.prog w base spare held fuel 23 [v] = some x) : ∃ l : List RSet, SetsAt w v l := by
  obtain ⟨es, hs, he⟩ := open_rows Tryz.underlying23 (show Tryz.prog.cellsOf 55 = 4 by kernel_rfl) (by omega) h
  obtain ⟨l, rfl⟩ : ∃ l : List {p : RSet × Value // Sl 1 w p.2 (tcells p.1.data)}, es = l.map fun p => [str p.1.1.name, .int .i64 p.1.1.kind, .int .i64 p.1.1.ttl, p.1.2] := by
    refine all_map fun c hc => ?_
    obtain ⟨n, y, hy⟩ := he c hc
    obtain ⟨xs, n', _, _, hl, hxl, hf⟩ := DataW.trod_struct Tryz.underlying55 hy
    have c30 : Tryz.prog.cellsOf 22 = 1 := by kernel_rfl
    have c3 : Tryz.prog.cellsOf 3 = 1 := by kernel_rfl
    have c35 : Tryz.prog.cellsOf 53 = 1 := by kernel_rfl
    have c37 : Tryz.prog.cellsOf 55 = 4 := by kernel_rfl
    rw [c37] at hl
    match c, hl, xs, hxl with
    | [a, b, d, e], _, [y0, y1, y2, y3], _ =>
      have g0 := hf 0 _ rfl
      have g1 := hf 1 _ rfl
      have g2 := hf 2 _ rfl
      have g3 := hf 3 _ rfl
      simp [c30, c3, c35] at g0 g1 g2 g3
      obtain ⟨s0, rfl, _⟩ := trod_str Tryz.underlying22 g0
      obtain ⟨n1, rfl, _⟩ := trod_num Tryz.underlying3 g1
      obtain ⟨n2, rfl, _⟩ := trod_num Tryz.underlying3 g2
      obtain ⟨ts, hts⟩ := open_texts g3
      exact ⟨⟨(⟨s0, n1, n2, ts⟩, e), hts⟩, rfl⟩
  refine ⟨l.map fun p => p.1.1, _, hs, by simp, ?_⟩
  intro i s hi
  rw [List.getElem?_map] at hi
  obtain ⟨p, hp, rfl⟩ := Option.map_eq_some_iff.1 hi
  exact ⟨p.1.2, by rw [List.getElem?_map, hp]; rfl, p.2⟩
open Go.ChangeShapes Go.WideShapes Go.ChangeAt Go.RowKit
/-- a zone that came in -/
theorem open_zone {H : Type} {enc : TypeId × Value → H} {w : World} {base : Nat} {spare : Nat → Bool} {held : Bool} {fuel : Nat} {c : Array Value} {x : DataW H × List MemPlace} (h : DataW.trod enc Tryz.prog w base spare held fuel 25 (Value.agg c).cells.toList = some x) : ∃ (o : List UInt8) (l : List RSet) (u : Value), c = #[str o, u] ∧ SetsAt w u l := by
  have e : (Value.agg c).cells.toList = c.toList := rfl
  rw [e] at h
  obtain ⟨xs, n', _, _, hl, hxl, hf⟩ := DataW.trod_struct Tryz.underlying25 h
  have c30 : Tryz.prog.cellsOf 22 = 1 := by kernel_rfl
  have c25 : Tryz.prog.cellsOf 23 = 1 := by kernel_rfl
  have c43 : Tryz.prog.cellsOf 25 = 2 := by kernel_rfl
  rw [c43] at hl
  obtain ⟨cl⟩ := c
  match cl, hl, xs, hxl with
  | [a, b], _, [y0, y1], _ =>
    have g0 := hf 0 _ rfl
    have g1 := hf 1 _ rfl
    simp [c30, c25] at g0 g1
    obtain ⟨s0, rfl, _⟩ := trod_str Tryz.underlying22 g0
    obtain ⟨l, hls⟩ := open_sets g1
    exact ⟨s0, l, b, rfl, hls⟩
open Go.ChangeShapes Go.WideShapes Go.ChangeAt Go.RowKit
/-- a delta that came in -/
theorem open_delta {H : Type} {enc : TypeId × Value → H} {w : World} {base : Nat} {spare : Nat → Bool} {held : Bool} {fuel : Nat} {c : Array Value} {x : DataW H × List MemPlace} (h : DataW.trod enc Tryz.prog w base spare held fuel 34 (Value.agg c).cells.toList = some x) : ∃ d : DeltaR, DelA d (.agg c) w := by
  have e : (Value.agg c).cells.toList = c.toList := rfl
  rw [e] at h
  obtain ⟨xs, n', _, _, hl, hxl, hf⟩ := DataW.trod_struct Tryz.underlying34 h
  have c3 : Tryz.prog.cellsOf 3 = 1 := by kernel_rfl
  have c28 : Tryz.prog.cellsOf 28 = 1 := by kernel_rfl
  have c34 : Tryz.prog.cellsOf 34 = 4 := by kernel_rfl
  rw [c34] at hl
  obtain ⟨cl⟩ := c
  match cl, hl, xs, hxl with
  | [a, b, d, e], _, [y0, y1, y2, y3], _ =>
    have g0 := hf 0 _ rfl
    have g1 := hf 1 _ rfl
    have g2 := hf 2 _ rfl
    have g3 := hf 3 _ rfl
    simp [c3, c28] at g0 g1 g2 g3
    obtain ⟨n0, rfl, _⟩ := trod_num Tryz.underlying3 g0
    obtain ⟨n1, rfl, _⟩ := trod_num Tryz.underlying3 g1
    obtain ⟨l2, h2⟩ := open_recs g2
    obtain ⟨l3, h3⟩ := open_recs g3
    exact ⟨⟨n0, n1, l2, l3⟩, d, e, rfl, h2, h3⟩
open Go.ChangeShapes Go.WideShapes Go.ChangeAt Go.RowKit
set_option maxRecDepth 100000 in
theorem diffApplies_lifted (os : Os) (started : os.Started) (H : Type) (enc : TypeId × Value → H) :
    ReturnsInHanded {} Tryz.checked os 4 .any (YtoajkilickakiaaGreat.Rows.diffAppliesSpec.pre6 enc Tryz.prog Tryz.f4 YtoajkilickakiaaGreat.Rows.diffAppliesRow.domain false) (YtoajkilickakiaaGreat.Rows.diffAppliesSpec.post enc Tryz.prog Tryz.f4 false true false false) := by
  refine returnsInHanded_of_change (C := Tryz.checked) own started (by kernel_rfl) Tryz.func4
    (ChangeSpec.witness6 (enc := enc) (C := Tryz.checked) false ⟨#[], #[.agg #[str [], .slice none 0 0], .agg #[.int .i64 0, .int .i64 0, .slice none 0 0, .slice none 0 0]], []⟩ 8 (by kernel_rfl) (by kernel_rfl) (by kernel_rfl) (by kernel_rfl)) ?_
  intro W base args ds gs before hval0 hW hcnd _
  have hW' := hW
  obtain ⟨p, q, hA0, hV, rfl, hfz, hnd⟩ := hW
  have hA : DataW.TrodAll enc Tryz.prog W 0 (fun _ => true) true Tryz.f4.params.toList args.toList ds p := hA0
  have hval : ∀ (j : Nat) t v, Tryz.f4.params[j]? = some t → args[j]? = some v → Value.okWide Tryz.prog W .any base t v := hval0
  rw [Tryz.params4] at hA hval
  obtain ⟨v0, vs0, d0, ds0, p0, q0, hargs, rfl, rfl, h0, r0⟩ := trodAll_cons hA
  obtain ⟨v1, vs1, d1, ds1, p1, q1, rfl, rfl, rfl, h1, r1⟩ := trodAll_cons r0
  obtain ⟨rfl, rfl, rfl⟩ := trodAll_nil r1
  obtain rfl : args = #[v0, v1] := by cases args; simp_all
  obtain ⟨rfl, rfl⟩ := trodVars_none hV
  have k0 := h0
  have k1 := h1
  have lt0 : ∀ x ∈ p0, x.block < W.heap.size := by obtain ⟨m, hm⟩ := k0; exact DataW.trod_lt m _ _ _ hm
  have lt1 : ∀ x ∈ p1, x.block < W.heap.size := by obtain ⟨m, hm⟩ := k1; exact DataW.trod_lt m _ _ _ hm
  obtain ⟨c0, rfl, z0⟩ := okWide_struct Tryz.underlying25 (hval 0 25 v0 rfl rfl)
  obtain ⟨o0, l0, w0, e0, g0⟩ : ∃ (o : List UInt8) (l : List RSet) (u : Value), c0 = #[str o, u] ∧ SetsAt W u l := by
    obtain ⟨fuel, hf⟩ := h0
    exact open_zone hf
  subst e0
  obtain ⟨c1, rfl, z1⟩ := okWide_struct Tryz.underlying34 (hval 1 34 v1 rfl rfl)
  obtain ⟨d1', g1⟩ : ∃ d : DeltaR, DelA d (.agg c1) W := by
    obtain ⟨fuel, hf⟩ := h1
    exact open_delta hf
  clear hA0 hval0
  have h9 := d4 o0 w0 l0 W g0 g1
  refine h9.mono fun e W' ⟨he, hx⟩ => ?_
  subst he
  have bel := hx.below
  exact ⟨_, rfl, _, _, _, [], _, [], hW', trodAll_mk1 (shut_bool Tryz.underlying4 _), (trodAll_cons_mk (Below.trod laidOut (by kernel_rfl) (of_decide_eq_true (by kernel_rfl)) k0 bel lt0) (trodAll_cons_mk (Below.trod laidOut (by kernel_rfl) (of_decide_eq_true (by kernel_rfl)) k1 bel lt1) trodAll_mk0)), rfl, bel.frame _, fun h => by cases h⟩
theorem e_enter : Tryz.checked.prog.mayEnter = true := by kernel_rfl
theorem e_lift : (YtoajkilickakiaaGreat.Rows.diffAppliesRow.lifted == Tryz.checked.prog.liftsFinal) = true := by kernel_rfl
theorem e_make : (Tryz.checked.prog.make == some YtoajkilickakiaaGreat.Rows.diffAppliesRow.make) = true := by kernel_rfl
theorem diffApplies_closed : joinedFacts Tryz.checked.prog 4 Tryz.f4 YtoajkilickakiaaGreat.Rows.diffAppliesSpec YtoajkilickakiaaGreat.Rows.diffAppliesRow = true := by
  unfold joinedFacts
  simp only [Bool.and_eq_true]
  repeat' (refine And.intro ?_ ?_)
  all_goals first | (with_reducible exact e_enter) | (with_reducible exact e_lift) | (with_reducible exact e_make) | kernel_rfl
theorem diffApplies_holds : YtoajkilickakiaaGreat.Rows.DiffAppliesSaid :=
  OpenClaim.holds_of_wide 4 Tryz.f4 rfl rfl rfl rfl rfl rfl rfl ⟨rfl, rfl, rfl, rfl, rfl⟩ rfl rfl rfl rfl rfl (by kernel_rfl) Tryz.func4 diffApplies_closed
    (of_decide_eq_true (by kernel_rfl)) (by unfold Func.isWrapper; first | (rw [if_pos (by decide +kernel)]; kernel_rfl) | (rw [if_neg (by decide +kernel)]; exact ⟨rfl, rfl⟩))
    (fun os started H enc _ => diffApplies_lifted os started H enc)
end Go.Proofs.X
