/- Laws and walks that the proof of the statement is made of (part 18). -/
import Derived.Test.YtedoaagdhcimiaaGreatProg
import Derived.OrdersIn
import Derived.LoopIn
import Derived.Test.YtedoaagdhcimiaaGreatShelf
import Derived.Shelf.RegionOpenPlain
import Derived.Lib.Strings
import Derived.Lib.Slices
import Derived.Lib.Walk
import Derived.Lib.Builder
import Derived.Lib.AppendStr
import Derived.Lib.UnsafeStr
import Derived.Lib.MakeNoZero
import Derived.WalkKit
import Derived.Laws.Externs
import Derived.Laws.IdiomCopy
import Derived.Laws.BitsLemmas
import GoSem.Claims
import Derived.Shelf.SlSortCmp.NoneTotal
import Derived.OwnWalk
import Derived.Laws.Pointers
import Derived.WalkMore
import Derived.ScopeJumps
import Derived.Lib.Hide
import Derived.Test.YtedoaagdhcimiaaGreatRows
import Derived.ProofKit
import Derived.OpenShut
import Derived.ShutString
import Derived.ChangeOld
import Derived.Below
import Derived.Test.YtedoaagdhcimiaaGreatP1
import Derived.Test.YtedoaagdhcimiaaGreatP2
import Derived.Test.YtedoaagdhcimiaaGreatP3
import Derived.Test.YtedoaagdhcimiaaGreatP4
import Derived.Test.YtedoaagdhcimiaaGreatP9
import Derived.Test.YtedoaagdhcimiaaGreatP10
import Derived.Test.YtedoaagdhcimiaaGreatP11
import Derived.Test.YtedoaagdhcimiaaGreatP12
import Derived.Test.YtedoaagdhcimiaaGreatP14
import Derived.Test.YtedoaagdhcimiaaGreatP15
import Derived.Test.YtedoaagdhcimiaaGreatP16
import Derived.Test.YtedoaagdhcimiaaGreatP17
set_option linter.unusedSimpArgs false
set_option linter.unusedVariables false
namespace Go.Proofs.X
open Go.RowKit
set_option maxRecDepth 100000
section
variable {P : Program} {a : Act} {w : World} {d : Option Nat} {ty : TypeId} {ps : String} {af : Array Edge} {g : Option (Nat × Bool)}
theorem Runs.neqSame {t u : TypeId} {x y : Operand} {k : IntKind} {n : Int} (hx : a.eval x = .int k n) (hy : a.eval y = .int k n) : Runs P (Oper.mk d (.binOp .neq t x y u) ty ps af g) a w (.bool false) := by
 have h := Runs.neq (P := P) (a := a) (w := w) (d := d) (ty := ty) (ps := ps) (af := af) (g := g) (t := t) (u := u) hx hy
 rwa [decide_eq_true rfl] at h
end
section
variable {P : Program} {ts : List Value} {df : List Deferred} {w : World} {d : Option Nat} {ty : TypeId} {ps : String} {af : Array Edge} {g : Option (Nat × Bool)}
theorem Runs.neqBSame {t u : TypeId} {x y : Operand} {b : Bool} (hx : (Act.mk ts.toArray df).eval x = .bool b) (hy : (Act.mk ts.toArray df).eval y = .bool b) (ht : boolTy P t = true) : Runs P (Oper.mk d (.binOp .neq t x y u) ty ps af g) (Act.mk ts.toArray df) w (.bool false) := by
 have h := Runs.neqB2 (P := P) (ts := ts) (df := df) (w := w) (d := d) (ty := ty) (ps := ps) (af := af) (g := g) (t := t) (u := u) hx hy ht
 rwa [show (b != b) = false by cases b <;> rfl] at h
end
set_option maxHeartbeats 8000000 in
theorem l17_Scripts (og : List UInt8) (retry : Int) (v : Value) (ps : List OpR) (w : World) (hv : OpsAt w v ps) : Calls Tryz.prog 5 #[str og, .int .i64 retry, v] w (Yes w) := by
 obtain ⟨cs0, sl0, cl0, at0⟩ := hv.out
 go_enter Tryz.func5, Tryz.ntmps5
 by_cases hlen : (og.length : Int) > 300
 ·(repeat' first | ((with_reducible refine nx0 ?_); go_step) | ((with_reducible refine o_s ?_); first | refine wk1 ?_ | (refine wg0 ?_ ?_ <;> intro hc)) | fail)
  all_goals first
   | (exfalso; omega)
   | skip
  refine wpl_callV (enters_of Tryz.func15 rfl rfl) rfl rfl (l17_liveV _) ?_; intro w10 x10; refine gset ?_
  (repeat' first | ((with_reducible refine nx0 ?_); go_step) | ((with_reducible refine o_s ?_); first | refine wk1 ?_ | (refine wg0 ?_ ?_ <;> intro hc)) | fail)
  go_ret
  exact ⟨rfl, x10⟩
 ·(repeat' first | ((with_reducible refine nx0 ?_); go_step) | ((with_reducible refine o_s ?_); first | refine wk1 ?_ | (refine wg0 ?_ ?_ <;> intro hc)) | fail)
  all_goals first
   | (exfalso; omega)
   | skip
  refine wpl_callR (enters_of Tryz.func16 rfl rfl) rfl rfl (p_SecNew og retry _) ?_
  rintro _ w1 x1 ⟨pz, rfl, hp⟩
  unfold secPE at hp
  refine gset ?_
  (repeat' first | ((with_reducible refine nx0 ?_); go_step) | ((with_reducible refine o_s ?_); first | refine wk1 ?_ | (refine wg0 ?_ ?_ <;> intro hc)) | fail)
  refine wpl_callR (enters_of Tryz.func26 rfl rfl) rfl rfl (r17_New og retry _) ?_
  rintro _ w2 x2 ⟨kz, rfl, hk⟩
  unfold kecPE at hk
  refine gset ?_
  by_cases hE : secE og retry = 0
  ·rw [if_pos hE] at hp hk
   obtain ⟨b, rfl, hb, hB, hA⟩ := hp
   obtain ⟨c, rfl, hc, hC, hK⟩ := hk
   (repeat' first | ((with_reducible refine nx0 ?_); go_step) | ((with_reducible refine o_s ?_); first | refine wk1 ?_ | (refine wg0 ?_ ?_ <;> intro hc)) | fail)
   refine wpl_run0 (v := .bool false) (Runs.neqB2 (a := false) (b := false) rfl rfl (by decide +kernel)) ?_
   refine gset ?_
   (repeat' first | ((with_reducible refine nx0 ?_); go_step) | ((with_reducible refine o_s ?_); first | refine wk1 ?_ | (refine wg0 ?_ ?_ <;> intro hc)) | fail)
   obtain ⟨B2, hB2⟩ : ∃ B2, B2 = w2.heap.size := ⟨_, rfl⟩
   have hA2 : SAt B2 w2 b (secNew og retry) := by
    obtain ⟨_, pz, h2, h3, h4⟩ := hA
    have := x2.size
    exact ⟨by omega, pz, x2.at h2, h3, fun o l e => by cases e⟩
   rw [← hB2] at hK
   have hx2 := x1.trans x2
   have hbc : b ≠ c := by omega
   have hC2 : w.heap.size ≤ c := by have := x1.size; omega
   have hBs : B2 ≤ w2.heap.size := by omega
   clear x1 x2 hA hC hb hc hB2
   go_loopw [11] (fun i wr => ∃ (k : Nat) (s : SecR), k ≤ ps.length ∧ i = .int .i64 k ∧ Ext w wr ∧ SAt B2 wr b s ∧ KSt B2 wr c s ∧ SecOk s ∧ B2 ≤ wr.heap.size) (fun i _ => ps.length - (intOf i).toNat)
   case atStart => exact ⟨0, secNew og retry, Nat.zero_le _, rfl, hx2, hA2, hK, SecOk.new hE, hBs⟩
   case round =>
    obtain ⟨k, s, hk, rfl, hx, hS, hT, hsk, hBr⟩ := hrel
    have hbB : b < B2 := hS.lt
    have hcB : c < B2 := hT.lt
    by_cases hlt : k < ps.length
    ·obtain ⟨u, hcs, hu⟩ := at0 k _ (List.getElem?_eq_getElem hlt)
     have hpe := (sl0.ext hx).elem hcs
     have hkc : k < cs0.length := by omega
     have hur := hu.ext hx
     generalize ps[k] = p at *
     have hu1 := hur.one
     by_cases h25 : (k : Int) < 25
     ·obtain ⟨op, n, now, l⟩ := p
      simp only at hpe hur
      (repeat' first | ((with_reducible refine nx0 ?_); go_step) | ((with_reducible refine o_s ?_); first | refine wk1 ?_ | (refine wg0 ?_ ?_ <;> intro hc)) | fail)
      all_goals first
       | (exfalso; omega)
       | skip
      refine wpl_allocB (z := [.int .i64 0, .int .i64 0, .int .i64 0, .slice none 0 0]) rfl (by decide +kernel) ?_
      intro w3 x3 s3 h3
      refine gset ?_
      refine wpl_storeB (v := .agg #[.int .i64 op, .int .i64 n, .int .i64 now, u]) rfl rfl rfl h3 (show sizeTy Tryz.prog 48 4 = true by decide +kernel) rfl (all4 rfl rfl rfl hu1) ?_
      intro w4 p4
      have x4 : Ext wr w4 := x3.move p4.mv (by rintro k ⟨⟩; exact Nat.le_refl _)
      have hk4 : w4.heap[wr.heap.size]? = some (.cells [.int .i64 op, .int .i64 n, .int .i64 now, u].toArray 48 (0, 0)) := p4.this
      have hA4 := hS.grow x4
      have hK4 := hT.grow x4
      have hu4 := hur.ext x4
      have hx4 := hx.trans x4
      have hBr4 : B2 ≤ w4.heap.size := by have := x4.size; omega
      have hokB : B2 ≤ wr.heap.size := hBr
      clear p4 h3 x3 hx hS hT x4 hpe hur
      generalize wr.heap.size = ok at *
      have hpo := pts_block (cs := [.int .i64 op, .int .i64 n, .int .i64 now, u]) hk4
      have hpo3 : Pts w4 (partPtr (.pointer (some ⟨ok, 0, none⟩)) 3) [u] := hpo.part 3
      (repeat' first | ((with_reducible refine nx0 ?_); go_step) | ((with_reducible refine o_s ?_); first | refine wk1 ?_ | (refine wg0 ?_ ?_ <;> intro hc)) | fail)
      refine wpl_callV (enters_of Tryz.func27 rfl rfl) rfl rfl (l17_short u l _ hu4) ?_; intro w9 x9; refine gset ?_
      cases hsh : shortS l with
      | false =>
       (repeat' first | ((with_reducible refine nx0 ?_); go_step) | ((with_reducible refine o_s ?_); first | refine wk1 ?_ | (refine wg0 ?_ ?_ <;> intro hc)) | fail)
       refine wpl_callV (enters_of Tryz.func15 rfl rfl) rfl rfl (l17_liveV _) ?_; intro w10 x10; refine gset ?_
       (repeat' first | ((with_reducible refine nx0 ?_); go_step) | ((with_reducible refine o_s ?_); first | refine wk1 ?_ | (refine wg0 ?_ ?_ <;> intro hc)) | fail)
       go_ret
       exact ⟨rfl, (hx4.trans x9).trans x10⟩
      | true =>
       have hA9 := hA4.grow x9
       have hK9 := hK4.grow x9
       have hx9 := hx4.trans x9
       have hu9 := hu4.ext x9
       have hk9 := x9.at hk4
       have hBr9 : B2 ≤ w9.heap.size := by have := x9.size; omega
       have hpo9 := pts_block (cs := [.int .i64 op, .int .i64 n, .int .i64 now, u]) hk9
       have hpo19 : Pts w9 (partPtr (.pointer (some ⟨ok, 0, none⟩)) 1) [.int .i64 n, .int .i64 now, u] := hpo9.part 1
       have hpo29 : Pts w9 (partPtr (.pointer (some ⟨ok, 0, none⟩)) 2) [.int .i64 now, u] := hpo9.part 2
       have hpo39 : Pts w9 (partPtr (.pointer (some ⟨ok, 0, none⟩)) 3) [u] := hpo9.part 3
       clear hpo hpo3 hA4 hK4 hu4 hk4 hx4 x9
       have hcs6 : op = 0 ∨ op = 1 ∨ op = 2 ∨ op = 3 ∨ op = 4 ∨ (op ≠ 0 ∧ op ≠ 1 ∧ op ≠ 2 ∧ op ≠ 3 ∧ op ≠ 4) := by omega
       obtain ⟨q1, q2⟩ := shortS_bounds hsh
       have f0 := hsk.does ⟨op, n, now, l⟩
       rcases hcs6 with rfl | rfl | rfl | rfl | rfl | ⟨n0, n1, n2, n3, n4⟩
       ·(repeat' first | ((with_reducible refine nx0 ?_); go_step) | ((with_reducible refine o_s ?_); first | refine wk1 ?_ | (refine wg0 ?_ ?_ <;> intro hc)) | fail)
        refine wpl_callG (enters_of Tryz.func28 rfl rfl) rfl rfl (r17_Notify hK9 hsk n now) ?_; rintro _ w10 ⟨rfl, o10, m10⟩; refine ⟨_, rfl, ?_⟩; refine gset ?_
        have o10 : KSt B2 w10 c (s.does ⟨0, n, now, l⟩) := o10
        have hd0 : s.doesE ⟨0, n, now, l⟩ = 0 := rfl
        have hdo := l17_does (hA9.other m10 hcB hbc) hsk (by have := m10.size; omega) ⟨0, n, now, l⟩ u (hu.ext (hx9.move m10 (by rintro k ⟨⟩; exact hC2))) (fun _ => hsh)
        unfold opv at hdo
        rw [hd0] at hdo
        have hx10 := hx9.move m10 (by rintro k ⟨⟩; exact hC2)
        have hk10 := m10.at hk9 (by intro e; have := Option.some.inj e; omega)
        have hBr10 : B2 ≤ w10.heap.size := by have := m10.size; omega
        clear hd0 hA9 hK9 m10 hu9 hk9 hpo9 hpo19 hpo29 hpo39
        generalize s.does ⟨0, n, now, l⟩ = t at *
        have hpo10 := pts_block (cs := [.int .i64 0, .int .i64 n, .int .i64 now, u]) hk10
        (repeat' first | ((with_reducible refine nx0 ?_); go_step) | ((with_reducible refine o_s ?_); first | refine wk1 ?_ | (refine wg0 ?_ ?_ <;> intro hc)) | fail)
        refine wpl_callG (enters_of Tryz.func33 rfl rfl) rfl rfl hdo ?_
        rintro _ w11 ⟨rfl, o11, m11⟩
        refine ⟨_, rfl, ?_⟩
        refine gset ?_
        have hK11 := o10.other m11 hbB (Ne.symm hbc)
        have hx11 := hx10.move m11 (by rintro k ⟨⟩; exact hB)
        have hk11 := m11.at hk10 (by intro e; have := Option.some.inj e; omega)
        have hBr11 : B2 ≤ w11.heap.size := by have := m11.size; omega
        clear hdo hx10 hx9 hk10 hpo10 o10 m11 hBr10
        ((with_reducible refine o_s ?_); (first | (refine o_1 ?_; refine o_21 ?_) | (refine o_g ?_; refine o_u ?_; (with_reducible refine o_s ?_); refine o_1 ?_; refine o_21 ?_)))
        refine wpl_run0 (Runs.neqSame rfl rfl) ?_
        refine gset ?_
        (repeat' first | ((with_reducible refine nx0 ?_); go_step) | ((with_reducible refine o_s ?_); first | refine wk1 ?_ | (refine wg0 ?_ ?_ <;> intro hc)) | fail)
        refine wpl_callR (enters_of Tryz.func34 rfl rfl) rfl rfl (p_SecZone o11 f0) ?_
        rintro _ w12 x12 ⟨y, rfl, hy⟩
        have hy := hy.toO hBr11
        have hy1 : y.oneCell' = true := by obtain ⟨css, h, _⟩ := hy.sets; exact h.one
        refine gset ?_
        (repeat' first | ((with_reducible refine nx0 ?_); go_step) | ((with_reducible refine o_s ?_); first | refine wk1 ?_ | (refine wg0 ?_ ?_ <;> intro hc)) | fail)
        refine wpl_allocB (z := zzone) rfl (by decide +kernel) ?_
        intro w13 x13 s13 h13
        refine gset ?_
        refine wpl_storeB (v := .agg #[str t.o, y]) rfl rfl rfl h13 (show sizeTy Tryz.prog 34 2 = true by decide +kernel) rfl (zone_one hy1) ?_
        intro w14 p14
        have x14 : Ext w12 w14 := x13.move p14.mv (by rintro k ⟨⟩; exact Nat.le_refl _)
        have hz14 : w14.heap[w12.heap.size]? = some (.cells [str t.o, y].toArray 34 (0, 0)) := p14.this
        have x1114 := x12.trans x14
        have hx14 := hx11.trans x1114
        have hA14 := o11.grow x1114
        have hK14 := hK11.grow x1114
        have hk14 := x1114.at hk11
        have hy14 := hy.ext x14
        have hBr14 : B2 ≤ w14.heap.size := by have := x1114.size; omega
        clear p14 h13 x13 x12 x14 x1114 hx11 o11 hK11 hk11 hy hBr11
        generalize w12.heap.size = zk at *
        have hpz := pts_block (cs := [str t.o, y]) hz14
        have hpo := pts_block (cs := [.int .i64 0, .int .i64 n, .int .i64 now, u]) hk14
        have hpo2 : Pts w14 (partPtr (.pointer (some ⟨ok, 0, none⟩)) 2) [.int .i64 now, u] := hpo.part 2
        obtain ⟨v', -, -, -, k2, k3, -, -, -, hO⟩ := hK14.pts
        (repeat' first | ((with_reducible refine nx0 ?_); go_step) | ((with_reducible refine o_s ?_); first | refine wk1 ?_ | (refine wg0 ?_ ?_ <;> intro hc)) | fail)
        refine wpq_region (by decide +kernel) (by decide +kernel) ?_
        (try ((with_reducible refine qh0 ?_); refine qk1 ?_))
        refine wpq_call (enters_of Tryz.func17 rfl rfl) rfl rfl (fun w' x' => p_Wants (hA14.grow x') now) ?_
        refine gset ?_
        (try ((with_reducible refine qh0 ?_); refine qk1 ?_))
        refine wpq_call (enters_of Tryz.func35 rfl rfl) rfl rfl (fun w' x' => r17_Wants (hK14.grow x') now) ?_
        refine gset ?_
        (try ((with_reducible refine qh0 ?_); refine qk1 ?_))
        refine wpq_call (enters_of Tryz.func36 rfl rfl) rfl rfl (fun w' x' => p_Up (hA14.grow x') now) ?_
        refine gset ?_
        (try ((with_reducible refine qh0 ?_); refine qk1 ?_))
        refine wpq_call (enters_of Tryz.func37 rfl rfl) rfl rfl (fun w' x' => r17_Up (hK14.grow x') now) ?_
        refine gset ?_
        (try ((with_reducible refine qh0 ?_); refine qk1 ?_))
        refine wpq_run0 (fun w' _ => Runs.neqBSame rfl rfl (by decide +kernel)) ?_
        refine gset ?_
        (try ((with_reducible refine qh0 ?_); refine qk1 ?_))
        refine wpq_run0 (fun w' _ => Runs.neqBSame (b := t.z.isSome) rfl rfl (by decide +kernel)) ?_
        refine gset ?_
        (try ((with_reducible refine qh0 ?_); refine qk1 ?_))
        have hsame : ∀ w', Ext w14 w' → Calls Tryz.prog 38 #[.agg #[str t.o, y], .agg #[str t.o, v']] w' (RetV w' (.bool true)) := fun w' x' => by
         have h := r8_Same t.o t.o y v' t.l t.l w' (hy14.ext x').sets (hO.ext x').sets
         rwa [decide_eq_true rfl, decide_eq_true rfl] at h
        refine wpq_call (enters_of Tryz.func38 rfl rfl) rfl rfl hsame ?_
        refine gset ?_
        (try ((with_reducible refine qh0 ?_); refine qk1 ?_))
        intro w15 x15
        have hA15 := hA14.grow x15
        have hK15 := hK14.grow x15
        have hx15 := hx14.trans x15
        have hs15 := x15.size
        clear x15 hx14 hA14 hK14
        (repeat' first | ((with_reducible refine nx0 ?_); go_step) | ((with_reducible refine o_s ?_); first | refine wk1 ?_ | (refine wg0 ?_ ?_ <;> intro hc)) | fail)
        exact ⟨⟨k + 1, t, by omega, rfl, hx15, hA15, hK15, f0, by omega⟩, by simp [intOf]; omega⟩
       ·(repeat' first | ((with_reducible refine nx0 ?_); go_step) | ((with_reducible refine o_s ?_); first | refine wk1 ?_ | (refine wg0 ?_ ?_ <;> intro hc)) | fail)
        refine wpl_callG (enters_of Tryz.func29 rfl rfl) rfl rfl (r17_Heard hK9 hsk n now) ?_; rintro _ w10 ⟨rfl, o10, m10⟩; refine ⟨_, rfl, ?_⟩; refine gset ?_
        have o10 : KSt B2 w10 c (s.does ⟨1, n, now, l⟩) := o10
        have hd0 : s.doesE ⟨1, n, now, l⟩ = 0 := rfl
        have hdo := l17_does (hA9.other m10 hcB hbc) hsk (by have := m10.size; omega) ⟨1, n, now, l⟩ u (hu.ext (hx9.move m10 (by rintro k ⟨⟩; exact hC2))) (fun _ => hsh)
        unfold opv at hdo
        rw [hd0] at hdo
        have hx10 := hx9.move m10 (by rintro k ⟨⟩; exact hC2)
        have hk10 := m10.at hk9 (by intro e; have := Option.some.inj e; omega)
        have hBr10 : B2 ≤ w10.heap.size := by have := m10.size; omega
        clear hd0 hA9 hK9 m10 hu9 hk9 hpo9 hpo19 hpo29 hpo39
        generalize s.does ⟨1, n, now, l⟩ = t at *
        have hpo10 := pts_block (cs := [.int .i64 1, .int .i64 n, .int .i64 now, u]) hk10
        (repeat' first | ((with_reducible refine nx0 ?_); go_step) | ((with_reducible refine o_s ?_); first | refine wk1 ?_ | (refine wg0 ?_ ?_ <;> intro hc)) | fail)
        refine wpl_callG (enters_of Tryz.func33 rfl rfl) rfl rfl hdo ?_
        rintro _ w11 ⟨rfl, o11, m11⟩
        refine ⟨_, rfl, ?_⟩
        refine gset ?_
        have hK11 := o10.other m11 hbB (Ne.symm hbc)
        have hx11 := hx10.move m11 (by rintro k ⟨⟩; exact hB)
        have hk11 := m11.at hk10 (by intro e; have := Option.some.inj e; omega)
        have hBr11 : B2 ≤ w11.heap.size := by have := m11.size; omega
        clear hdo hx10 hx9 hk10 hpo10 o10 m11 hBr10
        ((with_reducible refine o_s ?_); (first | (refine o_1 ?_; refine o_21 ?_) | (refine o_g ?_; refine o_u ?_; (with_reducible refine o_s ?_); refine o_1 ?_; refine o_21 ?_)))
        refine wpl_run0 (Runs.neqSame rfl rfl) ?_
        refine gset ?_
        (repeat' first | ((with_reducible refine nx0 ?_); go_step) | ((with_reducible refine o_s ?_); first | refine wk1 ?_ | (refine wg0 ?_ ?_ <;> intro hc)) | fail)
        refine wpl_callR (enters_of Tryz.func34 rfl rfl) rfl rfl (p_SecZone o11 f0) ?_
        rintro _ w12 x12 ⟨y, rfl, hy⟩
        have hy := hy.toO hBr11
        have hy1 : y.oneCell' = true := by obtain ⟨css, h, _⟩ := hy.sets; exact h.one
        refine gset ?_
        (repeat' first | ((with_reducible refine nx0 ?_); go_step) | ((with_reducible refine o_s ?_); first | refine wk1 ?_ | (refine wg0 ?_ ?_ <;> intro hc)) | fail)
        refine wpl_allocB (z := zzone) rfl (by decide +kernel) ?_
        intro w13 x13 s13 h13
        refine gset ?_
        refine wpl_storeB (v := .agg #[str t.o, y]) rfl rfl rfl h13 (show sizeTy Tryz.prog 34 2 = true by decide +kernel) rfl (zone_one hy1) ?_
        intro w14 p14
        have x14 : Ext w12 w14 := x13.move p14.mv (by rintro k ⟨⟩; exact Nat.le_refl _)
        have hz14 : w14.heap[w12.heap.size]? = some (.cells [str t.o, y].toArray 34 (0, 0)) := p14.this
        have x1114 := x12.trans x14
        have hx14 := hx11.trans x1114
        have hA14 := o11.grow x1114
        have hK14 := hK11.grow x1114
        have hk14 := x1114.at hk11
        have hy14 := hy.ext x14
        have hBr14 : B2 ≤ w14.heap.size := by have := x1114.size; omega
        clear p14 h13 x13 x12 x14 x1114 hx11 o11 hK11 hk11 hy hBr11
        generalize w12.heap.size = zk at *
        have hpz := pts_block (cs := [str t.o, y]) hz14
        have hpo := pts_block (cs := [.int .i64 1, .int .i64 n, .int .i64 now, u]) hk14
        have hpo2 : Pts w14 (partPtr (.pointer (some ⟨ok, 0, none⟩)) 2) [.int .i64 now, u] := hpo.part 2
        obtain ⟨v', -, -, -, k2, k3, -, -, -, hO⟩ := hK14.pts
        (repeat' first | ((with_reducible refine nx0 ?_); go_step) | ((with_reducible refine o_s ?_); first | refine wk1 ?_ | (refine wg0 ?_ ?_ <;> intro hc)) | fail)
        refine wpq_region (by decide +kernel) (by decide +kernel) ?_
        (try ((with_reducible refine qh0 ?_); refine qk1 ?_))
        refine wpq_call (enters_of Tryz.func17 rfl rfl) rfl rfl (fun w' x' => p_Wants (hA14.grow x') now) ?_
        refine gset ?_
        (try ((with_reducible refine qh0 ?_); refine qk1 ?_))
        refine wpq_call (enters_of Tryz.func35 rfl rfl) rfl rfl (fun w' x' => r17_Wants (hK14.grow x') now) ?_
        refine gset ?_
        (try ((with_reducible refine qh0 ?_); refine qk1 ?_))
        refine wpq_call (enters_of Tryz.func36 rfl rfl) rfl rfl (fun w' x' => p_Up (hA14.grow x') now) ?_
        refine gset ?_
        (try ((with_reducible refine qh0 ?_); refine qk1 ?_))
        refine wpq_call (enters_of Tryz.func37 rfl rfl) rfl rfl (fun w' x' => r17_Up (hK14.grow x') now) ?_
        refine gset ?_
        (try ((with_reducible refine qh0 ?_); refine qk1 ?_))
        refine wpq_run0 (fun w' _ => Runs.neqBSame rfl rfl (by decide +kernel)) ?_
        refine gset ?_
        (try ((with_reducible refine qh0 ?_); refine qk1 ?_))
        refine wpq_run0 (fun w' _ => Runs.neqBSame (b := t.z.isSome) rfl rfl (by decide +kernel)) ?_
        refine gset ?_
        (try ((with_reducible refine qh0 ?_); refine qk1 ?_))
        have hsame : ∀ w', Ext w14 w' → Calls Tryz.prog 38 #[.agg #[str t.o, y], .agg #[str t.o, v']] w' (RetV w' (.bool true)) := fun w' x' => by
         have h := r8_Same t.o t.o y v' t.l t.l w' (hy14.ext x').sets (hO.ext x').sets
         rwa [decide_eq_true rfl, decide_eq_true rfl] at h
        refine wpq_call (enters_of Tryz.func38 rfl rfl) rfl rfl hsame ?_
        refine gset ?_
        (try ((with_reducible refine qh0 ?_); refine qk1 ?_))
        intro w15 x15
        have hA15 := hA14.grow x15
        have hK15 := hK14.grow x15
        have hx15 := hx14.trans x15
        have hs15 := x15.size
        clear x15 hx14 hA14 hK14
        (repeat' first | ((with_reducible refine nx0 ?_); go_step) | ((with_reducible refine o_s ?_); first | refine wk1 ?_ | (refine wg0 ?_ ?_ <;> intro hc)) | fail)
        exact ⟨⟨k + 1, t, by omega, rfl, hx15, hA15, hK15, f0, by omega⟩, by simp [intOf]; omega⟩
       ·(repeat' first | ((with_reducible refine nx0 ?_); go_step) | ((with_reducible refine o_s ?_); first | refine wk1 ?_ | (refine wg0 ?_ ?_ <;> intro hc)) | fail)
        refine wpl_callG (enters_of Tryz.func30 rfl rfl) rfl rfl (r17_Failed hK9 hsk now) ?_; rintro _ w10 ⟨rfl, o10, m10⟩; refine ⟨_, rfl, ?_⟩; refine gset ?_
        have o10 : KSt B2 w10 c (s.does ⟨2, n, now, l⟩) := o10
        have hd0 : s.doesE ⟨2, n, now, l⟩ = 0 := rfl
        have hdo := l17_does (hA9.other m10 hcB hbc) hsk (by have := m10.size; omega) ⟨2, n, now, l⟩ u (hu.ext (hx9.move m10 (by rintro k ⟨⟩; exact hC2))) (fun _ => hsh)
        unfold opv at hdo
        rw [hd0] at hdo
        have hx10 := hx9.move m10 (by rintro k ⟨⟩; exact hC2)
        have hk10 := m10.at hk9 (by intro e; have := Option.some.inj e; omega)
        have hBr10 : B2 ≤ w10.heap.size := by have := m10.size; omega
        clear hd0 hA9 hK9 m10 hu9 hk9 hpo9 hpo19 hpo29 hpo39
        generalize s.does ⟨2, n, now, l⟩ = t at *
        have hpo10 := pts_block (cs := [.int .i64 2, .int .i64 n, .int .i64 now, u]) hk10
        (repeat' first | ((with_reducible refine nx0 ?_); go_step) | ((with_reducible refine o_s ?_); first | refine wk1 ?_ | (refine wg0 ?_ ?_ <;> intro hc)) | fail)
        refine wpl_callG (enters_of Tryz.func33 rfl rfl) rfl rfl hdo ?_
        rintro _ w11 ⟨rfl, o11, m11⟩
        refine ⟨_, rfl, ?_⟩
        refine gset ?_
        have hK11 := o10.other m11 hbB (Ne.symm hbc)
        have hx11 := hx10.move m11 (by rintro k ⟨⟩; exact hB)
        have hk11 := m11.at hk10 (by intro e; have := Option.some.inj e; omega)
        have hBr11 : B2 ≤ w11.heap.size := by have := m11.size; omega
        clear hdo hx10 hx9 hk10 hpo10 o10 m11 hBr10
        ((with_reducible refine o_s ?_); (first | (refine o_1 ?_; refine o_21 ?_) | (refine o_g ?_; refine o_u ?_; (with_reducible refine o_s ?_); refine o_1 ?_; refine o_21 ?_)))
        refine wpl_run0 (Runs.neqSame rfl rfl) ?_
        refine gset ?_
        (repeat' first | ((with_reducible refine nx0 ?_); go_step) | ((with_reducible refine o_s ?_); first | refine wk1 ?_ | (refine wg0 ?_ ?_ <;> intro hc)) | fail)
        refine wpl_callR (enters_of Tryz.func34 rfl rfl) rfl rfl (p_SecZone o11 f0) ?_
        rintro _ w12 x12 ⟨y, rfl, hy⟩
        have hy := hy.toO hBr11
        have hy1 : y.oneCell' = true := by obtain ⟨css, h, _⟩ := hy.sets; exact h.one
        refine gset ?_
        (repeat' first | ((with_reducible refine nx0 ?_); go_step) | ((with_reducible refine o_s ?_); first | refine wk1 ?_ | (refine wg0 ?_ ?_ <;> intro hc)) | fail)
        refine wpl_allocB (z := zzone) rfl (by decide +kernel) ?_
        intro w13 x13 s13 h13
        refine gset ?_
        refine wpl_storeB (v := .agg #[str t.o, y]) rfl rfl rfl h13 (show sizeTy Tryz.prog 34 2 = true by decide +kernel) rfl (zone_one hy1) ?_
        intro w14 p14
        have x14 : Ext w12 w14 := x13.move p14.mv (by rintro k ⟨⟩; exact Nat.le_refl _)
        have hz14 : w14.heap[w12.heap.size]? = some (.cells [str t.o, y].toArray 34 (0, 0)) := p14.this
        have x1114 := x12.trans x14
        have hx14 := hx11.trans x1114
        have hA14 := o11.grow x1114
        have hK14 := hK11.grow x1114
        have hk14 := x1114.at hk11
        have hy14 := hy.ext x14
        have hBr14 : B2 ≤ w14.heap.size := by have := x1114.size; omega
        clear p14 h13 x13 x12 x14 x1114 hx11 o11 hK11 hk11 hy hBr11
        generalize w12.heap.size = zk at *
        have hpz := pts_block (cs := [str t.o, y]) hz14
        have hpo := pts_block (cs := [.int .i64 2, .int .i64 n, .int .i64 now, u]) hk14
        have hpo2 : Pts w14 (partPtr (.pointer (some ⟨ok, 0, none⟩)) 2) [.int .i64 now, u] := hpo.part 2
        obtain ⟨v', -, -, -, k2, k3, -, -, -, hO⟩ := hK14.pts
        (repeat' first | ((with_reducible refine nx0 ?_); go_step) | ((with_reducible refine o_s ?_); first | refine wk1 ?_ | (refine wg0 ?_ ?_ <;> intro hc)) | fail)
        refine wpq_region (by decide +kernel) (by decide +kernel) ?_
        (try ((with_reducible refine qh0 ?_); refine qk1 ?_))
        refine wpq_call (enters_of Tryz.func17 rfl rfl) rfl rfl (fun w' x' => p_Wants (hA14.grow x') now) ?_
        refine gset ?_
        (try ((with_reducible refine qh0 ?_); refine qk1 ?_))
        refine wpq_call (enters_of Tryz.func35 rfl rfl) rfl rfl (fun w' x' => r17_Wants (hK14.grow x') now) ?_
        refine gset ?_
        (try ((with_reducible refine qh0 ?_); refine qk1 ?_))
        refine wpq_call (enters_of Tryz.func36 rfl rfl) rfl rfl (fun w' x' => p_Up (hA14.grow x') now) ?_
        refine gset ?_
        (try ((with_reducible refine qh0 ?_); refine qk1 ?_))
        refine wpq_call (enters_of Tryz.func37 rfl rfl) rfl rfl (fun w' x' => r17_Up (hK14.grow x') now) ?_
        refine gset ?_
        (try ((with_reducible refine qh0 ?_); refine qk1 ?_))
        refine wpq_run0 (fun w' _ => Runs.neqBSame rfl rfl (by decide +kernel)) ?_
        refine gset ?_
        (try ((with_reducible refine qh0 ?_); refine qk1 ?_))
        refine wpq_run0 (fun w' _ => Runs.neqBSame (b := t.z.isSome) rfl rfl (by decide +kernel)) ?_
        refine gset ?_
        (try ((with_reducible refine qh0 ?_); refine qk1 ?_))
        have hsame : ∀ w', Ext w14 w' → Calls Tryz.prog 38 #[.agg #[str t.o, y], .agg #[str t.o, v']] w' (RetV w' (.bool true)) := fun w' x' => by
         have h := r8_Same t.o t.o y v' t.l t.l w' (hy14.ext x').sets (hO.ext x').sets
         rwa [decide_eq_true rfl, decide_eq_true rfl] at h
        refine wpq_call (enters_of Tryz.func38 rfl rfl) rfl rfl hsame ?_
        refine gset ?_
        (try ((with_reducible refine qh0 ?_); refine qk1 ?_))
        intro w15 x15
        have hA15 := hA14.grow x15
        have hK15 := hK14.grow x15
        have hx15 := hx14.trans x15
        have hs15 := x15.size
        clear x15 hx14 hA14 hK14
        (repeat' first | ((with_reducible refine nx0 ?_); go_step) | ((with_reducible refine o_s ?_); first | refine wk1 ?_ | (refine wg0 ?_ ?_ <;> intro hc)) | fail)
        exact ⟨⟨k + 1, t, by omega, rfl, hx15, hA15, hK15, f0, by omega⟩, by simp [intOf]; omega⟩
       ·(repeat' first | ((with_reducible refine nx0 ?_); go_step) | ((with_reducible refine o_s ?_); first | refine wk1 ?_ | (refine wg0 ?_ ?_ <;> intro hc)) | fail)
        refine wpl_callG (enters_of Tryz.func31 rfl rfl) rfl rfl (r17_Got hK9 hsk hBr9 u l now hu9 (by omega) (fun q hq => by have := (q2 q hq).2; omega)) ?_
        rintro _ w10 ⟨rfl, o10, m10⟩
        refine ⟨_, rfl, ?_⟩
        refine gset ?_
        have o10 : KSt B2 w10 c (s.does ⟨3, n, now, l⟩) := o10
        have hd0 : s.doesE ⟨3, n, now, l⟩ = s.gotE l now := rfl
        have hdo := l17_does (hA9.other m10 hcB hbc) hsk (by have := m10.size; omega) ⟨3, n, now, l⟩ u (hu.ext (hx9.move m10 (by rintro k ⟨⟩; exact hC2))) (fun _ => hsh)
        unfold opv at hdo
        rw [hd0] at hdo
        have hx10 := hx9.move m10 (by rintro k ⟨⟩; exact hC2)
        have hk10 := m10.at hk9 (by intro e; have := Option.some.inj e; omega)
        have hBr10 : B2 ≤ w10.heap.size := by have := m10.size; omega
        clear hd0 hA9 hK9 m10 hu9 hk9 hpo9 hpo19 hpo29 hpo39
        generalize s.does ⟨3, n, now, l⟩ = t at *
        have hpo10 := pts_block (cs := [.int .i64 3, .int .i64 n, .int .i64 now, u]) hk10
        (repeat' first | ((with_reducible refine nx0 ?_); go_step) | ((with_reducible refine o_s ?_); first | refine wk1 ?_ | (refine wg0 ?_ ?_ <;> intro hc)) | fail)
        refine wpl_callG (enters_of Tryz.func33 rfl rfl) rfl rfl hdo ?_
        rintro _ w11 ⟨rfl, o11, m11⟩
        refine ⟨_, rfl, ?_⟩
        refine gset ?_
        have hK11 := o10.other m11 hbB (Ne.symm hbc)
        have hx11 := hx10.move m11 (by rintro k ⟨⟩; exact hB)
        have hk11 := m11.at hk10 (by intro e; have := Option.some.inj e; omega)
        have hBr11 : B2 ≤ w11.heap.size := by have := m11.size; omega
        clear hdo hx10 hx9 hk10 hpo10 o10 m11 hBr10
        ((with_reducible refine o_s ?_); (first | (refine o_1 ?_; refine o_21 ?_) | (refine o_g ?_; refine o_u ?_; (with_reducible refine o_s ?_); refine o_1 ?_; refine o_21 ?_)))
        refine wpl_run0 (Runs.neqSame rfl rfl) ?_
        refine gset ?_
        (repeat' first | ((with_reducible refine nx0 ?_); go_step) | ((with_reducible refine o_s ?_); first | refine wk1 ?_ | (refine wg0 ?_ ?_ <;> intro hc)) | fail)
        refine wpl_callR (enters_of Tryz.func34 rfl rfl) rfl rfl (p_SecZone o11 f0) ?_
        rintro _ w12 x12 ⟨y, rfl, hy⟩
        have hy := hy.toO hBr11
        have hy1 : y.oneCell' = true := by obtain ⟨css, h, _⟩ := hy.sets; exact h.one
        refine gset ?_
        (repeat' first | ((with_reducible refine nx0 ?_); go_step) | ((with_reducible refine o_s ?_); first | refine wk1 ?_ | (refine wg0 ?_ ?_ <;> intro hc)) | fail)
        refine wpl_allocB (z := zzone) rfl (by decide +kernel) ?_
        intro w13 x13 s13 h13
        refine gset ?_
        refine wpl_storeB (v := .agg #[str t.o, y]) rfl rfl rfl h13 (show sizeTy Tryz.prog 34 2 = true by decide +kernel) rfl (zone_one hy1) ?_
        intro w14 p14
        have x14 : Ext w12 w14 := x13.move p14.mv (by rintro k ⟨⟩; exact Nat.le_refl _)
        have hz14 : w14.heap[w12.heap.size]? = some (.cells [str t.o, y].toArray 34 (0, 0)) := p14.this
        have x1114 := x12.trans x14
        have hx14 := hx11.trans x1114
        have hA14 := o11.grow x1114
        have hK14 := hK11.grow x1114
        have hk14 := x1114.at hk11
        have hy14 := hy.ext x14
        have hBr14 : B2 ≤ w14.heap.size := by have := x1114.size; omega
        clear p14 h13 x13 x12 x14 x1114 hx11 o11 hK11 hk11 hy hBr11
        generalize w12.heap.size = zk at *
        have hpz := pts_block (cs := [str t.o, y]) hz14
        have hpo := pts_block (cs := [.int .i64 3, .int .i64 n, .int .i64 now, u]) hk14
        have hpo2 : Pts w14 (partPtr (.pointer (some ⟨ok, 0, none⟩)) 2) [.int .i64 now, u] := hpo.part 2
        obtain ⟨v', -, -, -, k2, k3, -, -, -, hO⟩ := hK14.pts
        (repeat' first | ((with_reducible refine nx0 ?_); go_step) | ((with_reducible refine o_s ?_); first | refine wk1 ?_ | (refine wg0 ?_ ?_ <;> intro hc)) | fail)
        refine wpq_region (by decide +kernel) (by decide +kernel) ?_
        (try ((with_reducible refine qh0 ?_); refine qk1 ?_))
        refine wpq_call (enters_of Tryz.func17 rfl rfl) rfl rfl (fun w' x' => p_Wants (hA14.grow x') now) ?_
        refine gset ?_
        (try ((with_reducible refine qh0 ?_); refine qk1 ?_))
        refine wpq_call (enters_of Tryz.func35 rfl rfl) rfl rfl (fun w' x' => r17_Wants (hK14.grow x') now) ?_
        refine gset ?_
        (try ((with_reducible refine qh0 ?_); refine qk1 ?_))
        refine wpq_call (enters_of Tryz.func36 rfl rfl) rfl rfl (fun w' x' => p_Up (hA14.grow x') now) ?_
        refine gset ?_
        (try ((with_reducible refine qh0 ?_); refine qk1 ?_))
        refine wpq_call (enters_of Tryz.func37 rfl rfl) rfl rfl (fun w' x' => r17_Up (hK14.grow x') now) ?_
        refine gset ?_
        (try ((with_reducible refine qh0 ?_); refine qk1 ?_))
        refine wpq_run0 (fun w' _ => Runs.neqBSame rfl rfl (by decide +kernel)) ?_
        refine gset ?_
        (try ((with_reducible refine qh0 ?_); refine qk1 ?_))
        refine wpq_run0 (fun w' _ => Runs.neqBSame (b := t.z.isSome) rfl rfl (by decide +kernel)) ?_
        refine gset ?_
        (try ((with_reducible refine qh0 ?_); refine qk1 ?_))
        have hsame : ∀ w', Ext w14 w' → Calls Tryz.prog 38 #[.agg #[str t.o, y], .agg #[str t.o, v']] w' (RetV w' (.bool true)) := fun w' x' => by
         have h := r8_Same t.o t.o y v' t.l t.l w' (hy14.ext x').sets (hO.ext x').sets
         rwa [decide_eq_true rfl, decide_eq_true rfl] at h
        refine wpq_call (enters_of Tryz.func38 rfl rfl) rfl rfl hsame ?_
        refine gset ?_
        (try ((with_reducible refine qh0 ?_); refine qk1 ?_))
        intro w15 x15
        have hA15 := hA14.grow x15
        have hK15 := hK14.grow x15
        have hx15 := hx14.trans x15
        have hs15 := x15.size
        clear x15 hx14 hA14 hK14
        (repeat' first | ((with_reducible refine nx0 ?_); go_step) | ((with_reducible refine o_s ?_); first | refine wk1 ?_ | (refine wg0 ?_ ?_ <;> intro hc)) | fail)
        exact ⟨⟨k + 1, t, by omega, rfl, hx15, hA15, hK15, f0, by omega⟩, by simp [intOf]; omega⟩
       ·(repeat' first | ((with_reducible refine nx0 ?_); go_step) | ((with_reducible refine o_s ?_); first | refine wk1 ?_ | (refine wg0 ?_ ?_ <;> intro hc)) | fail)
        refine wpl_callG (enters_of Tryz.func32 rfl rfl) rfl rfl (r17_Crash hK9) ?_; rintro _ w10 ⟨rfl, o10, m10⟩; refine ⟨_, rfl, ?_⟩; refine gset ?_
        have o10 : KSt B2 w10 c (s.does ⟨4, n, now, l⟩) := o10
        have hd0 : s.doesE ⟨4, n, now, l⟩ = 0 := rfl
        have hdo := l17_does (hA9.other m10 hcB hbc) hsk (by have := m10.size; omega) ⟨4, n, now, l⟩ u (hu.ext (hx9.move m10 (by rintro k ⟨⟩; exact hC2))) (fun _ => hsh)
        unfold opv at hdo
        rw [hd0] at hdo
        have hx10 := hx9.move m10 (by rintro k ⟨⟩; exact hC2)
        have hk10 := m10.at hk9 (by intro e; have := Option.some.inj e; omega)
        have hBr10 : B2 ≤ w10.heap.size := by have := m10.size; omega
        clear hd0 hA9 hK9 m10 hu9 hk9 hpo9 hpo19 hpo29 hpo39
        generalize s.does ⟨4, n, now, l⟩ = t at *
        have hpo10 := pts_block (cs := [.int .i64 4, .int .i64 n, .int .i64 now, u]) hk10
        (repeat' first | ((with_reducible refine nx0 ?_); go_step) | ((with_reducible refine o_s ?_); first | refine wk1 ?_ | (refine wg0 ?_ ?_ <;> intro hc)) | fail)
        refine wpl_callG (enters_of Tryz.func33 rfl rfl) rfl rfl hdo ?_
        rintro _ w11 ⟨rfl, o11, m11⟩
        refine ⟨_, rfl, ?_⟩
        refine gset ?_
        have hK11 := o10.other m11 hbB (Ne.symm hbc)
        have hx11 := hx10.move m11 (by rintro k ⟨⟩; exact hB)
        have hk11 := m11.at hk10 (by intro e; have := Option.some.inj e; omega)
        have hBr11 : B2 ≤ w11.heap.size := by have := m11.size; omega
        clear hdo hx10 hx9 hk10 hpo10 o10 m11 hBr10
        ((with_reducible refine o_s ?_); (first | (refine o_1 ?_; refine o_21 ?_) | (refine o_g ?_; refine o_u ?_; (with_reducible refine o_s ?_); refine o_1 ?_; refine o_21 ?_)))
        refine wpl_run0 (Runs.neqSame rfl rfl) ?_
        refine gset ?_
        (repeat' first | ((with_reducible refine nx0 ?_); go_step) | ((with_reducible refine o_s ?_); first | refine wk1 ?_ | (refine wg0 ?_ ?_ <;> intro hc)) | fail)
        refine wpl_callR (enters_of Tryz.func34 rfl rfl) rfl rfl (p_SecZone o11 f0) ?_
        rintro _ w12 x12 ⟨y, rfl, hy⟩
        have hy := hy.toO hBr11
        have hy1 : y.oneCell' = true := by obtain ⟨css, h, _⟩ := hy.sets; exact h.one
        refine gset ?_
        (repeat' first | ((with_reducible refine nx0 ?_); go_step) | ((with_reducible refine o_s ?_); first | refine wk1 ?_ | (refine wg0 ?_ ?_ <;> intro hc)) | fail)
        refine wpl_allocB (z := zzone) rfl (by decide +kernel) ?_
        intro w13 x13 s13 h13
        refine gset ?_
        refine wpl_storeB (v := .agg #[str t.o, y]) rfl rfl rfl h13 (show sizeTy Tryz.prog 34 2 = true by decide +kernel) rfl (zone_one hy1) ?_
        intro w14 p14
        have x14 : Ext w12 w14 := x13.move p14.mv (by rintro k ⟨⟩; exact Nat.le_refl _)
        have hz14 : w14.heap[w12.heap.size]? = some (.cells [str t.o, y].toArray 34 (0, 0)) := p14.this
        have x1114 := x12.trans x14
        have hx14 := hx11.trans x1114
        have hA14 := o11.grow x1114
        have hK14 := hK11.grow x1114
        have hk14 := x1114.at hk11
        have hy14 := hy.ext x14
        have hBr14 : B2 ≤ w14.heap.size := by have := x1114.size; omega
        clear p14 h13 x13 x12 x14 x1114 hx11 o11 hK11 hk11 hy hBr11
        generalize w12.heap.size = zk at *
        have hpz := pts_block (cs := [str t.o, y]) hz14
        have hpo := pts_block (cs := [.int .i64 4, .int .i64 n, .int .i64 now, u]) hk14
        have hpo2 : Pts w14 (partPtr (.pointer (some ⟨ok, 0, none⟩)) 2) [.int .i64 now, u] := hpo.part 2
        obtain ⟨v', -, -, -, k2, k3, -, -, -, hO⟩ := hK14.pts
        (repeat' first | ((with_reducible refine nx0 ?_); go_step) | ((with_reducible refine o_s ?_); first | refine wk1 ?_ | (refine wg0 ?_ ?_ <;> intro hc)) | fail)
        refine wpq_region (by decide +kernel) (by decide +kernel) ?_
        (try ((with_reducible refine qh0 ?_); refine qk1 ?_))
        refine wpq_call (enters_of Tryz.func17 rfl rfl) rfl rfl (fun w' x' => p_Wants (hA14.grow x') now) ?_
        refine gset ?_
        (try ((with_reducible refine qh0 ?_); refine qk1 ?_))
        refine wpq_call (enters_of Tryz.func35 rfl rfl) rfl rfl (fun w' x' => r17_Wants (hK14.grow x') now) ?_
        refine gset ?_
        (try ((with_reducible refine qh0 ?_); refine qk1 ?_))
        refine wpq_call (enters_of Tryz.func36 rfl rfl) rfl rfl (fun w' x' => p_Up (hA14.grow x') now) ?_
        refine gset ?_
        (try ((with_reducible refine qh0 ?_); refine qk1 ?_))
        refine wpq_call (enters_of Tryz.func37 rfl rfl) rfl rfl (fun w' x' => r17_Up (hK14.grow x') now) ?_
        refine gset ?_
        (try ((with_reducible refine qh0 ?_); refine qk1 ?_))
        refine wpq_run0 (fun w' _ => Runs.neqBSame rfl rfl (by decide +kernel)) ?_
        refine gset ?_
        (try ((with_reducible refine qh0 ?_); refine qk1 ?_))
        refine wpq_run0 (fun w' _ => Runs.neqBSame (b := t.z.isSome) rfl rfl (by decide +kernel)) ?_
        refine gset ?_
        (try ((with_reducible refine qh0 ?_); refine qk1 ?_))
        have hsame : ∀ w', Ext w14 w' → Calls Tryz.prog 38 #[.agg #[str t.o, y], .agg #[str t.o, v']] w' (RetV w' (.bool true)) := fun w' x' => by
         have h := r8_Same t.o t.o y v' t.l t.l w' (hy14.ext x').sets (hO.ext x').sets
         rwa [decide_eq_true rfl, decide_eq_true rfl] at h
        refine wpq_call (enters_of Tryz.func38 rfl rfl) rfl rfl hsame ?_
        refine gset ?_
        (try ((with_reducible refine qh0 ?_); refine qk1 ?_))
        intro w15 x15
        have hA15 := hA14.grow x15
        have hK15 := hK14.grow x15
        have hx15 := hx14.trans x15
        have hs15 := x15.size
        clear x15 hx14 hA14 hK14
        (repeat' first | ((with_reducible refine nx0 ?_); go_step) | ((with_reducible refine o_s ?_); first | refine wk1 ?_ | (refine wg0 ?_ ?_ <;> intro hc)) | fail)
        exact ⟨⟨k + 1, t, by omega, rfl, hx15, hA15, hK15, f0, by omega⟩, by simp [intOf]; omega⟩
       ·have o10 : KSt B2 w9 c (s.does ⟨op, n, now, l⟩) := by
         have e2 : s.does ⟨op, n, now, l⟩ = s := by simp [SecR.does, n0, n1, n2, n3, n4]
         rw [e2]; exact hK9
        have hd0 : s.doesE ⟨op, n, now, l⟩ = 0 := by simp [SecR.doesE, n3]
        obtain ⟨w10, hw10, m10⟩ : ∃ w10, w10 = w9 ∧ Mv (some c) w9 w10 := ⟨w9, rfl, Mv.refl _ _⟩
        rw [← hw10]
        rw [← hw10] at o10
        (repeat' first | ((with_reducible refine nx0 ?_); go_step) | ((with_reducible refine o_s ?_); first | refine wk1 ?_ | (refine wg0 ?_ ?_ <;> intro hc)) | fail)
        all_goals first
         | (exfalso; omega)
         | skip
        have hdo := l17_does (hA9.other m10 hcB hbc) hsk (by have := m10.size; omega) ⟨op, n, now, l⟩ u (hu.ext (hx9.move m10 (by rintro k ⟨⟩; exact hC2))) (fun _ => hsh)
        unfold opv at hdo
        rw [hd0] at hdo
        have hx10 := hx9.move m10 (by rintro k ⟨⟩; exact hC2)
        have hk10 := m10.at hk9 (by intro e; have := Option.some.inj e; omega)
        have hBr10 : B2 ≤ w10.heap.size := by have := m10.size; omega
        clear hd0 hA9 hK9 m10 hu9 hk9 hpo9 hpo19 hpo29 hpo39
        generalize s.does ⟨op, n, now, l⟩ = t at *
        have hpo10 := pts_block (cs := [.int .i64 op, .int .i64 n, .int .i64 now, u]) hk10
        (repeat' first | ((with_reducible refine nx0 ?_); go_step) | ((with_reducible refine o_s ?_); first | refine wk1 ?_ | (refine wg0 ?_ ?_ <;> intro hc)) | fail)
        refine wpl_callG (enters_of Tryz.func33 rfl rfl) rfl rfl hdo ?_
        rintro _ w11 ⟨rfl, o11, m11⟩
        refine ⟨_, rfl, ?_⟩
        refine gset ?_
        have hK11 := o10.other m11 hbB (Ne.symm hbc)
        have hx11 := hx10.move m11 (by rintro k ⟨⟩; exact hB)
        have hk11 := m11.at hk10 (by intro e; have := Option.some.inj e; omega)
        have hBr11 : B2 ≤ w11.heap.size := by have := m11.size; omega
        clear hdo hx10 hx9 hk10 hpo10 o10 m11 hBr10
        ((with_reducible refine o_s ?_); (first | (refine o_1 ?_; refine o_21 ?_) | (refine o_g ?_; refine o_u ?_; (with_reducible refine o_s ?_); refine o_1 ?_; refine o_21 ?_)))
        refine wpl_run0 (Runs.neqSame rfl rfl) ?_
        refine gset ?_
        (repeat' first | ((with_reducible refine nx0 ?_); go_step) | ((with_reducible refine o_s ?_); first | refine wk1 ?_ | (refine wg0 ?_ ?_ <;> intro hc)) | fail)
        refine wpl_callR (enters_of Tryz.func34 rfl rfl) rfl rfl (p_SecZone o11 f0) ?_
        rintro _ w12 x12 ⟨y, rfl, hy⟩
        have hy := hy.toO hBr11
        have hy1 : y.oneCell' = true := by obtain ⟨css, h, _⟩ := hy.sets; exact h.one
        refine gset ?_
        (repeat' first | ((with_reducible refine nx0 ?_); go_step) | ((with_reducible refine o_s ?_); first | refine wk1 ?_ | (refine wg0 ?_ ?_ <;> intro hc)) | fail)
        refine wpl_allocB (z := zzone) rfl (by decide +kernel) ?_
        intro w13 x13 s13 h13
        refine gset ?_
        refine wpl_storeB (v := .agg #[str t.o, y]) rfl rfl rfl h13 (show sizeTy Tryz.prog 34 2 = true by decide +kernel) rfl (zone_one hy1) ?_
        intro w14 p14
        have x14 : Ext w12 w14 := x13.move p14.mv (by rintro k ⟨⟩; exact Nat.le_refl _)
        have hz14 : w14.heap[w12.heap.size]? = some (.cells [str t.o, y].toArray 34 (0, 0)) := p14.this
        have x1114 := x12.trans x14
        have hx14 := hx11.trans x1114
        have hA14 := o11.grow x1114
        have hK14 := hK11.grow x1114
        have hk14 := x1114.at hk11
        have hy14 := hy.ext x14
        have hBr14 : B2 ≤ w14.heap.size := by have := x1114.size; omega
        clear p14 h13 x13 x12 x14 x1114 hx11 o11 hK11 hk11 hy hBr11
        generalize w12.heap.size = zk at *
        have hpz := pts_block (cs := [str t.o, y]) hz14
        have hpo := pts_block (cs := [.int .i64 op, .int .i64 n, .int .i64 now, u]) hk14
        have hpo2 : Pts w14 (partPtr (.pointer (some ⟨ok, 0, none⟩)) 2) [.int .i64 now, u] := hpo.part 2
        obtain ⟨v', -, -, -, k2, k3, -, -, -, hO⟩ := hK14.pts
        (repeat' first | ((with_reducible refine nx0 ?_); go_step) | ((with_reducible refine o_s ?_); first | refine wk1 ?_ | (refine wg0 ?_ ?_ <;> intro hc)) | fail)
        refine wpq_region (by decide +kernel) (by decide +kernel) ?_
        (try ((with_reducible refine qh0 ?_); refine qk1 ?_))
        refine wpq_call (enters_of Tryz.func17 rfl rfl) rfl rfl (fun w' x' => p_Wants (hA14.grow x') now) ?_
        refine gset ?_
        (try ((with_reducible refine qh0 ?_); refine qk1 ?_))
        refine wpq_call (enters_of Tryz.func35 rfl rfl) rfl rfl (fun w' x' => r17_Wants (hK14.grow x') now) ?_
        refine gset ?_
        (try ((with_reducible refine qh0 ?_); refine qk1 ?_))
        refine wpq_call (enters_of Tryz.func36 rfl rfl) rfl rfl (fun w' x' => p_Up (hA14.grow x') now) ?_
        refine gset ?_
        (try ((with_reducible refine qh0 ?_); refine qk1 ?_))
        refine wpq_call (enters_of Tryz.func37 rfl rfl) rfl rfl (fun w' x' => r17_Up (hK14.grow x') now) ?_
        refine gset ?_
        (try ((with_reducible refine qh0 ?_); refine qk1 ?_))
        refine wpq_run0 (fun w' _ => Runs.neqBSame rfl rfl (by decide +kernel)) ?_
        refine gset ?_
        (try ((with_reducible refine qh0 ?_); refine qk1 ?_))
        refine wpq_run0 (fun w' _ => Runs.neqBSame (b := t.z.isSome) rfl rfl (by decide +kernel)) ?_
        refine gset ?_
        (try ((with_reducible refine qh0 ?_); refine qk1 ?_))
        have hsame : ∀ w', Ext w14 w' → Calls Tryz.prog 38 #[.agg #[str t.o, y], .agg #[str t.o, v']] w' (RetV w' (.bool true)) := fun w' x' => by
         have h := r8_Same t.o t.o y v' t.l t.l w' (hy14.ext x').sets (hO.ext x').sets
         rwa [decide_eq_true rfl, decide_eq_true rfl] at h
        refine wpq_call (enters_of Tryz.func38 rfl rfl) rfl rfl hsame ?_
        refine gset ?_
        (try ((with_reducible refine qh0 ?_); refine qk1 ?_))
        intro w15 x15
        have hA15 := hA14.grow x15
        have hK15 := hK14.grow x15
        have hx15 := hx14.trans x15
        have hs15 := x15.size
        clear x15 hx14 hA14 hK14
        (repeat' first | ((with_reducible refine nx0 ?_); go_step) | ((with_reducible refine o_s ?_); first | refine wk1 ?_ | (refine wg0 ?_ ?_ <;> intro hc)) | fail)
        exact ⟨⟨k + 1, t, by omega, rfl, hx15, hA15, hK15, f0, by omega⟩, by simp [intOf]; omega⟩
     ·(repeat' first | ((with_reducible refine nx0 ?_); go_step) | ((with_reducible refine o_s ?_); first | refine wk1 ?_ | (refine wg0 ?_ ?_ <;> intro hc)) | fail)
      all_goals first
       | (exfalso; omega)
       | skip
      refine wpl_callV (enters_of Tryz.func15 rfl rfl) rfl rfl (l17_liveV _) ?_; intro w10 x10; refine gset ?_
      (repeat' first | ((with_reducible refine nx0 ?_); go_step) | ((with_reducible refine o_s ?_); first | refine wk1 ?_ | (refine wg0 ?_ ?_ <;> intro hc)) | fail)
      go_ret
      exact ⟨rfl, hx.trans x10⟩
    ·have hk2 : k = ps.length := by omega
     subst hk2
     (repeat' first | ((with_reducible refine nx0 ?_); go_step) | ((with_reducible refine o_s ?_); first | refine wk1 ?_ | (refine wg0 ?_ ?_ <;> intro hc)) | fail)
     refine wpl_callV (enters_of Tryz.func15 rfl rfl) rfl rfl (l17_liveV _) ?_; intro w10 x10; refine gset ?_
     (repeat' first | ((with_reducible refine nx0 ?_); go_step) | ((with_reducible refine o_s ?_); first | refine wk1 ?_ | (refine wg0 ?_ ?_ <;> intro hc)) | fail)
     go_ret
     exact ⟨rfl, hx.trans x10⟩
  ·rw [if_neg hE] at hp hk
   subst hp hk
   (repeat' first | ((with_reducible refine nx0 ?_); go_step) | ((with_reducible refine o_s ?_); first | refine wk1 ?_ | (refine wg0 ?_ ?_ <;> intro hc)) | fail)
   refine wpl_run0 (v := .bool false) (Runs.neqB2 (a := true) (b := true) rfl rfl (by decide +kernel)) ?_
   refine gset ?_
   (repeat' first | ((with_reducible refine nx0 ?_); go_step) | ((with_reducible refine o_s ?_); first | refine wk1 ?_ | (refine wg0 ?_ ?_ <;> intro hc)) | fail)
   refine wpl_callV (enters_of Tryz.func15 rfl rfl) rfl rfl (l17_liveV _) ?_; intro w10 x10; refine gset ?_
   (repeat' first | ((with_reducible refine nx0 ?_); go_step) | ((with_reducible refine o_s ?_); first | refine wk1 ?_ | (refine wg0 ?_ ?_ <;> intro hc)) | fail)
   go_ret
   exact ⟨rfl, (x1.trans x2).trans x10⟩
open Go.ChangeShapes Go.WideShapes Go.ChangeAt Go.RowKit
theorem own : ownKnob Tryz.prog.godebug = none := by kernel_rfl
theorem laidOut : laidOutB Tryz.prog = true := by kernel_rfl
theorem open_recs {H : Type} {enc : TypeId × Value → H} {w : World} {base : Nat} {spare : Nat → Bool} {held : Bool} {fuel : Nat} {v : Value} {x : DataW H × List MemPlace} (h : DataW.trod enc Tryz.prog w base spare held fuel 37 [v] = some x) : ∃ l : List Rec, Sl 4 w v (rcells l) := by
 obtain ⟨es, hs, he⟩ := open_rows Tryz.underlying37 (show Tryz.prog.cellsOf 81 = 4 by kernel_rfl) (by omega) h
 obtain ⟨l, rfl⟩ : ∃ l : List Rec, es = l.map Rec.cells := by
  refine all_map fun c hc => ?_
  obtain ⟨n, y, hy⟩ := he c hc
  obtain ⟨xs, n', _, _, hl, hxl, hf⟩ := DataW.trod_struct Tryz.underlying81 hy
  have c30 : Tryz.prog.cellsOf 27 = 1 := by kernel_rfl
  have c3 : Tryz.prog.cellsOf 3 = 1 := by kernel_rfl
  have c9 : Tryz.prog.cellsOf 9 = 1 := by kernel_rfl
  have c32 : Tryz.prog.cellsOf 81 = 4 := by kernel_rfl
  rw [c32] at hl
  match c, hl, xs, hxl with
  | [a, b, d, e], _, [y0, y1, y2, y3], _ =>
   have g0 := hf 0 _ rfl
   have g1 := hf 1 _ rfl
   have g2 := hf 2 _ rfl
   have g3 := hf 3 _ rfl
   simp [c30, c3, c9] at g0 g1 g2 g3
   obtain ⟨s0, rfl, _⟩ := trod_str Tryz.underlying27 g0
   obtain ⟨n1, rfl, _⟩ := trod_num Tryz.underlying3 g1
   obtain ⟨n2, rfl, _⟩ := trod_num Tryz.underlying3 g2
   obtain ⟨s3, rfl, _⟩ := trod_str Tryz.underlying9 g3
   exact ⟨⟨s0, n1, n2, s3⟩, rfl⟩
 exact ⟨l, hs⟩
open Go.ChangeShapes Go.WideShapes Go.ChangeAt Go.RowKit
theorem open_op {H : Type} {enc : TypeId × Value → H} {w : World} {base : Nat} {spare : Nat → Bool} {held : Bool} {fuel : Nat} {cl : List Value} {x : DataW H × List MemPlace} (h : DataW.trod enc Tryz.prog w base spare held fuel 48 cl = some x) : ∃ (p : OpR) (u : Value), cl = [.int .i64 p.op, .int .i64 p.n, .int .i64 p.now, u] ∧ Sl 4 w u (rcells p.l) := by
 obtain ⟨xs, n', _, _, hl, hxl, hf⟩ := DataW.trod_struct Tryz.underlying48 h
 have c3 : Tryz.prog.cellsOf 3 = 1 := by kernel_rfl
 have c4 : Tryz.prog.cellsOf 37 = 1 := by kernel_rfl
 have c5 : Tryz.prog.cellsOf 48 = 4 := by kernel_rfl
 rw [c5] at hl
 match cl, hl, xs, hxl with
 | [a, b, d, f], _, [y0, y1, y2, y3], _ =>
  have g0 := hf 0 _ rfl
  have g1 := hf 1 _ rfl
  have g2 := hf 2 _ rfl
  have g3 := hf 3 _ rfl
  simp [c3, c4] at g0 g1 g2 g3
  obtain ⟨n0, rfl, _⟩ := trod_num Tryz.underlying3 g0
  obtain ⟨n1, rfl, _⟩ := trod_num Tryz.underlying3 g1
  obtain ⟨n2, rfl, _⟩ := trod_num Tryz.underlying3 g2
  obtain ⟨l, hls⟩ := open_recs g3
  exact ⟨⟨n0, n1, n2, l⟩, f, rfl, hls⟩
theorem open_ops {H : Type} {enc : TypeId × Value → H} {w : World} {base : Nat} {spare : Nat → Bool} {held : Bool} {fuel : Nat} {v : Value} {x : DataW H × List MemPlace} (h : DataW.trod enc Tryz.prog w base spare held fuel 43 [v] = some x) : ∃ ps : List OpR, OpsAt w v ps := by
 obtain ⟨es, hs, he⟩ := open_rows Tryz.underlying43 (show Tryz.prog.cellsOf 48 = 4 by kernel_rfl) (by omega) h
 obtain ⟨l, rfl⟩ : ∃ l : List {p : OpR × Value // Sl 4 w p.2 (rcells p.1.l)}, es = l.map fun p => [.int .i64 p.1.1.op, .int .i64 p.1.1.n, .int .i64 p.1.1.now, p.1.2] := by
  refine all_map fun c hc => ?_
  obtain ⟨n, y, hy⟩ := he c hc
  obtain ⟨p, u, rfl, hu⟩ := open_op hy
  exact ⟨⟨(p, u), hu⟩, rfl⟩
 refine ⟨l.map fun p => p.1.1, _, hs, by simp, ?_⟩
 intro i s hi
 rw [List.getElem?_map] at hi
 obtain ⟨p, hp, rfl⟩ := Option.map_eq_some_iff.1 hi
 exact ⟨p.1.2, by rw [List.getElem?_map, hp]; rfl, p.2⟩
open Go.ChangeShapes Go.WideShapes Go.ChangeAt Go.RowKit
set_option maxRecDepth 100000 in
theorem secondScripts_lifted (os : Os) (started : os.Started) (H : Type) (enc : TypeId × Value → H) :
 ReturnsInHanded {} Tryz.checked os 5 .any (YtedoaagdhcimiaaGreat.Rows.secondScriptsSpec.pre6 enc Tryz.prog Tryz.f5 YtedoaagdhcimiaaGreat.Rows.secondScriptsRow.domain false) (YtedoaagdhcimiaaGreat.Rows.secondScriptsSpec.post enc Tryz.prog Tryz.f5 false true false false) := by
 refine returnsInHanded_of_change (C := Tryz.checked) own started (by kernel_rfl) Tryz.func5
  (ChangeSpec.witness6 (enc := enc) (C := Tryz.checked) false ⟨#[], #[str [], .int .i64 0, .slice none 0 0], []⟩ 8 (by kernel_rfl) (by kernel_rfl) (by kernel_rfl) (by kernel_rfl)) ?_
 intro W base args ds gs before hval0 hW hcnd _
 have hW' := hW
 obtain ⟨p, q, hA0, hV, rfl, hfz, hnd⟩ := hW
 have hA : DataW.TrodAll enc Tryz.prog W 0 (fun _ => true) true Tryz.f5.params.toList args.toList ds p := hA0
 have hval : ∀ (j : Nat) t v, Tryz.f5.params[j]? = some t → args[j]? = some v → Value.okWide Tryz.prog W .any base t v := hval0
 rw [Tryz.params5] at hA hval
 obtain ⟨v0, vs0, d0, ds0, p0, q0, hargs, rfl, rfl, h0, r0⟩ := trodAll_cons hA
 obtain ⟨v1, vs1, d1, ds1, p1, q1, rfl, rfl, rfl, h1, r1⟩ := trodAll_cons r0
 obtain ⟨v2, vs2, d2, ds2, p2, q2, rfl, rfl, rfl, h2, r2⟩ := trodAll_cons r1
 obtain ⟨rfl, rfl, rfl⟩ := trodAll_nil r2
 obtain rfl : args = #[v0, v1, v2] := by cases args; simp_all
 obtain ⟨rfl, rfl⟩ := trodVars_none hV
 have k0 := h0
 have k1 := h1
 have k2 := h2
 have lt0 : ∀ x ∈ p0, x.block < W.heap.size := by obtain ⟨m, hm⟩ := k0; exact DataW.trod_lt m _ _ _ hm
 have lt1 : ∀ x ∈ p1, x.block < W.heap.size := by obtain ⟨m, hm⟩ := k1; exact DataW.trod_lt m _ _ _ hm
 have lt2 : ∀ x ∈ p2, x.block < W.heap.size := by obtain ⟨m, hm⟩ := k2; exact DataW.trod_lt m _ _ _ hm
 obtain ⟨b0, rfl⟩ := okWide_string Tryz.underlying27 (hval 0 27 v0 rfl rfl)
 obtain ⟨n0, e0⟩ : ∃ n : List UInt8, Value.string b0 = str n := ⟨b0.data.toList, by rw [str, Array.toArray_toList]⟩
 obtain ⟨n1, rfl⟩ := okWide_int Tryz.underlying3 (hval 1 3 v1 rfl rfl)
 obtain ⟨a2, len2, cap2, rfl⟩ := okWide_slice Tryz.underlying43 (hval 2 43 v2 rfl rfl)
 obtain ⟨l2, g2⟩ : ∃ ps, OpsAt W (.slice a2 len2 cap2) ps := by
  obtain ⟨fuel, hf⟩ := h2
  exact open_ops hf
 clear hA0 hval0
 have h9 := l17_Scripts n0 n1 _ l2 W g2
 rw [← e0] at h9
 refine h9.mono fun e W' ⟨he, hx⟩ => ?_
 subst he
 have bel := hx.below
 exact ⟨_, rfl, _, _, _, [], _, [], hW', trodAll_mk1 (shut_bool Tryz.underlying4 _), (trodAll_cons_mk (Below.trod laidOut (by kernel_rfl) (of_decide_eq_true (by kernel_rfl)) k0 bel lt0) (trodAll_cons_mk (Below.trod laidOut (by kernel_rfl) (of_decide_eq_true (by kernel_rfl)) k1 bel lt1) (trodAll_cons_mk (Below.trod laidOut (by kernel_rfl) (of_decide_eq_true (by kernel_rfl)) k2 bel lt2) trodAll_mk0))), rfl, bel.frame _, fun h => by cases h⟩
theorem e_enter : Tryz.checked.prog.mayEnter = true := by kernel_rfl
theorem e_lift : (YtedoaagdhcimiaaGreat.Rows.secondScriptsRow.lifted == Tryz.checked.prog.liftsFinal) = true := by kernel_rfl
theorem e_make : (Tryz.checked.prog.make == some YtedoaagdhcimiaaGreat.Rows.secondScriptsRow.make) = true := by kernel_rfl
theorem secondScripts_closed : joinedFacts Tryz.checked.prog 5 Tryz.f5 YtedoaagdhcimiaaGreat.Rows.secondScriptsSpec YtedoaagdhcimiaaGreat.Rows.secondScriptsRow = true := by
 unfold joinedFacts
 simp only [Bool.and_eq_true]
 repeat' (refine And.intro ?_ ?_)
 all_goals first | (with_reducible exact e_enter) | (with_reducible exact e_lift) | (with_reducible exact e_make) | kernel_rfl
theorem secondScripts_holds : YtedoaagdhcimiaaGreat.Rows.SecondScriptsSaid :=
 OpenClaim.holds_of_wide 5 Tryz.f5 rfl rfl rfl rfl rfl rfl rfl ⟨rfl, rfl, rfl, rfl, rfl⟩ rfl rfl rfl rfl rfl (by kernel_rfl) Tryz.func5 secondScripts_closed
  (of_decide_eq_true (by kernel_rfl)) (by unfold Func.isWrapper; first | (rw [if_pos (by decide +kernel)]; kernel_rfl) | (rw [if_neg (by decide +kernel)]; exact ⟨rfl, rfl⟩))
  (fun os started H enc _ => secondScripts_lifted os started H enc)
end Go.Proofs.X
