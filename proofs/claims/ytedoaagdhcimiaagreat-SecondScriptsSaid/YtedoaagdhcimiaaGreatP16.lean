/- Laws and walks that the proof of the statement is made of (part 16). -/
import Derived.Test.YtedoaagdhcimiaaGreatProg
import Derived.OrdersIn
import Derived.LoopIn
import Derived.Test.YtedoaagdhcimiaaGreatShelf
import Derived.Shelf.RegionOpenPlain
import Derived.Lib.Strings
import Derived.Lib.Slices
import Derived.Lib.Walk
import Derived.Lib.Builder
import Derived.Lib.AppendStr
import Derived.Lib.UnsafeStr
import Derived.Lib.MakeNoZero
import Derived.WalkKit
import Derived.Laws.Externs
import Derived.Laws.IdiomCopy
import Derived.Laws.BitsLemmas
import GoSem.Claims
import Derived.Shelf.SlSortCmp.NoneTotal
import Derived.OwnWalk
import Derived.Laws.Pointers
import Derived.WalkMore
import Derived.ScopeJumps
import Derived.Lib.Hide
import Derived.Test.YtedoaagdhcimiaaGreatP1
import Derived.Test.YtedoaagdhcimiaaGreatP2
import Derived.Test.YtedoaagdhcimiaaGreatP3
import Derived.Test.YtedoaagdhcimiaaGreatP4
import Derived.Test.YtedoaagdhcimiaaGreatP5
import Derived.Test.YtedoaagdhcimiaaGreatP8
import Derived.Test.YtedoaagdhcimiaaGreatP9
import Derived.Test.YtedoaagdhcimiaaGreatP10
import Derived.Test.YtedoaagdhcimiaaGreatP11
import Derived.Test.YtedoaagdhcimiaaGreatP12
import Derived.Test.YtedoaagdhcimiaaGreatP13
import Derived.Test.YtedoaagdhcimiaaGreatP14
import Derived.Test.YtedoaagdhcimiaaGreatP15
set_option linter.unusedSimpArgs false
set_option linter.unusedVariables false
namespace Go.Proofs.X
open Go.RowKit
set_option maxRecDepth 100000
theorem KSt.pts {B : Nat} {w : World} {b : Nat} {s : SecR} (h : KSt B w b s) : ∃ v, w.heap[b]? = some (.cells (kecC s v).toArray 55 (0, 0)) ∧ Pts w (.pointer (some ⟨b, 0, none⟩)) (kecC s v) ∧ Pts w (partPtr (.pointer (some ⟨b, 0, none⟩)) 1) [.int .i64 s.retry, .bool s.z.isSome, str s.o, v, .int .i64 s.next, .int .i64 s.til, .bool s.take] ∧ Pts w (partPtr (.pointer (some ⟨b, 0, none⟩)) 2) [.bool s.z.isSome, str s.o, v, .int .i64 s.next, .int .i64 s.til, .bool s.take] ∧ Pts w (partPtr (.pointer (some ⟨b, 0, none⟩)) 3) [str s.o, v] ∧
 Pts w (partPtr (.pointer (some ⟨b, 0, none⟩)) 5) [.int .i64 s.next, .int .i64 s.til, .bool s.take] ∧ Pts w (partPtr (.pointer (some ⟨b, 0, none⟩)) 6) [.int .i64 s.til, .bool s.take] ∧ Pts w (partPtr (.pointer (some ⟨b, 0, none⟩)) 7) [.bool s.take] ∧ SetsO B w v s.l := by
 obtain ⟨_, v, h2, h3⟩ := h
 have hp := pts_block (cs := kecC s v) h2
 refine ⟨v, h2, hp, hp.part 1, hp.part 2, ?_, hp.part 5, hp.part 6, hp.part 7, h3⟩
 exact (hp.part 3).front 2
theorem kecC_take (s : SecR) (v : Value) (t : Bool) : (kecC s v).set 7 (.bool t) = kecC { s with take := t } v := rfl
theorem kecC_next (s : SecR) (v : Value) (n : Int) : (kecC s v).set 5 (.int .i64 n) = kecC { s with next := n } v := rfl
theorem kecC_til (s : SecR) (v : Value) (n : Int) : (kecC s v).set 6 (.int .i64 n) = kecC { s with til := n } v := rfl
def KecStep (B b : Nat) (t : SecR) (w : World) (e : Ending) (w' : World) : Prop := e = .returned (.tuple #[]) ∧ KSt B w' b t ∧ Mv (some b) w w'
theorem KSt.put' {B : Nat} {w w' : World} {b : Nat} {s t : SecR} {v : Value} (h : KSt B w b s) (hb : w.heap[b]? = some (.cells (kecC s v).toArray 55 (0, 0))) (hp : Put w w' b (.cells (kecC t v).toArray 55 (0, 0))) (hz : t.l = s.l) : KSt B w' b t := by
 obtain ⟨h1, v', h2, h3⟩ := h
 have e : v' = v := by
  rw [hb] at h2
  have h5 : (kecC s v).toArray = (kecC s v').toArray := by simpa using h2
  have h6 : kecC s v = kecC s v' := by simpa using h5
  simpa [kecC] using h6.symm
 subst e
 exact KSt.put h3 h1 hp hz
theorem KSt.soa_ok {s : SecR} (hs : SecOk s) : (∀ t ∈ s.l, t.data.length ≤ 1000000) ∧ (∀ t ∈ s.l, ∀ d ∈ t.data, d.length ≤ 4611686018427387904) := by
 obtain ⟨a, b, _⟩ := hs.bounds
 exact ⟨a, fun t ht d hd => by have := b t ht d hd; omega⟩
set_option maxHeartbeats 1000000 in
theorem r17_soa {B : Nat} {w : World} {b : Nat} {s : SecR} (h : KSt B w b s) (hs : SecOk s) : Calls Tryz.prog 77 #[.pointer (some ⟨b, 0, none⟩)] w (RetV w (.agg s.soa.cells.toArray)) := by
 obtain ⟨v, hb, -, h1, h2, h3, h5, h6, h7, hO⟩ := h.pts
 go_enter Tryz.func77, Tryz.ntmps77
 repeat' (first | ((with_reducible refine nx0 ?_); go_step) | fail)
 refine wpl_allocB (z := zeroSoa) rfl (by decide +kernel) ?_
 intro w1 x1 s1 ha
 refine gset ?_
 have g1 := h1.ext x1
 have g2 := h2.ext x1
 have g3 := h3.ext x1
 have hO1 := hO.ext x1
 clear h1 h2 h3
 cases hq : s.z with
 | none =>
  have hsm : s.z.isSome = false := by rw [hq]; rfl
  rw [hsm] at g2
  (repeat' first | ((with_reducible refine nx0 ?_); go_step) | ((with_reducible refine o_s ?_); first | refine wk1 ?_ | (refine wg0 ?_ ?_ <;> intro hc)) | fail)
  refine wpi_region 9 (Ext w1) (by decide +kernel) ?_
  intro w2 x2 _
  refine ⟨x2, ?_⟩
  refine ip1 0 ?_; refine ip1 1 ?_; refine ip1 2 ?_
  refine it1 3 ?_
  refine ip1 4 ?_; refine ip1 5 ?_; refine ip1 6 ?_
  refine it1 7 ?_
  refine ipr0 8 (v := .agg s.soa.cells.toArray) rfl (fun _ => Runs.build rfl (by simp only [SecR.soa, hq, SoaR.cells]; kernel_rfl)) ?_
  refine gset ?_
  refine wpi_op (i := 9) (by decide +kernel) rfl rfl ?_
  refine wpl_storeB (v := .agg s.soa.cells.toArray) rfl rfl rfl (x2.at ha) (show sizeTy Tryz.prog 61 7 = true by decide +kernel) rfl (soaR_one _) ?_
  intro w3 p3
  refine wph_nil ⟨till_no rfl, ?_⟩
  refine wpi_done (by decide +kernel) ?_
  (repeat' first | ((with_reducible refine nx0 ?_); go_step) | ((with_reducible refine o_s ?_); first | refine wk1 ?_ | (refine wg0 ?_ ?_ <;> intro hc)) | fail)
  have x3 : Ext w w3 := (x1.trans x2).move p3.mv (by rintro k ⟨⟩; exact Nat.le_refl _)
  refine bodyPost_ret (results_cell1 (cs := s.soa.cells) rfl rfl p3.this (show aggTy Tryz.prog 61 7 = true by decide +kernel)) rfl ⟨rfl, x3⟩
 | some q =>
  have hsm : s.z.isSome = true := by rw [hq]; rfl
  rw [hsm] at g2
  (repeat' first | ((with_reducible refine nx0 ?_); go_step) | ((with_reducible refine o_s ?_); first | refine wk1 ?_ | (refine wg0 ?_ ?_ <;> intro hc)) | fail)
  refine wpl_callV (enters_of Tryz.func96 rfl rfl) rfl rfl (r8_Soa s.o v s.l _ hO1.sets (KSt.soa_ok hs).1 (KSt.soa_ok hs).2) ?_; intro w2 x2; refine gset ?_
  have hE : s.soa = soaZ s.o s.l := by simp only [SecR.soa, SecR.o, SecR.l, hq]
  (repeat' first | ((with_reducible refine nx0 ?_); go_step) | ((with_reducible refine o_s ?_); first | refine wk1 ?_ | (refine wg0 ?_ ?_ <;> intro hc)) | fail)
  refine wpl_allocB (z := zeroSoa) rfl (by decide +kernel) ?_
  intro w3 x3 s3 h3
  refine gset ?_
  refine wpl_storeB (v := .agg (soaZ s.o s.l).cells.toArray) rfl rfl rfl h3 (show sizeTy Tryz.prog 61 7 = true by decide +kernel) rfl (soaR_one _) ?_
  intro w4 p4
  have x4 : Ext w2 w4 := x3.move p4.mv (by rintro k ⟨⟩; exact Nat.le_refl _)
  have hk4 : w4.heap[w2.heap.size]? = some (.cells (soaZ s.o s.l).cells.toArray 61 (0, 0)) := p4.this
  have hpz := pts_block (cs := (soaZ s.o s.l).cells) hk4
  have x24 := x2.trans x4
  have ha4 := x24.at ha
  generalize w2.heap.size = zk at *
  clear p4 h3 x3
  (repeat' first | ((with_reducible refine nx0 ?_); go_step) | ((with_reducible refine o_s ?_); first | refine wk1 ?_ | (refine wg0 ?_ ?_ <;> intro hc)) | fail)
  refine wpl_run0 (Runs.loadN hpz rfl (show aggTy Tryz.prog 61 7 = true by decide +kernel)) ?_
  refine gset ?_
  refine wpl_storeB (v := .agg (soaZ s.o s.l).cells.toArray) rfl rfl rfl ha4 (show sizeTy Tryz.prog 61 7 = true by decide +kernel) rfl (soaR_one _) ?_
  intro w5 p5
  (repeat' first | ((with_reducible refine nx0 ?_); go_step) | ((with_reducible refine o_s ?_); first | refine wk1 ?_ | (refine wg0 ?_ ?_ <;> intro hc)) | fail)
  have x5 : Ext w w5 := (x1.trans x24).move p5.mv (by rintro k ⟨⟩; exact Nat.le_refl _)
  rw [hE]
  refine bodyPost_ret (results_cell1 (cs := (soaZ s.o s.l).cells) rfl rfl p5.this (show aggTy Tryz.prog 61 7 = true by decide +kernel)) rfl ⟨rfl, x5⟩
set_option maxHeartbeats 1000000 in
theorem r17_Wants {B : Nat} {w : World} {b : Nat} {s : SecR} (h : KSt B w b s) (now : Int) : Calls Tryz.prog 35 #[.pointer (some ⟨b, 0, none⟩), .int .i64 now] w (RetV w (.int .i64 (s.wants now))) := by
 obtain ⟨v, hb, -, h1, h2, h3, h5, h6, h7, hO⟩ := h.pts
 go_enter Tryz.func35, Tryz.ntmps35
 (repeat' first | ((with_reducible refine nx0 ?_); go_step) | ((with_reducible refine o_s ?_); first | refine wk1 ?_ | (refine wg0 ?_ ?_ <;> intro hc)) | fail)
 refine wpl_callV (enters_of Tryz.func74 rfl rfl) rfl rfl (r12_Time now _) ?_; intro w1 x1; refine gset ?_
 have g5 := h5.ext x1
 have g7 := h7.ext x1
 cases ht : okTime now with
 | false =>
  (repeat' first | ((with_reducible refine nx0 ?_); go_step) | ((with_reducible refine o_s ?_); first | refine wk1 ?_ | (refine wg0 ?_ ?_ <;> intro hc)) | fail)
  go_ret
  exact ⟨by simp [SecR.wants, ht], x1⟩
 | true =>
  (repeat' first | ((with_reducible refine nx0 ?_); go_step) | ((with_reducible refine o_s ?_); first | refine wk1 ?_ | (refine wg0 ?_ ?_ <;> intro hc)) | fail)
  all_goals
   go_ret
   refine ⟨?_, x1⟩
   simp_all [SecR.wants]
set_option maxHeartbeats 1000000 in
theorem r17_later {B : Nat} {w : World} {b : Nat} {s : SecR} (h : KSt B w b s) (hs : SecOk s) (n : Int) : Calls Tryz.prog 76 #[.pointer (some ⟨b, 0, none⟩), .int .i64 n] w (RetV w (.bool (s.news n))) := by
 obtain ⟨v, hb, -, h1, h2, h3, h5, h6, h7, hO⟩ := h.pts
 go_enter Tryz.func76, Tryz.ntmps76
 cases hq : s.z with
 | none =>
  have hsm : s.z.isSome = false := by rw [hq]; rfl
  rw [hsm] at h2
  (repeat' first | ((with_reducible refine nx0 ?_); go_step) | ((with_reducible refine o_s ?_); first | refine wk1 ?_ | (refine wg0 ?_ ?_ <;> intro hc)) | fail)
  go_ret
  exact ⟨by simp [SecR.news, hq], Ext.refl _⟩
 | some q =>
  have hsm : s.z.isSome = true := by rw [hq]; rfl
  rw [hsm] at h2
  (repeat' first | ((with_reducible refine nx0 ?_); go_step) | ((with_reducible refine o_s ?_); first | refine wk1 ?_ | (refine wg0 ?_ ?_ <;> intro hc)) | fail)
  refine wpl_callV (enters_of Tryz.func77 rfl rfl) rfl rfl (r17_soa h hs) ?_; intro w1 x1; refine gset ?_
  ((with_reducible refine o_s ?_); refine o_g ?_; refine o_u ?_)
  refine wpl_run0 (Runs.fieldV (off := 2) (v := .int .i64 s.soa.serial) rfl rfl (by decide +kernel)) ?_
  refine gset ?_
  (repeat' first | ((with_reducible refine nx0 ?_); go_step) | ((with_reducible refine o_s ?_); first | refine wk1 ?_ | (refine wg0 ?_ ?_ <;> intro hc)) | fail)
  refine wpl_callV (enters_of Tryz.func97 rfl rfl) rfl rfl (r2_Later _ _ _) ?_; intro w2 x2; refine gset ?_
  (repeat' first | ((with_reducible refine nx0 ?_); go_step) | ((with_reducible refine o_s ?_); first | refine wk1 ?_ | (refine wg0 ?_ ?_ <;> intro hc)) | fail)
  go_ret
  exact ⟨by simp [SecR.news, hq], x1.trans x2⟩
set_option maxHeartbeats 1000000 in
theorem r17_fresh {B : Nat} {w : World} {b : Nat} {s : SecR} (h : KSt B w b s) (hs : SecOk s) (now : Int) (hn : okTime now = true) : Calls Tryz.prog 78 #[.pointer (some ⟨b, 0, none⟩), .int .i64 now] w (KecStep B b (s.fresh now) w) := by
 obtain ⟨v, hb, -, h1, h2, h3, h5, h6, h7, hO⟩ := h.pts
 have hn' := okTime_iff.1 hn
 obtain ⟨b1, b2, b3, b4, b5, b6⟩ := hs.soa
 go_enter Tryz.func78, Tryz.ntmps78
 (repeat' first | ((with_reducible refine nx0 ?_); go_step) | ((with_reducible refine o_s ?_); first | refine wk1 ?_ | (refine wg0 ?_ ?_ <;> intro hc)) | fail)
 refine wpl_storeF (n := 7) (v := .bool false) hb rfl rfl rfl (by simp [kecC]) (by decide +kernel) rfl ?_
 intro w1 p1
 rw [kecC_take] at p1
 have a1 := h.put' hb p1 rfl
 have o1 := hs.of (t := { s with take := false }) rfl rfl rfl
 (repeat' first | ((with_reducible refine nx0 ?_); go_step) | ((with_reducible refine o_s ?_); first | refine wk1 ?_ | (refine wg0 ?_ ?_ <;> intro hc)) | fail)
 refine wpl_callV (enters_of Tryz.func77 rfl rfl) rfl rfl ((show Calls Tryz.prog 77 #[.pointer (some ⟨b, 0, none⟩)] w1 (RetV w1 (.agg s.soa.cells.toArray)) from r17_soa (s := { s with take := false }) a1 o1)) ?_; intro w2 x2; refine gset ?_
 refine wpl_run0 (Runs.fieldV (off := 3) (v := .int .i64 s.soa.refresh) rfl rfl (by decide +kernel)) ?_
 refine gset ?_
 (repeat' first | ((with_reducible refine nx0 ?_); go_step) | ((with_reducible refine o_s ?_); first | refine wk1 ?_ | (refine wg0 ?_ ?_ <;> intro hc)) | fail)
 refine wpl_storeF (n := 5) (v := .int .i64 (now + s.soa.refresh)) (x2.at p1.this) rfl rfl rfl (by simp [kecC]) (by decide +kernel) rfl ?_
 intro w3 p3
 rw [kecC_next] at p3
 have a3 := (a1.grow x2).put' (x2.at p1.this) p3 rfl
 have o3 := hs.of (t := { s with take := false, next := now + s.soa.refresh }) rfl rfl rfl
 (repeat' first | ((with_reducible refine nx0 ?_); go_step) | ((with_reducible refine o_s ?_); first | refine wk1 ?_ | (refine wg0 ?_ ?_ <;> intro hc)) | fail)
 refine wpl_callV (enters_of Tryz.func77 rfl rfl) rfl rfl ((show Calls Tryz.prog 77 #[.pointer (some ⟨b, 0, none⟩)] w3 (RetV w3 (.agg s.soa.cells.toArray)) from r17_soa (s := { s with take := false, next := now + s.soa.refresh }) a3 o3)) ?_; intro w4 x4; refine gset ?_
 refine wpl_run0 (Runs.fieldV (off := 5) (v := .int .i64 s.soa.expire) rfl rfl (by decide +kernel)) ?_
 refine gset ?_
 (repeat' first | ((with_reducible refine nx0 ?_); go_step) | ((with_reducible refine o_s ?_); first | refine wk1 ?_ | (refine wg0 ?_ ?_ <;> intro hc)) | fail)
 refine wpl_storeF (n := 6) (v := .int .i64 (now + s.soa.expire)) (x4.at p3.this) rfl rfl rfl (by simp [kecC]) (by decide +kernel) rfl ?_
 intro w5 p5
 rw [kecC_til] at p5
 have a5 := (a3.grow x4).put' (x4.at p3.this) p5 rfl
 (repeat' first | ((with_reducible refine nx0 ?_); go_step) | ((with_reducible refine o_s ?_); first | refine wk1 ?_ | (refine wg0 ?_ ?_ <;> intro hc)) | fail)
 go_end0
 exact ⟨rfl, a5, (((p1.mv.trans (x2.mv _)).trans p3.mv).trans (x4.mv _)).trans p5.mv⟩
set_option maxHeartbeats 1000000 in
theorem r17_Failed {B : Nat} {w : World} {b : Nat} {s : SecR} (h : KSt B w b s) (hs : SecOk s) (now : Int) : Calls Tryz.prog 30 #[.pointer (some ⟨b, 0, none⟩), .int .i64 now] w (KecStep B b (s.failed now) w) := by
 obtain ⟨v, hb, -, h1, h2, h3, h5, h6, h7, hO⟩ := h.pts
 obtain ⟨b1, b2, b3, b4, b5, b6⟩ := hs.soa
 go_enter Tryz.func30, Tryz.ntmps30
 (repeat' first | ((with_reducible refine nx0 ?_); go_step) | ((with_reducible refine o_s ?_); first | refine wk1 ?_ | (refine wg0 ?_ ?_ <;> intro hc)) | fail)
 refine wpl_callV (enters_of Tryz.func74 rfl rfl) rfl rfl (r12_Time now _) ?_; intro w1 x1; refine gset ?_
 have hb1 := x1.at hb
 cases ht : okTime now with
 | false =>
  (repeat' first | ((with_reducible refine nx0 ?_); go_step) | ((with_reducible refine o_s ?_); first | refine wk1 ?_ | (refine wg0 ?_ ?_ <;> intro hc)) | fail)
  go_end0
  exact ⟨rfl, by rw [SecR.failed, if_neg (by simp [ht])]; exact h.grow x1, x1.mv _⟩
 | true =>
  have hn' := okTime_iff.1 ht
  (repeat' first | ((with_reducible refine nx0 ?_); go_step) | ((with_reducible refine o_s ?_); first | refine wk1 ?_ | (refine wg0 ?_ ?_ <;> intro hc)) | fail)
  refine wpl_storeF (n := 7) (v := .bool false) hb1 rfl rfl rfl (by simp [kecC]) (by decide +kernel) rfl ?_
  intro w2 p2
  rw [kecC_take] at p2
  have a2 := (h.grow x1).put' hb1 p2 rfl
  have o2 := hs.of (t := { s with take := false }) rfl rfl rfl
  (repeat' first | ((with_reducible refine nx0 ?_); go_step) | ((with_reducible refine o_s ?_); first | refine wk1 ?_ | (refine wg0 ?_ ?_ <;> intro hc)) | fail)
  refine wpl_callV (enters_of Tryz.func77 rfl rfl) rfl rfl ((show Calls Tryz.prog 77 #[.pointer (some ⟨b, 0, none⟩)] w2 (RetV w2 (.agg s.soa.cells.toArray)) from r17_soa (s := { s with take := false }) a2 o2)) ?_; intro w3 x3; refine gset ?_
  refine wpl_run0 (Runs.fieldV (off := 4) (v := .int .i64 s.soa.retry) rfl rfl (by decide +kernel)) ?_
  refine gset ?_
  (repeat' first | ((with_reducible refine nx0 ?_); go_step) | ((with_reducible refine o_s ?_); first | refine wk1 ?_ | (refine wg0 ?_ ?_ <;> intro hc)) | fail)
  refine wpl_storeF (n := 5) (v := .int .i64 (now + s.soa.retry)) (x3.at p2.this) rfl rfl rfl (by simp [kecC]) (by decide +kernel) rfl ?_
  intro w4 p4
  rw [kecC_next] at p4
  have a4 := (a2.grow x3).put' (x3.at p2.this) p4 rfl
  (repeat' first | ((with_reducible refine nx0 ?_); go_step) | ((with_reducible refine o_s ?_); first | refine wk1 ?_ | (refine wg0 ?_ ?_ <;> intro hc)) | fail)
  go_end0
  exact ⟨rfl, by rw [SecR.failed, if_pos ht]; exact a4, (((x1.mv _).trans p2.mv).trans (x3.mv _)).trans p4.mv⟩
set_option maxHeartbeats 1000000 in
theorem r17_Crash {B : Nat} {w : World} {b : Nat} {s : SecR} (h : KSt B w b s) : Calls Tryz.prog 32 #[.pointer (some ⟨b, 0, none⟩)] w (KecStep B b s.crash w) := by
 obtain ⟨v, hb, -, h1, h2, h3, h5, h6, h7, hO⟩ := h.pts
 go_enter Tryz.func32, Tryz.ntmps32
 (repeat' first | ((with_reducible refine nx0 ?_); go_step) | ((with_reducible refine o_s ?_); first | refine wk1 ?_ | (refine wg0 ?_ ?_ <;> intro hc)) | fail)
 refine wpl_storeF (n := 7) (v := .bool false) hb rfl rfl rfl (by simp [kecC]) (by decide +kernel) rfl ?_
 intro w2 p2
 rw [kecC_take] at p2
 (repeat' first | ((with_reducible refine nx0 ?_); go_step) | ((with_reducible refine o_s ?_); first | refine wk1 ?_ | (refine wg0 ?_ ?_ <;> intro hc)) | fail)
 refine wpl_storeF (n := 5) (v := .int .i64 0) p2.this rfl rfl rfl (by simp [kecC]) (by decide +kernel) rfl ?_
 intro w3 p3
 rw [kecC_next] at p3
 (repeat' first | ((with_reducible refine nx0 ?_); go_step) | ((with_reducible refine o_s ?_); first | refine wk1 ?_ | (refine wg0 ?_ ?_ <;> intro hc)) | fail)
 go_end0
 have a2 := h.put' hb p2 rfl
 have a3 := a2.put' p2.this p3 rfl
 exact ⟨rfl, a3, p2.mv.trans p3.mv⟩
set_option maxHeartbeats 1000000 in
theorem r17_Up {B : Nat} {w : World} {b : Nat} {s : SecR} (h : KSt B w b s) (now : Int) : Calls Tryz.prog 37 #[.pointer (some ⟨b, 0, none⟩), .int .i64 now] w (RetV w (.bool (s.up now))) := by
 obtain ⟨v, hb, -, h1, h2, h3, h5, h6, h7, hO⟩ := h.pts
 go_enter Tryz.func37, Tryz.ntmps37
 (repeat' first | ((with_reducible refine nx0 ?_); go_step) | ((with_reducible refine o_s ?_); first | refine wk1 ?_ | (refine wg0 ?_ ?_ <;> intro hc)) | fail)
 refine wpl_callV (enters_of Tryz.func74 rfl rfl) rfl rfl (r12_Time now _) ?_; intro w1 x1; refine gset ?_
 have g2 := h2.ext x1
 have g6 := h6.ext x1
 cases ht : okTime now with
 | false =>
  (repeat' first | ((with_reducible refine nx0 ?_); go_step) | ((with_reducible refine o_s ?_); first | refine wk1 ?_ | (refine wg0 ?_ ?_ <;> intro hc)) | fail)
  go_ret
  exact ⟨by simp [SecR.up, ht], x1⟩
 | true =>
  cases hq : s.z.isSome with
  | false =>
   rw [hq] at g2
   clear h2
   (repeat' first | ((with_reducible refine nx0 ?_); go_step) | ((with_reducible refine o_s ?_); first | refine wk1 ?_ | (refine wg0 ?_ ?_ <;> intro hc)) | fail)
   go_ret
   exact ⟨by simp [SecR.up, ht, hq], x1⟩
  | true =>
   rw [hq] at g2
   clear h2
   (repeat' first | ((with_reducible refine nx0 ?_); go_step) | ((with_reducible refine o_s ?_); first | refine wk1 ?_ | (refine wg0 ?_ ?_ <;> intro hc)) | fail)
   go_ret
   exact ⟨by simp [SecR.up, ht, hq], x1⟩
set_option maxHeartbeats 1000000 in
theorem r17_Notify {B : Nat} {w : World} {b : Nat} {s : SecR} (h : KSt B w b s) (hs : SecOk s) (n now : Int) : Calls Tryz.prog 28 #[.pointer (some ⟨b, 0, none⟩), .int .i64 n, .int .i64 now] w (KecStep B b (s.notify n now) w) := by
 obtain ⟨v, hb, -, h1, h2, h3, h5, h6, h7, hO⟩ := h.pts
 go_enter Tryz.func28, Tryz.ntmps28
 (repeat' first | ((with_reducible refine nx0 ?_); go_step) | ((with_reducible refine o_s ?_); first | refine wk1 ?_ | (refine wg0 ?_ ?_ <;> intro hc)) | fail)
 refine wpl_callV (enters_of Tryz.func74 rfl rfl) rfl rfl (r12_Time now _) ?_; intro w1 x1; refine gset ?_
 cases ht : okTime now with
 | false =>
  (repeat' first | ((with_reducible refine nx0 ?_); go_step) | ((with_reducible refine o_s ?_); first | refine wk1 ?_ | (refine wg0 ?_ ?_ <;> intro hc)) | fail)
  go_end0
  exact ⟨rfl, by rw [SecR.notify, if_neg (by simp [ht])]; exact h.grow x1, x1.mv _⟩
 | true =>
  (repeat' first | ((with_reducible refine nx0 ?_); go_step) | ((with_reducible refine o_s ?_); first | refine wk1 ?_ | (refine wg0 ?_ ?_ <;> intro hc)) | fail)
  refine wpl_callV (enters_of Tryz.func75 rfl rfl) rfl rfl (r2_May n _) ?_; intro w2 x2; refine gset ?_
  have hx2 := x1.trans x2
  cases hk : okSer n with
  | false =>
   (repeat' first | ((with_reducible refine nx0 ?_); go_step) | ((with_reducible refine o_s ?_); first | refine wk1 ?_ | (refine wg0 ?_ ?_ <;> intro hc)) | fail)
   go_end0
   exact ⟨rfl, by rw [SecR.notify, if_neg (by simp [hk])]; exact h.grow hx2, hx2.mv _⟩
  | true =>
   (repeat' first | ((with_reducible refine nx0 ?_); go_step) | ((with_reducible refine o_s ?_); first | refine wk1 ?_ | (refine wg0 ?_ ?_ <;> intro hc)) | fail)
   refine wpl_callV (enters_of Tryz.func76 rfl rfl) rfl rfl (r17_later (h.grow hx2) hs n) ?_; intro w3 x3; refine gset ?_
   have hx3 := hx2.trans x3
   cases hnw : s.news n with
   | false =>
    (repeat' first | ((with_reducible refine nx0 ?_); go_step) | ((with_reducible refine o_s ?_); first | refine wk1 ?_ | (refine wg0 ?_ ?_ <;> intro hc)) | fail)
    go_end0
    exact ⟨rfl, by rw [SecR.notify, if_neg (by simp [hnw])]; exact h.grow hx3, hx3.mv _⟩
   | true =>
    have hb3 := hx3.at hb
    have g5 := h5.ext hx3
    (repeat' first | ((with_reducible refine nx0 ?_); go_step) | ((with_reducible refine o_s ?_); first | refine wk1 ?_ | (refine wg0 ?_ ?_ <;> intro hc)) | fail)
    refine wpl_storeF (n := 5) (v := .int .i64 (min s.next now)) hb3 rfl rfl rfl (by simp [kecC]) (by decide +kernel) rfl ?_
    intro w4 p4
    rw [kecC_next] at p4
    (repeat' first | ((with_reducible refine nx0 ?_); go_step) | ((with_reducible refine o_s ?_); first | refine wk1 ?_ | (refine wg0 ?_ ?_ <;> intro hc)) | fail)
    go_end0
    have a4 := (h.grow hx3).put' hb3 p4 rfl
    exact ⟨rfl, by rw [SecR.notify, if_pos (by simp [ht, hk, hnw])]; exact a4, (hx3.mv _).trans p4.mv⟩
set_option maxHeartbeats 1000000 in
theorem r17_Heard {B : Nat} {w : World} {b : Nat} {s : SecR} (h : KSt B w b s) (hs : SecOk s) (n now : Int) : Calls Tryz.prog 29 #[.pointer (some ⟨b, 0, none⟩), .int .i64 n, .int .i64 now] w (KecStep B b (s.heard n now) w) := by
 obtain ⟨v, hb, -, h1, h2, h3, h5, h6, h7, hO⟩ := h.pts
 obtain ⟨b1, b2, b3, b4, b5, b6⟩ := hs.soa
 go_enter Tryz.func29, Tryz.ntmps29
 (repeat' first | ((with_reducible refine nx0 ?_); go_step) | ((with_reducible refine o_s ?_); first | refine wk1 ?_ | (refine wg0 ?_ ?_ <;> intro hc)) | fail)
 refine wpl_callV (enters_of Tryz.func74 rfl rfl) rfl rfl (r12_Time now _) ?_; intro w1 x1; refine gset ?_
 cases ht : okTime now with
 | false =>
  (repeat' first | ((with_reducible refine nx0 ?_); go_step) | ((with_reducible refine o_s ?_); first | refine wk1 ?_ | (refine wg0 ?_ ?_ <;> intro hc)) | fail)
  go_end0
  exact ⟨rfl, by rw [SecR.heard, if_pos ht]; exact h.grow x1, x1.mv _⟩
 | true =>
  have hn' := okTime_iff.1 ht
  have q1 : ¬ okTime now = false := by simp [ht]
  (repeat' first | ((with_reducible refine nx0 ?_); go_step) | ((with_reducible refine o_s ?_); first | refine wk1 ?_ | (refine wg0 ?_ ?_ <;> intro hc)) | fail)
  refine wpl_callV (enters_of Tryz.func75 rfl rfl) rfl rfl (r2_May n _) ?_; intro w2 x2; refine gset ?_
  have hx2 := x1.trans x2
  cases hk : okSer n with
  | false =>
   (repeat' first | ((with_reducible refine nx0 ?_); go_step) | ((with_reducible refine o_s ?_); first | refine wk1 ?_ | (refine wg0 ?_ ?_ <;> intro hc)) | fail)
   refine wpl_callG (enters_of Tryz.func30 rfl rfl) rfl rfl (r17_Failed (h.grow hx2) hs now) ?_; rintro _ w3 ⟨rfl, o3, m3⟩; refine ⟨_, rfl, ?_⟩; refine gset ?_
   (repeat' first | ((with_reducible refine nx0 ?_); go_step) | ((with_reducible refine o_s ?_); first | refine wk1 ?_ | (refine wg0 ?_ ?_ <;> intro hc)) | fail)
   go_end0
   exact ⟨rfl, by rw [SecR.heard, if_neg q1, if_pos hk]; exact o3, (hx2.mv _).trans m3⟩
  | true =>
   have q2 : ¬ okSer n = false := by simp [hk]
   (repeat' first | ((with_reducible refine nx0 ?_); go_step) | ((with_reducible refine o_s ?_); first | refine wk1 ?_ | (refine wg0 ?_ ?_ <;> intro hc)) | fail)
   refine wpl_callV (enters_of Tryz.func76 rfl rfl) rfl rfl (r17_later (h.grow hx2) hs n) ?_; intro w3 x3; refine gset ?_
   have hx3 := hx2.trans x3
   cases hnw : s.news n with
   | false =>
    (repeat' first | ((with_reducible refine nx0 ?_); go_step) | ((with_reducible refine o_s ?_); first | refine wk1 ?_ | (refine wg0 ?_ ?_ <;> intro hc)) | fail)
    refine wpl_callG (enters_of Tryz.func78 rfl rfl) rfl rfl (r17_fresh (h.grow hx3) hs now ht) ?_; rintro _ w4 ⟨rfl, o4, m4⟩; refine ⟨_, rfl, ?_⟩; refine gset ?_
    (repeat' first | ((with_reducible refine nx0 ?_); go_step) | ((with_reducible refine o_s ?_); first | refine wk1 ?_ | (refine wg0 ?_ ?_ <;> intro hc)) | fail)
    go_end0
    exact ⟨rfl, by rw [SecR.heard, if_neg q1, if_neg q2, if_neg (by simp [hnw])]; exact o4, (hx3.mv _).trans m4⟩
   | true =>
    have hb3 := hx3.at hb
    (repeat' first | ((with_reducible refine nx0 ?_); go_step) | ((with_reducible refine o_s ?_); first | refine wk1 ?_ | (refine wg0 ?_ ?_ <;> intro hc)) | fail)
    refine wpl_storeF (n := 7) (v := .bool true) hb3 rfl rfl rfl (by simp [kecC]) (by decide +kernel) rfl ?_
    intro w4 p4
    rw [kecC_take] at p4
    have a4 := (h.grow hx3).put' hb3 p4 rfl
    have o4 := hs.of (t := { s with take := true }) rfl rfl rfl
    (repeat' first | ((with_reducible refine nx0 ?_); go_step) | ((with_reducible refine o_s ?_); first | refine wk1 ?_ | (refine wg0 ?_ ?_ <;> intro hc)) | fail)
    refine wpl_callV (enters_of Tryz.func77 rfl rfl) rfl rfl ((show Calls Tryz.prog 77 #[.pointer (some ⟨b, 0, none⟩)] w4 (RetV w4 (.agg s.soa.cells.toArray)) from r17_soa (s := { s with take := true }) a4 o4)) ?_; intro w5 x5; refine gset ?_
    refine wpl_run0 (Runs.fieldV (off := 4) (v := .int .i64 s.soa.retry) rfl rfl (by decide +kernel)) ?_
    refine gset ?_
    (repeat' first | ((with_reducible refine nx0 ?_); go_step) | ((with_reducible refine o_s ?_); first | refine wk1 ?_ | (refine wg0 ?_ ?_ <;> intro hc)) | fail)
    refine wpl_storeF (n := 5) (v := .int .i64 (now + s.soa.retry)) (x5.at p4.this) rfl rfl rfl (by simp [kecC]) (by decide +kernel) rfl ?_
    intro w6 p6
    rw [kecC_next] at p6
    (repeat' first | ((with_reducible refine nx0 ?_); go_step) | ((with_reducible refine o_s ?_); first | refine wk1 ?_ | (refine wg0 ?_ ?_ <;> intro hc)) | fail)
    go_end0
    have a6 := (a4.grow x5).put' (x5.at p4.this) p6 rfl
    exact ⟨rfl, by rw [SecR.heard, if_neg q1, if_neg q2, if_pos hnw]; exact a6, (((hx3.mv _).trans p4.mv).trans (x5.mv _)).trans p6.mv⟩
set_option maxHeartbeats 12000000 in
theorem r7_Records (v : Value) (l : List RSet) (w : World) (hv : SetsAt w v l) (hb : (recordsS l).length ≤ 100000) : Calls Tryz.prog 93 #[v] w (Ret w fun r w' => Own w.heap.size 4 81 w' r (rcells (recordsS l))) := by
 obtain ⟨cv, hv1, hvl⟩ := hv.sl
 have hle := hv1.le
 go_enter Tryz.func93, Tryz.ntmps93
 (repeat' first | ((with_reducible refine nx0 ?_); go_step) | ((with_reducible refine o_s ?_); first | refine wk0 ?_ | (refine wg0 ?_ ?_ <;> intro hc)) | fail)
 go_loopw [3, 4, 5] (fun o i _ wr => ∃ k : Nat, k ≤ l.length ∧ i = .int .i64 k ∧ Ext w wr ∧ Own w.heap.size 4 81 wr o (rcells (recsP l k))) (fun _ i _ _ => l.length - (intOf i).toNat)
 case atStart => exact ⟨0, Nat.zero_le _, rfl, Ext.refl _, Own.nil _ _ _ _⟩
 case round =>
  obtain ⟨k, hk, rfl, hx, ho⟩ := hrel
  have hv2 := hv1.ext hx
  by_cases hlt : k < l.length
  ·obtain ⟨x, h4, h4d⟩ := hv.elem (List.getElem?_eq_getElem hlt)
   have hdl := tcells_length l[k].data
   have hdle := h4d.le
   (repeat' first | ((with_reducible refine nx0 ?_); go_step) | ((with_reducible refine o_s ?_); first | refine wk0 ?_ | (refine wg0 ?_ ?_ <;> intro hc)) | fail)
   go_loopw [3, 5] (fun o i wq => ∃ j : Nat, j ≤ l[k].data.length ∧ i = .int .i64 j ∧ Ext w wq ∧ Own w.heap.size 4 81 wq o (rcells (recsP l k ++ (l[k].data.take j).map (recOf l[k])))) (fun _ i _ => l[k].data.length - (intOf i).toNat)
   case atStart => exact ⟨0, Nat.zero_le _, rfl, hx, by simpa using ho⟩
   case round =>
    obtain ⟨j, hj, rfl, hxq, hoq⟩ := hrel
    have hv3 := hv1.ext hxq
    have h4q := h4.ext hxq
    have h4dq := h4d.ext hxq
    by_cases hlt2 : j < l[k].data.length
    ·have h3 := h4d.elem (tcells_at hlt2)
     have hle1 := recsP_le l (k + 1)
     rw [recsP_succ hlt, List.length_append] at hle1
     have hle2 : (recsOf l[k]).length = l[k].data.length := by simp [recsOf]
     have hcl : (rcells (recsP l k ++ (l[k].data.take j).map (recOf l[k]))).length = (recsP l k).length + j := by simp [rcells]; omega
     (repeat' first | ((with_reducible refine nx0 ?_); go_step) | ((with_reducible refine o_s ?_); first | refine wk0 ?_ | (refine wg0 ?_ ?_ <;> intro hc)) | fail)
     clear hv2 hv3 h4q h4dq
     refine wph_region (S := fun w' => Ext w w') (by decide +kernel) ?_
     intro w5 x5 hh5
     refine tk 0 ?_; refine gset ?_; refine tk 1 ?_; refine gset ?_; refine tk 2 ?_; refine gset ?_; refine tk 3 ?_; refine gset ?_; refine tk 4 ?_; refine gset ?_; refine tk 5 ?_; refine gset ?_; refine tk 6 ?_; refine gset ?_; refine tk 7 ?_; refine gset ?_; refine tk 8 ?_; refine gset ?_; refine tk 9 ?_; refine gset ?_; refine tk 10 ?_; refine gset ?_; refine tk 11 ?_; refine gset ?_; refine tk 12 ?_; refine gset ?_; refine tk 13 ?_; refine gset ?_; refine tk 14 ?_; refine gset ?_; refine tk 15 ?_; refine gset ?_; refine tk 16 ?_; refine gset ?_; refine tk 17 ?_; refine gset ?_; refine tk 18 ?_; refine gset ?_; refine tk 19 ?_; refine gset ?_; refine tk 20 ?_; refine gset ?_; refine tk 21 ?_; refine gset ?_; refine tk 22 ?_; refine gset ?_; refine tk 23 ?_; refine gset ?_
     refine wph_take (i := 24) (v := .agg #[str l[k].name, .int .i64 l[k].kind, .int .i64 l[k].ttl, str l[k].data[j]]) rfl rfl (by decide +kernel) (by decide +kernel) (by decide +kernel) rfl (hxq.trans x5) (fun w' _ => Runs.build rfl (by kernel_rfl)) (fun _ _ _ h => h) ?_
     refine gset ?_
     refine wph_one (i := 25) (by decide +kernel) rfl rfl ?_
     refine wpl_slice (e := 81) (k := 4) (bytes := 48) (xs := [.agg #[str l[k].name, .int .i64 l[k].kind, .int .i64 l[k].ttl, str l[k].data[j]]]) rfl rfl rfl (by simp [Value.cells]) (by decide +kernel) (by simp) ?_
     intro v8 w8 x8 s8 sl8 _
     refine gset ?_
     have hx8 := (hxq.trans x5).trans x8
     refine wph_nil ⟨hx8, ?_⟩
     refine wph_one (i := 26) (by decide +kernel) rfl rfl ?_
     have ho8 := (hoq.ext x5).ext x8
     refine wpl_appendO (B := w.heap.size) (e := 81) (k := 4) rfl ho8 rfl sl8 (by simp [Value.cells, str, Value.oneCell']) hx8.size (by rw [hcl]; simp; omega) ?_
     intro v9 w9 o9 m9 k9
     refine gset ?_
     have x9 : Ext w w9 := ho8.mvx m9 hx8 (Nat.le_refl _)
     have o9 : Own w.heap.size 4 81 w9 v9 (rcells (recsP l k ++ (l[k].data.take (j + 1)).map (recOf l[k]))) := by
      rw [map_take_succ hlt2, ← List.append_assoc]
      simpa [rcells, Rec.cells, recOf, Value.cells] using o9
     refine wph_nil ⟨x9, ?_⟩
     refine wph_one (i := 27) (by decide +kernel) rfl rfl ?_
     (repeat' first | ((with_reducible refine nx0 ?_); go_step) | ((with_reducible refine o_s ?_); first | refine wk0 ?_ | (refine wg0 ?_ ?_ <;> intro hc)) | fail)
     refine ⟨x9, ?_⟩
     refine wph_done (by decide +kernel) ?_
     (repeat' first | ((with_reducible refine nx0 ?_); go_step) | ((with_reducible refine o_s ?_); first | refine wk0 ?_ | (refine wg0 ?_ ?_ <;> intro hc)) | fail)
     exact ⟨⟨j + 1, by omega, by go_num, x9, o9⟩, by simp [intOf]; omega⟩
    ·have : j = l[k].data.length := by omega
     subst this
     (repeat' first | ((with_reducible refine nx0 ?_); go_step) | ((with_reducible refine o_s ?_); first | refine wk0 ?_ | (refine wg0 ?_ ?_ <;> intro hc)) | fail)
     refine ⟨⟨k + 1, by omega, by go_num, hxq, ?_⟩, by simp [intOf]; omega⟩
     rw [recsP_succ hlt]
     rw [List.take_length] at hoq
     exact hoq
  ·have : k = l.length := by omega
   subst this
   rw [recsP_all] at ho
   (repeat' first | ((with_reducible refine nx0 ?_); go_step) | ((with_reducible refine o_s ?_); first | refine wk0 ?_ | (refine wg0 ?_ ?_ <;> intro hc)) | fail)
   go_ret
   exact ⟨_, rfl, hx, ho⟩
set_option maxHeartbeats 8000000 in
theorem r10_Apply (o : List UInt8) (v : Value) (l : List RSet) {d : DeltaR} {r : Value} (w : World) (hv : SetsAt w v l) (hd : DelA d r w)
 (bl : ∀ s ∈ l, s.data.length ≤ 1000000) (dl : ∀ s ∈ l, ∀ d ∈ s.data, d.length ≤ 1000000) (h1 : (recordsS l).length ≤ 5000) (h2 : d.new.length ≤ 5000) (dn : ∀ q ∈ d.new, q.data.length ≤ 1000000) :
 Calls Tryz.prog 173 #[.agg #[str o, v], r] w (Ret w (AppU w.heap.size o l d)) := by
 obtain ⟨g, n, rfl, sg, sn⟩ := hd
 have lg := rcells_length d.gone
 have ln := rcells_length d.new
 have lgl := sg.le
 have lnl := sn.le
 go_enter Tryz.func173, Tryz.ntmps173
 repeat' (first | ((with_reducible refine nx0 ?_); go_step) | fail)
 refine wpl_box (vs := [str o, v]) rfl rfl ?_
 intro p w1 x1 hp
 refine gset ?_
 refine wpl_box (vs := [.int .i64 d.fr, .int .i64 d.to, g, n]) rfl rfl ?_
 intro q w2 x2 hq
 refine gset ?_
 refine wpl_allocB (z := zzone) rfl (by decide +kernel) ?_
 intro w3 x3 s3 h3
 refine gset ?_
 have hx3 := (x1.trans x2).trans x3
 have zz := (x1.trans x2).size
 have hp3 := (hp.ext x2).ext x3
 have hq3 := hq.ext x3
 (repeat' first | ((with_reducible refine nx0 ?_); go_step) | ((with_reducible refine o_s ?_); first | refine wk0 ?_ | (refine wg0 ?_ ?_ <;> intro hc)) | fail)
 refine wpl_callV (enters_of Tryz.func96 rfl rfl) rfl rfl (r8_Soa o v l _ (hv.ext hx3) bl (fun s hs d hd => by have := dl s hs d hd; omega)) ?_; intro w4 x4; refine gset ?_
 have hx4 := hx3.trans x4
 (repeat' first | ((with_reducible refine nx0 ?_); go_step) | ((with_reducible refine o_s ?_); first | refine wk0 ?_ | (refine wg0 ?_ ?_ <;> intro hc)) | fail)
 refine wpl_allocB (z := zeroSoa) rfl (by decide +kernel) ?_
 intro w5 x5 s5 h5
 refine gset ?_
 refine wpl_storeB (v := .agg (soaZ o l).cells.toArray) rfl rfl rfl h5 (show sizeTy Tryz.prog 61 7 = true by decide +kernel) rfl (soaR_one _) ?_
 intro w6 p6
 have x46 : Ext w4 w6 := x5.move p6.mv (by rintro k ⟨⟩; exact Nat.le_refl _)
 have b6 : w6.heap[w4.heap.size]? = some (.cells (soaZ o l).cells.toArray 61 (0, 0)) := p6.this
 have x36 := x4.trans x46
 have hx6 := hx3.trans x36
 clear p6 h5 x5
 have h6 := x36.at h3
 have hp6 := hp3.ext x36
 have hq6 := hq3.ext x36
 (repeat' first | ((with_reducible refine nx0 ?_); go_step) | ((with_reducible refine o_s ?_); first | refine wk0 ?_ | (refine wg0 ?_ ?_ <;> intro hc)) | fail)
 ·have q0 : ¬ zoneR o l = 0 := by simpa using (by assumption : (!decide (zoneR o l = 0)) = true)
  refine wpl_run (v := .agg zzone.toArray) rfl (Runs.build0 (by kernel_rfl)) ?_
  refine gset ?_
  (repeat' first | ((with_reducible refine nx0 ?_); go_step) | ((with_reducible refine o_s ?_); first | refine wk0 ?_ | (refine wg0 ?_ ?_ <;> intro hc)) | fail)
  refine wpl_storeB (v := .agg zzone.toArray) rfl rfl rfl h6 (by decide +kernel) rfl (by decide +kernel) ?_
  intro wz pz
  have xz : Ext w wz := hx6.move pz.mv (by rintro k ⟨⟩; exact zz)
  (repeat' first | ((with_reducible refine nx0 ?_); go_step) | ((with_reducible refine o_s ?_); first | refine wk0 ?_ | (refine wg0 ?_ ?_ <;> intro hc)) | fail)
  refine bodyPost_ret (results_cellT (cs := zzone) rfl rfl pz.this (by decide +kernel)) rfl ⟨_, rfl, xz, ?_⟩
  exact AppU.bad (by rw [appE, if_neg q0]) q0
 ·have q0 : zoneR o l = 0 := by simpa using (by assumption : (!decide (zoneR o l = 0)) = false)
  have pb6 := pts_block b6
  have pb6' : Pts w6 (.pointer (some ⟨w4.heap.size, 0, none⟩)) [str (soaZ o l).main, str (soaZ o l).mail, .int .i64 (soaZ o l).serial, .int .i64 (soaZ o l).refresh, .int .i64 (soaZ o l).retry, .int .i64 (soaZ o l).expire, .int .i64 (soaZ o l).minimum] := pb6
  (repeat' first | ((with_reducible refine nx0 ?_); go_step) | ((with_reducible refine o_s ?_); first | refine wk0 ?_ | (refine wg0 ?_ ?_ <;> intro hc)) | fail)
  ·have q1 : ¬ (soaZ o l).serial = d.fr := by simpa using (by assumption : (!decide ((soaZ o l).serial = d.fr)) = true)
   refine wpl_run (v := .agg zzone.toArray) rfl (Runs.build0 (by kernel_rfl)) ?_
   refine gset ?_
   refine wpl_storeB (v := .agg zzone.toArray) rfl rfl rfl h6 (by decide +kernel) rfl (by decide +kernel) ?_
   intro wz pz
   have xz : Ext w wz := hx6.move pz.mv (by rintro k ⟨⟩; exact zz)
   (repeat' first | ((with_reducible refine nx0 ?_); go_step) | ((with_reducible refine o_s ?_); first | refine wk0 ?_ | (refine wg0 ?_ ?_ <;> intro hc)) | fail)
   refine bodyPost_ret (results_cellT (cs := zzone) rfl rfl pz.this (by decide +kernel)) rfl ⟨_, rfl, xz, ?_⟩
   exact AppU.bad (by rw [appE, if_pos q0, if_neg q1]) (by decide)
  ·have q1 : (soaZ o l).serial = d.fr := by simpa using (by assumption : (!decide ((soaZ o l).serial = d.fr)) = false)
   refine wpl_callR (enters_of Tryz.func93 rfl rfl) rfl rfl (r7_Records v l _ (hv.ext hx6) (by omega)) ?_
   intro r0 w7 x7 o7
   refine gset ?_
   have hq7 := hq6.ext x7
   have sg6 := sg.ext hx6
   have sn6 := sn.ext hx6
   have hrd := recs_data dl
   (repeat' first | ((with_reducible refine nx0 ?_); go_step) | ((with_reducible refine o_s ?_); first | refine wk0 ?_ | (refine wg0 ?_ ?_ <;> intro hc)) | fail)
   go_loopw [8, 9] (fun o i wr => ∃ (k : Nat) (m : List Rec), k ≤ d.gone.length ∧ i = .int .i64 k ∧ Ext w6 wr ∧ Own w6.heap.size 4 81 wr o (rcells m) ∧ goneF (recordsS l) (d.gone.take k) = some m) (fun _ i _ => d.gone.length - (intOf i).toNat)
   case atStart => exact ⟨0, recordsS l, Nat.zero_le _, rfl, x7, o7, rfl⟩
   case round =>
    obtain ⟨k, m, hk, rfl, hx, ho, hg⟩ := hrel
    obtain ⟨gl, gm⟩ := gone_len hg
    have hml := rcells_length m
    have hsg := sg6.ext hx
    have hqr := hq6.ext hx
    have hpr := hp6.ext hx
    by_cases hlt : k < d.gone.length
    ·have hpe := hsg.elem (rcells_at hlt)
     (repeat' first | ((with_reducible refine nx0 ?_); go_step) | ((with_reducible refine o_s ?_); first | refine wk0 ?_ | (refine wg0 ?_ ?_ <;> intro hc)) | fail)
     refine wpl_callV (enters_of Tryz.func210 rfl rfl) rfl rfl (r10_Has _ m d.gone[k] _ ho.sl) ?_; intro w10 x10; refine gset ?_
     have hx10 := hx.trans x10
     have ho10 := ho.ext x10
     have hqr10 := hqr.ext x10
     have hsg10 := hsg.ext x10
     have hpe10 := hpe.ext x10
     by_cases hm : d.gone[k] ∈ m
     ·rw [decide_eq_true hm]
      have hst := gone_step hlt hg
      rw [if_pos hm] at hst
      (repeat' first | ((with_reducible refine nx0 ?_); go_step) | ((with_reducible refine o_s ?_); first | refine wk0 ?_ | (refine wg0 ?_ ?_ <;> intro hc)) | fail)
      refine wpl_callR (enters_of Tryz.func220 rfl rfl) rfl rfl (r10_without _ m d.gone[k] _ ho10.sl (by omega)) ?_
      intro v11 w11 x11 o11
      refine gset ?_
      have hx11 := hx10.trans x11
      (repeat' first | ((with_reducible refine nx0 ?_); go_step) | ((with_reducible refine o_s ?_); first | refine wk0 ?_ | (refine wg0 ?_ ?_ <;> intro hc)) | fail)
      exact ⟨⟨k + 1, _, by omega, by go_num, hx11, o11.weaken hx10.size, hst⟩, by simp [intOf]; omega⟩
     ·rw [decide_eq_false hm]
      have hb := edit_none1 (gone_bad hlt hg hm)
      (repeat' first | ((with_reducible refine nx0 ?_); go_step) | ((with_reducible refine o_s ?_); first | refine wk0 ?_ | (refine wg0 ?_ ?_ <;> intro hc)) | fail)
      refine wpl_run (v := .agg zzone.toArray) rfl (Runs.build0 (by kernel_rfl)) ?_
      refine gset ?_
      refine wpl_storeB (v := .agg zzone.toArray) rfl rfl rfl (hx10.at h6) (by decide +kernel) rfl (by decide +kernel) ?_
      intro wz pz
      have xz : Ext w wz := (hx6.trans hx10).move pz.mv (by rintro k ⟨⟩; exact zz)
      (repeat' first | ((with_reducible refine nx0 ?_); go_step) | ((with_reducible refine o_s ?_); first | refine wk0 ?_ | (refine wg0 ?_ ?_ <;> intro hc)) | fail)
      refine bodyPost_ret (results_cellT (cs := zzone) rfl rfl pz.this (by decide +kernel)) rfl ⟨_, rfl, xz, ?_⟩
      exact AppU.bad (appE_none q0 q1 hb) (by decide)
    ·have : k = d.gone.length := by omega
     subst this
     rw [List.take_length] at hg
     have hed := edit_of hg
     (repeat' first | ((with_reducible refine nx0 ?_); go_step) | ((with_reducible refine o_s ?_); first | refine wk0 ?_ | (refine wg0 ?_ ?_ <;> intro hc)) | fail)
     go_loopw [8, 10] (fun o i wr => ∃ (k : Nat) (m' : List Rec), k ≤ d.new.length ∧ i = .int .i64 k ∧ Ext w6 wr ∧ Own w6.heap.size 4 81 wr o (rcells m') ∧ newF m (d.new.take k) = some m') (fun _ i _ => d.new.length - (intOf i).toNat)
     case atStart => exact ⟨0, m, Nat.zero_le _, rfl, hx, ho, rfl⟩
     case round =>
      obtain ⟨k, m', hk, rfl, hx, ho, hn⟩ := hrel
      obtain ⟨nl, nm⟩ := new_len hn
      have hml := rcells_length m'
      have hsn := sn6.ext hx
      have hqr := hq6.ext hx
      have hpr := hp6.ext hx
      rw [List.length_take] at nl
      by_cases hlt : k < d.new.length
      ·have hpe := hsn.elem (rcells_at hlt)
       have hst := new_step hlt hn
       (repeat' first | ((with_reducible refine nx0 ?_); go_step) | ((with_reducible refine o_s ?_); first | refine wk0 ?_ | (refine wg0 ?_ ?_ <;> intro hc)) | fail)
       refine wpl_callV (enters_of Tryz.func210 rfl rfl) rfl rfl (r10_Has _ m' d.new[k] _ ho.sl) ?_; intro w10 x10; refine gset ?_
       have hx10 := hx.trans x10
       have ho10 := ho.ext x10
       have hqr10 := hqr.ext x10
       have hsn10 := hsn.ext x10
       have hpe10 := hpe.ext x10
       by_cases hm : d.new[k] ∈ m'
       ·rw [decide_eq_true hm]
        have hb := new_bad hlt hn hm
        (repeat' first | ((with_reducible refine nx0 ?_); go_step) | ((with_reducible refine o_s ?_); first | refine wk0 ?_ | (refine wg0 ?_ ?_ <;> intro hc)) | fail)
        refine wpl_run (v := .agg zzone.toArray) rfl (Runs.build0 (by kernel_rfl)) ?_
        refine gset ?_
        refine wpl_storeB (v := .agg zzone.toArray) rfl rfl rfl (hx10.at h6) (by decide +kernel) rfl (by decide +kernel) ?_
        intro wz pz
        have xz : Ext w wz := (hx6.trans hx10).move pz.mv (by rintro k ⟨⟩; exact zz)
        (repeat' first | ((with_reducible refine nx0 ?_); go_step) | ((with_reducible refine o_s ?_); first | refine wk0 ?_ | (refine wg0 ?_ ?_ <;> intro hc)) | fail)
        refine bodyPost_ret (results_cellT (cs := zzone) rfl rfl pz.this (by decide +kernel)) rfl ⟨_, rfl, xz, ?_⟩
        exact AppU.bad (appE_none q0 q1 (hed.trans hb)) (by decide)
       ·rw [decide_eq_false hm]
        rw [if_neg hm] at hst
        (repeat' first | ((with_reducible refine nx0 ?_); go_step) | ((with_reducible refine o_s ?_); first | refine wk0 ?_ | (refine wg0 ?_ ?_ <;> intro hc)) | fail)
        refine ap1 [str d.new[k].name, .int .i64 d.new[k].kind, .int .i64 d.new[k].ttl, str d.new[k].data] hx10 ho10 (by omega) ?_ (rec_elem rfl)
        intro s5 v5 w11 w12 x11 m12 x12 o12
        refine gset ?_
        (repeat' first | ((with_reducible refine nx0 ?_); go_step) | ((with_reducible refine o_s ?_); first | refine wk0 ?_ | (refine wg0 ?_ ?_ <;> intro hc)) | fail)
        refine ⟨⟨k + 1, _, by omega, by go_num, x12, ?_, hst⟩, by simp [intOf]; omega⟩
        simpa [rcells, Rec.cells] using o12
      ·have : k = d.new.length := by omega
       subst this
       rw [List.take_length] at hn
       rw [hn] at hed
       have hmd : ∀ q ∈ m', q.data.length ≤ 1000000 := by
        intro q hq
        rcases nm q hq with h | h
        ·exact hrd q (gm q h)
        ·exact dn q (List.mem_of_mem_take h)
       have hm5 : m'.length ≤ 10000 := by omega
       obtain ⟨lb1, lb2, lb3⟩ := loadL_bounds (o := o) hmd
       have hend := appE_some q0 q1 hed
       (repeat' first | ((with_reducible refine nx0 ?_); go_step) | ((with_reducible refine o_s ?_); first | refine wk0 ?_ | (refine wg0 ?_ ?_ <;> intro hc)) | fail)
       refine wpl_callR (enters_of Tryz.func114 rfl rfl) rfl rfl (r8_Load o _ m' _ ho.sl hm5 (fun q hq => by have := hmd q hq; omega)) ?_
       rintro _ w20 x20 ⟨y, rfl, sy⟩
       refine gset ?_
       have hx20 := hx.trans x20
       obtain ⟨ya, yn, yc, hys⟩ : ∃ a n c, y = .slice a n c := by obtain ⟨css, h, _⟩ := sy.out; exact h.slf
       have hy1 : y.oneCell' = true := by rw [hys]; rfl
       (repeat' first | ((with_reducible refine nx0 ?_); go_step) | ((with_reducible refine o_s ?_); first | refine wk0 ?_ | (refine wg0 ?_ ?_ <;> intro hc)) | fail)
       refine wpl_allocB (z := zzone) rfl (by decide +kernel) ?_
       intro w21 x21 s21 h21
       refine gset ?_
       refine wpl_storeB (v := .agg #[str (loadO o m'), y]) rfl rfl rfl h21 (show sizeTy Tryz.prog 34 2 = true by decide +kernel) rfl (zone_one hy1) ?_
       intro w22 p22
       have x2022 : Ext w20 w22 := x21.move p22.mv (by rintro k ⟨⟩; exact Nat.le_refl _)
       have z22 : w22.heap[w20.heap.size]? = some (.cells [str (loadO o m'), y].toArray 34 (0, 0)) := p22.this
       have hx22 := hx20.trans x2022
       have sy22 := sy.ext x2022
       have ho22 := ho.ext (x20.trans x2022)
       clear p22 h21 x21
       (repeat' first | ((with_reducible refine nx0 ?_); go_step) | ((with_reducible refine o_s ?_); first | refine wk0 ?_ | (refine wg0 ?_ ?_ <;> intro hc)) | fail)
       ·have q2 : ¬ loadE o m' = 0 := by simpa using (by assumption : (!decide (loadE o m' = 0)) = true)
        refine wpl_run (v := .agg zzone.toArray) rfl (Runs.build0 (by kernel_rfl)) ?_
        refine gset ?_
        (repeat' first | ((with_reducible refine nx0 ?_); go_step) | ((with_reducible refine o_s ?_); first | refine wk0 ?_ | (refine wg0 ?_ ?_ <;> intro hc)) | fail)
        refine wpl_storeB (v := .agg zzone.toArray) rfl rfl rfl (hx22.at h6) (by decide +kernel) rfl (by decide +kernel) ?_
        intro wz pz
        have xz : Ext w wz := (hx6.trans hx22).move pz.mv (by rintro k ⟨⟩; exact zz)
        (repeat' first | ((with_reducible refine nx0 ?_); go_step) | ((with_reducible refine o_s ?_); first | refine wk0 ?_ | (refine wg0 ?_ ?_ <;> intro hc)) | fail)
        refine bodyPost_ret (results_cellT (cs := zzone) rfl rfl pz.this (by decide +kernel)) rfl ⟨_, rfl, xz, ?_⟩
        exact AppU.bad (by rw [hend, endE, if_neg q2]) q2
       ·have q2 : loadE o m' = 0 := by simpa using (by assumption : (!decide (loadE o m' = 0)) = false)
        have pz22 := pts_block z22
        (repeat' first | ((with_reducible refine nx0 ?_); go_step) | ((with_reducible refine o_s ?_); first | refine wk0 ?_ | (refine wg0 ?_ ?_ <;> intro hc)) | fail)
        refine wpl_callV (enters_of Tryz.func96 rfl rfl) rfl rfl (r8_Soa (loadO o m') y (loadL o m') _ sy22.sets (fun s hs => by have := lb1 s hs; omega) (fun s hs d hd => by have := lb2 s hs d hd; omega)) ?_; intro w23 x23; refine gset ?_
        have hx23 := hx22.trans x23
        (repeat' first | ((with_reducible refine nx0 ?_); go_step) | ((with_reducible refine o_s ?_); first | refine wk0 ?_ | (refine wg0 ?_ ?_ <;> intro hc)) | fail)
        refine wpl_allocB (z := zeroSoa) rfl (by decide +kernel) ?_
        intro wq xq sq hq'
        refine gset ?_
        refine wpl_storeB (v := .agg (soaZ (loadO o m') (loadL o m')).cells.toArray) rfl rfl rfl hq' (show sizeTy Tryz.prog 61 7 = true by decide +kernel) rfl (soaR_one _) ?_
        intro w24 p24
        have e3 := hx.size
        have xq24 : Ext w23 w24 := xq.move p24.mv (by rintro k ⟨⟩; exact Nat.le_refl _)
        have x24 : Ext w3 w24 := (x36.trans hx23).trans xq24
        have hxw24 := hx3.trans x24
        have hq24 := hq3.ext x24
        have b24 : w24.heap[w23.heap.size]? = some (.cells [str (soaZ (loadO o m') (loadL o m')).main, str (soaZ (loadO o m') (loadL o m')).mail, .int .i64 (soaZ (loadO o m') (loadL o m')).serial, .int .i64 (soaZ (loadO o m') (loadL o m')).refresh, .int .i64 (soaZ (loadO o m') (loadL o m')).retry, .int .i64 (soaZ (loadO o m') (loadL o m')).expire, .int .i64 (soaZ (loadO o m') (loadL o m')).minimum].toArray 61 (0, 0)) := p24.this
        have h24 := xq24.at (hx23.at h6)
        have z24 := xq24.at (x23.at z22)
        have sy24 := (sy22.ext x23).ext xq24
        have ho24 := (ho22.ext x23).ext xq24
        have pz24 := pts_block z24
        have e5 : w2.heap.size < w6.heap.size := (Array.getElem?_eq_some_iff.1 h6).1
        clear p24 hq' xq
        (repeat' first | ((with_reducible refine nx0 ?_); go_step) | ((with_reducible refine o_s ?_); first | refine wk0 ?_ | (refine wg0 ?_ ?_ <;> intro hc)) | fail)
        refine wpl_callR (enters_of Tryz.func93 rfl rfl) rfl rfl (r7_Records y (loadL o m') _ sy24.sets (by omega)) ?_
        intro r5 w25 x25 o25
        refine gset ?_
        have hxw25 := hxw24.trans x25
        have h25 := x25.at h24
        have z25 := x25.at z24
        have pz25 := pz24.ext x25
        have pb25 := pts_block (x25.at b24)
        have hq25 := hq24.ext x25
        have sl25 := (ho24.ext x25).sl
        have sr25 := o25.sl
        have lr := rcells_length (recordsS (loadL o m'))
        (repeat' first | ((with_reducible refine nx0 ?_); go_step) | ((with_reducible refine o_s ?_); first | refine wk0 ?_ | (refine wg0 ?_ ?_ <;> intro hc)) | fail)
        ·have q3 : (soaZ (loadO o m') (loadL o m')).serial = d.to := by simpa using (by assumption : (!decide ((soaZ (loadO o m') (loadL o m')).serial = d.to)) = false)
         have q4 : (recordsS (loadL o m')).length = m'.length := by
          have : (↑(rcells (recordsS (loadL o m'))).length : Int) = ↑(rcells m').length := by simpa using hc
          omega
         refine wpl_callR (enters_of Tryz.func159 rfl rfl) rfl rfl (r10_less _ r5 m' (recordsS (loadL o m')) _ sl25 sr25 (by omega)) ?_
         intro r6 w26 x26 o26
         have sr26 := o26.sl
         have hxw26 := hxw25.trans x26
         have h26 := x26.at h25
         have z26 := x26.at z25
         have pz26 := pz25.ext x26
         have l6 := rcells_length (lessR m' (recordsS (loadL o m')))
         have sy26 := (sy24.ext x25).ext x26
         refine gset ?_
         (repeat' first | ((with_reducible refine nx0 ?_); go_step) | ((with_reducible refine o_s ?_); first | refine wk0 ?_ | (refine wg0 ?_ ?_ <;> intro hc)) | fail)
         ·have q5 : ¬ lessR m' (recordsS (loadL o m')) = [] := by
           intro e
           rw [e] at l6
           simp at l6
           have := (by assumption : (0 : Int) < ↑(rcells (lessR m' (recordsS (loadL o m')))).length)
           rw [e] at this
           simp [rcells] at this
          refine wpl_run (v := .agg zzone.toArray) rfl (Runs.build0 (by kernel_rfl)) ?_
          refine gset ?_
          refine wpl_storeB (v := .agg zzone.toArray) rfl rfl rfl h26 (by decide +kernel) rfl (by decide +kernel) ?_
          intro wz pz
          have xz : Ext w wz := hxw26.move pz.mv (by rintro k ⟨⟩; exact zz)
          (repeat' first | ((with_reducible refine nx0 ?_); go_step) | ((with_reducible refine o_s ?_); first | refine wk0 ?_ | (refine wg0 ?_ ?_ <;> intro hc)) | fail)
          refine bodyPost_ret (results_cellT (cs := zzone) rfl rfl pz.this (by decide +kernel)) rfl ⟨_, rfl, xz, ?_⟩
          exact AppU.bad (by rw [hend, endE, if_pos q2, if_neg (fun h => q5 h.2.2)]) (by decide)
         ·have q5 : lessR m' (recordsS (loadL o m')) = [] := List.eq_nil_of_length_eq_zero (by omega)
          have hE : appE o l d = 0 := by rw [hend, endE, if_pos q2, if_pos ⟨q3, q4, q5⟩]
          (repeat' first | ((with_reducible refine nx0 ?_); go_step) | ((with_reducible refine o_s ?_); first | refine wk0 ?_ | (refine wg0 ?_ ?_ <;> intro hc)) | fail)
          refine wpl_storeB (v := .agg #[str (loadO o m'), y]) rfl rfl rfl h26 (show sizeTy Tryz.prog 34 2 = true by decide +kernel) rfl (zone_one hy1) ?_
          intro wz pz
          have xz : Ext w wz := hxw26.move pz.mv (by rintro k ⟨⟩; exact zz)
          (repeat' first | ((with_reducible refine nx0 ?_); go_step) | ((with_reducible refine o_s ?_); first | refine wk0 ?_ | (refine wg0 ?_ ?_ <;> intro hc)) | fail)
          refine bodyPost_ret (results_cellT (cs := [str (loadO o m'), y]) rfl rfl pz.this (show aggTy Tryz.prog 34 2 = true by decide +kernel)) rfl ⟨_, rfl, xz, ?_⟩
          refine ⟨y, ?_, ?_⟩
          ·rw [appO, if_pos hE, hE, hed]; rfl
          ·rw [appL, if_pos hE, hed]
           exact (sy26.put pz (by omega)).weaken (hx6.trans hx).size
        ·have q4 : ¬ (recordsS (loadL o m')).length = m'.length := by
          have : ¬ (↑(rcells (recordsS (loadL o m'))).length : Int) = ↑(rcells m').length := by simpa using hc
          omega
         refine wpl_run (v := .agg zzone.toArray) rfl (Runs.build0 (by kernel_rfl)) ?_
         refine gset ?_
         refine wpl_storeB (v := .agg zzone.toArray) rfl rfl rfl h25 (by decide +kernel) rfl (by decide +kernel) ?_
         intro wz pz
         have xz : Ext w wz := hxw25.move pz.mv (by rintro k ⟨⟩; exact zz)
         (repeat' first | ((with_reducible refine nx0 ?_); go_step) | ((with_reducible refine o_s ?_); first | refine wk0 ?_ | (refine wg0 ?_ ?_ <;> intro hc)) | fail)
         refine bodyPost_ret (results_cellT (cs := zzone) rfl rfl pz.this (by decide +kernel)) rfl ⟨_, rfl, xz, ?_⟩
         exact AppU.bad (by rw [hend, endE, if_pos q2, if_neg (fun h => q4 h.2.1)]) (by decide)
        ·have q3 : ¬ (soaZ (loadO o m') (loadL o m')).serial = d.to := by simpa using hc
         refine wpl_run (v := .agg zzone.toArray) rfl (Runs.build0 (by kernel_rfl)) ?_
         refine gset ?_
         refine wpl_storeB (v := .agg zzone.toArray) rfl rfl rfl h25 (by decide +kernel) rfl (by decide +kernel) ?_
         intro wz pz
         have xz : Ext w wz := hxw25.move pz.mv (by rintro k ⟨⟩; exact zz)
         (repeat' first | ((with_reducible refine nx0 ?_); go_step) | ((with_reducible refine o_s ?_); first | refine wk0 ?_ | (refine wg0 ?_ ?_ <;> intro hc)) | fail)
         refine bodyPost_ret (results_cellT (cs := zzone) rfl rfl pz.this (by decide +kernel)) rfl ⟨_, rfl, xz, ?_⟩
         exact AppU.bad (by rw [hend, endE, if_pos q2, if_neg (fun h => q3 h.1)]) (by decide)
theorem part_mid {rs : List Rec} {k : Nat} (h : k < rs.length) : k + 1 + nextSoa (rs.drop (k + 1)) = k + partN (rs.drop k) := by
 unfold partN
 rw [List.drop_drop]
 omega
theorem cut_part {rs : List Rec} {k n : Nat} : (rs.take (k + n)).drop k = (rs.drop k).take n := by
 rw [List.drop_take]
 congr 1
 omega
theorem r_parts {v : Value} {l : List Rec} {w : World} (hv : Sl 4 w v (rcells l)) {k n : Nat} (hn : k + n ≤ l.length) : Sl 4 w (cutSl v 4 k (k + n)) (rcells ((l.drop k).take n)) := by
 have hlen := rcells_length l
 have a := hv.cut (m := k) (n := k + n) (by omega) (by omega)
 rw [show ((rcells l).take (k + n)).drop k = rcells ((l.drop k).take n) by rw [← cut_part]; simp [rcells, List.map_take, List.map_drop]] at a
 exact a
set_option maxHeartbeats 1600000 in
theorem r16_deltas (o : List UInt8) (v : Value) (l : List RSet) (rv : Value) (rs : List Rec) (w : World) (hv : SetsAt w v l) (hr : Sl 4 w rv (rcells rs)) (bl : ∀ s ∈ l, s.data.length ≤ 1000000) (dl : ∀ s ∈ l, ∀ d ∈ s.data, d.length ≤ 1000000) (h1 : (recordsS l).length ≤ 5000) (h2 : rs.length ≤ 5000) (dn : ∀ q ∈ rs, q.data.length ≤ 1000000) (hne0 : rs ≠ []) :
 Calls Tryz.prog 115 #[.agg #[str o, v], rv] w (Ret w (ZEU w.heap.size (chgZ o l rs))) := by
 have hrl := rcells_length rs
 go_enter Tryz.func115, Tryz.ntmps115
 repeat' (first | ((with_reducible refine nx0 ?_); go_step) | fail)
 refine wpl_boxB (vs := [str o, v]) rfl rfl ?_
 intro w1 x1 s1 hb1
 refine gset ?_
 refine wpl_allocB (z := zzone) rfl (by decide +kernel) ?_
 intro w2 x2 s2 hb2
 refine gset ?_
 (repeat' first | ((with_reducible refine nx0 ?_); go_step) | ((with_reducible refine o_s ?_); first | refine wk1 ?_ | (refine wg0 ?_ ?_ <;> intro hc)) | fail)
 have hb1' := x2.at hb1
 have hx2 := x1.trans x2
 have hvx := hv.ext hx2
 generalize hb1e : w.heap.size = b1 at *
 generalize hb2e : w1.heap.size = b2 at *
 go_loopw [6] (fun i wr => ∃ (k : Nat) (l' : List RSet) (o' : List UInt8) (v' : Value), k ≤ rs.length ∧ i = .int .i64 k ∧ wr.heap[b1]? = some (.cells [str o', v'].toArray 34 (0, 0)) ∧ wr.heap[b2]? = some (.cells zzone.toArray 34 (0, 0)) ∧ SetsAt wr v' l' ∧ chgZ o l rs = chgZ o' l' (rs.drop k) ∧ Ext w wr ∧ w2.heap.size ≤ wr.heap.size ∧ (∀ s ∈ l', s.data.length ≤ 1000000) ∧ (∀ s ∈ l', ∀ d ∈ s.data, d.length ≤ 1000000) ∧ (recordsS l').length ≤ 5000 ∧ (k = 0 ∨ SetsO w2.heap.size wr v' l')) (fun i _ => rs.length - (intOf i).toNat)
 case atStart => exact ⟨0, l, o, v, Nat.zero_le _, rfl, hb1', hb2, hvx, rfl, hx2, Nat.le_refl _, bl, dl, h1, .inl rfl⟩
 case round =>
  obtain ⟨k, l', o', v', hk, rfl, hz, hy, hv', hch, hx, hsz, bl', dl', h1', hown⟩ := hrel
  clear hb1' hvx hb1 hb2 x1 x2
  have hpz := pts_block (cs := [str o', v']) hz
  have hv1' : v'.oneCell' = true := by obtain ⟨_, hq, _⟩ := hv'.sl; exact hq.one
  by_cases hlt : k < rs.length
  ·have hne : rs.drop k ≠ [] := by
    intro e
    have := congrArg List.length e
    simp only [List.length_drop, List.length_nil] at this
    omega
   have hpn := partN_le hne
   rw [List.length_drop] at hpn
   have hun := fun w' (x' : Ext wr w') => r16_until rv rs (k + 1) w' (hr.ext (hx.trans x')) (by omega) (by omega)
   rw [part_mid hlt] at hun
   have hstep := chgZ_cons o' l' hne
   rw [List.drop_drop] at hstep
   generalize hmid : k + partN (rs.drop k) = mid at *
   rw [show ((k + 1 : Nat) : Int) = (k : Int) + 1 by omega] at hun
   (repeat' first | ((with_reducible refine nx0 ?_); go_step) | ((with_reducible refine o_s ?_); first | refine wk1 ?_ | (refine wg0 ?_ ?_ <;> intro hc)) | fail)
   all_goals first
    | (exfalso; omega)
    | skip
   refine wpl_callV (enters_of Tryz.func172 rfl rfl) rfl rfl (hun _ (Ext.refl _)) ?_; intro w3 x3; refine gset ?_
   have hy3 := x3.at hy
   have hx3 := hx.trans x3
   by_cases hml : mid = rs.length
   ·(repeat' first | ((with_reducible refine nx0 ?_); go_step) | ((with_reducible refine o_s ?_); first | refine wk1 ?_ | (refine wg0 ?_ ?_ <;> intro hc)) | fail)
    all_goals first
     | (exfalso; omega)
     | skip
    refine wpl_run (v := .agg zzone.toArray) rfl (Runs.build0 (by kernel_rfl)) ?_
    refine gset ?_
    refine wpl_storeB (v := .agg zzone.toArray) rfl rfl rfl hy3 (show sizeTy Tryz.prog 34 2 = true by decide +kernel) rfl (by decide +kernel) ?_
    intro w4 p4
    (repeat' first | ((with_reducible refine nx0 ?_); go_step) | ((with_reducible refine o_s ?_); first | refine wk1 ?_ | (refine wg0 ?_ ?_ <;> intro hc)) | fail)
    have x4 : Ext w w4 := hx3.move p4.mv (by rintro k ⟨⟩; omega)
    refine bodyPost_ret (results_cellT (cs := zzone) rfl rfl p4.this (by decide +kernel)) rfl ⟨_, rfl, x4, ?_⟩
    rw [hch, hstep, if_pos (by rw [hml, List.drop_length])]
    exact ZEU.bad
   ·have hne2 : rs.drop mid ≠ [] := by
     intro e
     have := congrArg List.length e
     simp only [List.length_drop, List.length_nil] at this
     omega
    have hpn2 := partN_le hne2
    rw [List.length_drop] at hpn2
    have hun2 := fun w' (x' : Ext wr w') => r16_until rv rs (mid + 1) w' (hr.ext (hx.trans x')) (by omega) (by omega)
    rw [part_mid (show mid < rs.length by omega)] at hun2
    (repeat' first | ((with_reducible refine nx0 ?_); go_step) | ((with_reducible refine o_s ?_); first | refine wk1 ?_ | (refine wg0 ?_ ?_ <;> intro hc)) | fail)
    all_goals first
     | (exfalso; omega)
     | skip
    refine wpl_callV (enters_of Tryz.func172 rfl rfl) rfl rfl (hun2 _ x3) ?_; intro w4 x4; refine gset ?_
    obtain ⟨gone, hgone⟩ : ∃ gone, gone = (rs.drop k).take (partN (rs.drop k)) := ⟨_, rfl⟩
    obtain ⟨come, hcome⟩ : ∃ come, come = (rs.drop mid).take (partN (rs.drop mid)) := ⟨_, rfl⟩
    have hx4 := hx3.trans x4
    have hsg := r_parts (hr.ext hx4) (k := k) (n := partN (rs.drop k)) (by omega)
    have hsc := r_parts (hr.ext hx4) (k := mid) (n := partN (rs.drop mid)) (by omega)
    rw [hmid, ← hgone] at hsg
    rw [← hcome] at hsc
    rw [← hgone, ← hcome, List.drop_drop, if_neg hne2] at hstep
    generalize hto : mid + partN (rs.drop mid) = to at *
    have x14 := x3.trans x4
    have hz4 := x14.at hz
    have hy4 := x14.at hy
    have hpz4 := hpz.ext x14
    have hv4 := hv'.ext x14
    have hr4 := hr.ext hx4
    have hlm : mid < rs.length := by omega
    have pg := hr4.elem (rcells_at hlt)
    have pm := hr4.elem (rcells_at hlm)
    have hge : headOf gone = rs[k] := by
     rw [hgone, List.drop_eq_getElem_cons hlt]
     obtain ⟨n, hn⟩ : ∃ n, partN (rs[k] :: rs.drop (k + 1)) = n + 1 := ⟨nextSoa ((rs[k] :: rs.drop (k + 1)).drop 1), by unfold partN; omega⟩
     rw [hn]; rfl
    have hce : headOf come = rs[mid] := by
     rw [hcome, List.drop_eq_getElem_cons hlm]
     obtain ⟨n, hn⟩ : ∃ n, partN (rs[mid] :: rs.drop (mid + 1)) = n + 1 := ⟨nextSoa ((rs[mid] :: rs.drop (mid + 1)).drop 1), by unfold partN; omega⟩
     rw [hn]; rfl
    have hmc : ∀ q ∈ come, q ∈ rs := fun q hq => List.mem_of_mem_drop (List.mem_of_mem_take (hcome ▸ hq))
    have hcl : come.length ≤ rs.length := by rw [hcome, List.length_take, List.length_drop]; omega
    have d1 := dn _ (List.getElem_mem hlt)
    have d2 := dn _ (List.getElem_mem hlm)
    obtain ⟨gv, hgv⟩ : ∃ gv, gv = cutSl rv 4 k mid := ⟨_, rfl⟩
    obtain ⟨cv, hcv⟩ : ∃ cv, cv = cutSl rv 4 mid to := ⟨_, rfl⟩
    rw [← hgv] at hsg
    rw [← hcv] at hsc
    have hD : ∀ w', Ext w4 w' → DelA (dltOf gone come) (.agg #[.int .i64 (serOf rs[k]), .int .i64 (serOf rs[mid]), gv, cv]) w' := fun w' x' => ⟨_, _, by rw [dltOf, hge, hce], hsg.ext x', hsc.ext x'⟩
    have hA : ∀ w', Ext w4 w' → Calls Tryz.prog 173 #[.agg #[str o', v'], .agg #[.int .i64 (serOf rs[k]), .int .i64 (serOf rs[mid]), gv, cv]] w' (Ret w' (AppU w'.heap.size o' l' (dltOf gone come))) := fun w' x' => r10_Apply o' v' l' w' (hv4.ext x') (hD w' x') bl' dl' h1' (by show come.length ≤ 5000; omega) (fun q hq => dn q (hmc q hq))
    (repeat' first | ((with_reducible refine nx0 ?_); go_step) | ((with_reducible refine o_s ?_); first | refine wk1 ?_ | (refine wg0 ?_ ?_ <;> intro hc)) | fail)
    refine wph_region (S := fun w' => Ext w4 w') (by decide +kernel) ?_
    intro w21 x21 hh21
    refine tk1 0 ?_; refine gset ?_; refine tk1 1 ?_; refine gset ?_; refine tk1 2 ?_; refine gset ?_; refine tk1 3 ?_; refine gset ?_; refine tk1 4 ?_; refine gset ?_; refine tk1 6 ?_; refine gset ?_; refine tk1 7 ?_; refine gset ?_; refine tk1 8 ?_; refine gset ?_; refine tk1 9 ?_; refine gset ?_; refine tk1 11 ?_; refine gset ?_; refine tk1 12 ?_; refine gset ?_; refine tk1 13 ?_; refine gset ?_; refine tk1 14 ?_; refine gset ?_; refine tk1 15 ?_; refine gset ?_; refine tk1 16 ?_; refine gset ?_; refine tk1 17 ?_; refine gset ?_; refine tk1 18 ?_; refine gset ?_
    rw [← hgv, ← hcv]
    apply meetJ (F := fun (y : Value) (zk : Nat) (_ : Nat) w' => Ext w4 w' ∧ w4.heap.size ≤ zk ∧ w'.heap[zk]? = some (.cells [str (appO o' l' (dltOf gone come)), y].toArray 34 (0, 0)) ∧ SetsO w4.heap.size w' y (appL o' l' (dltOf gone come)))
    ·intro hG
     obtain ⟨u0, -⟩ : ∃ u0 : Nat, u0 = u0 := ⟨0, rfl⟩
     have s21 := x21.size
     refine wph_two (i := 5) (j := 24) (by decide +kernel) rfl rfl rfl ?_ ?_
     ·refine wpl_callV (enters_of Tryz.func116 rfl rfl) rfl rfl (show Calls Tryz.prog 116 #[.agg #[str rs[k].name, .int .i64 rs[k].kind, .int .i64 rs[k].ttl, str rs[k].data]] w21 (RetV w21 (.int .i64 (serOf rs[k]))) from r16_serial rs[k] _ (by omega)) ?_
      intro wA ywA
      refine gset ?_
      have zwA := x21.trans ywA
      have rwA := ywA.size
      refine wph_nil ⟨zwA, ?_⟩
      refine wph_two (i := 10) (j := 24) (by decide +kernel) rfl rfl rfl ?_ ?_
      ·refine wpl_callV (enters_of Tryz.func116 rfl rfl) rfl rfl (show Calls Tryz.prog 116 #[.agg #[str rs[mid].name, .int .i64 rs[mid].kind, .int .i64 rs[mid].ttl, str rs[mid].data]] wA (RetV wA (.int .i64 (serOf rs[mid]))) from r16_serial rs[mid] _ (by omega)) ?_
       intro wB ywB
       refine gset ?_
       have zwB := zwA.trans ywB
       have rwB := ywB.size
       refine wph_nil ⟨zwB, ?_⟩
       refine wph_take (i := 19) (v := .agg #[.int .i64 (serOf rs[k]), .int .i64 (serOf rs[mid]), gv, cv]) rfl rfl (by decide +kernel) (by decide +kernel) (by decide +kernel) rfl zwB (fun w' _ => Runs.build rfl (by clear hG; obtain ⟨_, _, _, rfl⟩ := hsg.slf; obtain ⟨_, _, _, rfl⟩ := hsc.slf; kernel_rfl)) (fun _ _ _ h => h) ?_
       refine gset ?_
       refine wph_two (i := 20) (j := 24) (by decide +kernel) rfl rfl rfl ?_ ?_
       ·refine wpl_callR (enters_of Tryz.func173 rfl rfl) rfl rfl (hA _ zwB) ?_
        rintro _ wC ywC ⟨y, rfl, hO⟩
        refine gset ?_
        have zwC := zwB.trans ywC
        have rwC := ywC.size
        have hy1 : y.oneCell' = true := by obtain ⟨_, hq, _⟩ := hO.sets.sl; exact hq.one
        have swC := zwB.size
        refine wph_nil ⟨zwC, ?_⟩
        refine tk1 21 ?_; refine gset ?_; refine tk1 22 ?_; refine gset ?_; refine tk1 23 ?_; refine gset ?_
        refine wph_one (i := 24) (by decide +kernel) rfl rfl ?_
        refine wpl_allocB (z := zzone) rfl (by decide +kernel) ?_
        intro wE ywE qwE awE
        refine gset ?_
        have zwE := zwC.trans ywE
        have rwE := ywE.size
        have twE := zwC.size
        refine wph_nil ⟨zwE, ?_⟩
        have hC : wE.heap[wC.heap.size]? = some (.cells zzone.toArray 34 (0, 0)) := awE
        refine wph_one (i := 25) (by decide +kernel) rfl rfl ?_
        refine wpl_storeB (v := .agg #[str (appO o' l' (dltOf gone come)), y]) rfl rfl rfl hC (show sizeTy Tryz.prog 34 2 = true by decide +kernel) rfl (zone_one hy1) ?_
        intro wF pF
        have xF : Ext w4 wF := zwE.move pF.mv (by rintro k ⟨⟩; omega)
        have hF := pF.this
        have hle : w4.heap.size ≤ wC.heap.size := by omega
        have hOF : SetsO w4.heap.size wF y (appL o' l' (dltOf gone come)) := (hO.ext (ywE.move pF.mv (by rintro k ⟨⟩; exact Nat.le_refl _))).weaken (by omega)
        refine wph_nil ⟨xF, ?_⟩
        clear pF hC
        generalize wC.heap.size = zk at *
        exact hG y zk u0 _ ⟨xF, hle, hF, hOF⟩
       ·refine wpl_allocB (z := zzone) rfl (by decide +kernel) ?_
        intro wD ywD qwD awD
        refine gset ?_
        have zwD := zwB.trans ywD
        have rwD := ywD.size
        have twD := zwB.size
        refine wph_nil ⟨zwD, ?_⟩
        refine wph_one (i := 20) (by decide +kernel) rfl rfl ?_
        refine wpl_callR (enters_of Tryz.func173 rfl rfl) rfl rfl (hA _ zwD) ?_
        rintro _ wC ywC ⟨y, rfl, hO⟩
        refine gset ?_
        have zwC := zwD.trans ywC
        have rwC := ywC.size
        have hy1 : y.oneCell' = true := by obtain ⟨_, hq, _⟩ := hO.sets.sl; exact hq.one
        have swC := zwD.size
        refine wph_nil ⟨zwC, ?_⟩
        refine tk1 21 ?_; refine gset ?_; refine tk1 22 ?_; refine gset ?_; refine tk1 23 ?_; refine gset ?_
        have hC : wC.heap[wB.heap.size]? = some (.cells zzone.toArray 34 (0, 0)) := (ywC.at awD)
        refine wph_one (i := 25) (by decide +kernel) rfl rfl ?_
        refine wpl_storeB (v := .agg #[str (appO o' l' (dltOf gone come)), y]) rfl rfl rfl hC (show sizeTy Tryz.prog 34 2 = true by decide +kernel) rfl (zone_one hy1) ?_
        intro wF pF
        have xF : Ext w4 wF := zwC.move pF.mv (by rintro k ⟨⟩; omega)
        have hF := pF.this
        have hle : w4.heap.size ≤ wB.heap.size := by omega
        have hOF : SetsO w4.heap.size wF y (appL o' l' (dltOf gone come)) := (hO.mvb pF.mv (by omega)).weaken (by omega)
        refine wph_nil ⟨xF, ?_⟩
        clear pF hC
        generalize wB.heap.size = zk at *
        exact hG y zk u0 _ ⟨xF, hle, hF, hOF⟩
      ·refine wpl_allocB (z := zzone) rfl (by decide +kernel) ?_
       intro wD ywD qwD awD
       refine gset ?_
       have zwD := zwA.trans ywD
       have rwD := ywD.size
       have twD := zwA.size
       refine wph_nil ⟨zwD, ?_⟩
       refine wph_one (i := 10) (by decide +kernel) rfl rfl ?_
       refine wpl_callV (enters_of Tryz.func116 rfl rfl) rfl rfl (show Calls Tryz.prog 116 #[.agg #[str rs[mid].name, .int .i64 rs[mid].kind, .int .i64 rs[mid].ttl, str rs[mid].data]] wD (RetV wD (.int .i64 (serOf rs[mid]))) from r16_serial rs[mid] _ (by omega)) ?_
       intro wB ywB
       refine gset ?_
       have zwB := zwD.trans ywB
       have rwB := ywB.size
       refine wph_nil ⟨zwB, ?_⟩
       refine wph_take (i := 19) (v := .agg #[.int .i64 (serOf rs[k]), .int .i64 (serOf rs[mid]), gv, cv]) rfl rfl (by decide +kernel) (by decide +kernel) (by decide +kernel) rfl zwB (fun w' _ => Runs.build rfl (by clear hG; obtain ⟨_, _, _, rfl⟩ := hsg.slf; obtain ⟨_, _, _, rfl⟩ := hsc.slf; kernel_rfl)) (fun _ _ _ h => h) ?_
       refine gset ?_
       refine wph_one (i := 20) (by decide +kernel) rfl rfl ?_
       refine wpl_callR (enters_of Tryz.func173 rfl rfl) rfl rfl (hA _ zwB) ?_
       rintro _ wC ywC ⟨y, rfl, hO⟩
       refine gset ?_
       have zwC := zwB.trans ywC
       have rwC := ywC.size
       have hy1 : y.oneCell' = true := by obtain ⟨_, hq, _⟩ := hO.sets.sl; exact hq.one
       have swC := zwB.size
       refine wph_nil ⟨zwC, ?_⟩
       refine tk1 21 ?_; refine gset ?_; refine tk1 22 ?_; refine gset ?_; refine tk1 23 ?_; refine gset ?_
       have hC : wC.heap[wA.heap.size]? = some (.cells zzone.toArray 34 (0, 0)) := (ywC.at (ywB.at awD))
       refine wph_one (i := 25) (by decide +kernel) rfl rfl ?_
       refine wpl_storeB (v := .agg #[str (appO o' l' (dltOf gone come)), y]) rfl rfl rfl hC (show sizeTy Tryz.prog 34 2 = true by decide +kernel) rfl (zone_one hy1) ?_
       intro wF pF
       have xF : Ext w4 wF := zwC.move pF.mv (by rintro k ⟨⟩; omega)
       have hF := pF.this
       have hle : w4.heap.size ≤ wA.heap.size := by omega
       have hOF : SetsO w4.heap.size wF y (appL o' l' (dltOf gone come)) := (hO.mvb pF.mv (by omega)).weaken (by omega)
       refine wph_nil ⟨xF, ?_⟩
       clear pF hC
       generalize wA.heap.size = zk at *
       exact hG y zk u0 _ ⟨xF, hle, hF, hOF⟩
     ·refine wpl_allocB (z := zzone) rfl (by decide +kernel) ?_
      intro wD ywD qwD awD
      refine gset ?_
      have zwD := x21.trans ywD
      have rwD := ywD.size
      have twD := x21.size
      refine wph_nil ⟨zwD, ?_⟩
      refine wph_one (i := 5) (by decide +kernel) rfl rfl ?_
      refine wpl_callV (enters_of Tryz.func116 rfl rfl) rfl rfl (show Calls Tryz.prog 116 #[.agg #[str rs[k].name, .int .i64 rs[k].kind, .int .i64 rs[k].ttl, str rs[k].data]] wD (RetV wD (.int .i64 (serOf rs[k]))) from r16_serial rs[k] _ (by omega)) ?_
      intro wA ywA
      refine gset ?_
      have zwA := zwD.trans ywA
      have rwA := ywA.size
      refine wph_nil ⟨zwA, ?_⟩
      refine wph_one (i := 10) (by decide +kernel) rfl rfl ?_
      refine wpl_callV (enters_of Tryz.func116 rfl rfl) rfl rfl (show Calls Tryz.prog 116 #[.agg #[str rs[mid].name, .int .i64 rs[mid].kind, .int .i64 rs[mid].ttl, str rs[mid].data]] wA (RetV wA (.int .i64 (serOf rs[mid]))) from r16_serial rs[mid] _ (by omega)) ?_
      intro wB ywB
      refine gset ?_
      have zwB := zwA.trans ywB
      have rwB := ywB.size
      refine wph_nil ⟨zwB, ?_⟩
      refine wph_take (i := 19) (v := .agg #[.int .i64 (serOf rs[k]), .int .i64 (serOf rs[mid]), gv, cv]) rfl rfl (by decide +kernel) (by decide +kernel) (by decide +kernel) rfl zwB (fun w' _ => Runs.build rfl (by clear hG; obtain ⟨_, _, _, rfl⟩ := hsg.slf; obtain ⟨_, _, _, rfl⟩ := hsc.slf; kernel_rfl)) (fun _ _ _ h => h) ?_
      refine gset ?_
      refine wph_one (i := 20) (by decide +kernel) rfl rfl ?_
      refine wpl_callR (enters_of Tryz.func173 rfl rfl) rfl rfl (hA _ zwB) ?_
      rintro _ wC ywC ⟨y, rfl, hO⟩
      refine gset ?_
      have zwC := zwB.trans ywC
      have rwC := ywC.size
      have hy1 : y.oneCell' = true := by obtain ⟨_, hq, _⟩ := hO.sets.sl; exact hq.one
      have swC := zwB.size
      refine wph_nil ⟨zwC, ?_⟩
      refine tk1 21 ?_; refine gset ?_; refine tk1 22 ?_; refine gset ?_; refine tk1 23 ?_; refine gset ?_
      have hC : wC.heap[w21.heap.size]? = some (.cells zzone.toArray 34 (0, 0)) := (ywC.at (ywB.at (ywA.at awD)))
      refine wph_one (i := 25) (by decide +kernel) rfl rfl ?_
      refine wpl_storeB (v := .agg #[str (appO o' l' (dltOf gone come)), y]) rfl rfl rfl hC (show sizeTy Tryz.prog 34 2 = true by decide +kernel) rfl (zone_one hy1) ?_
      intro wF pF
      have xF : Ext w4 wF := zwC.move pF.mv (by rintro k ⟨⟩; omega)
      have hF := pF.this
      have hle : w4.heap.size ≤ w21.heap.size := by omega
      have hOF : SetsO w4.heap.size wF y (appL o' l' (dltOf gone come)) := (hO.mvb pF.mv (by omega)).weaken (by omega)
      refine wph_nil ⟨xF, ?_⟩
      clear pF hC
      generalize w21.heap.size = zk at *
      exact hG y zk u0 _ ⟨xF, hle, hF, hOF⟩
    ·rintro y zk _ w9 ⟨x9, hzk9, hz9, ho9⟩
     refine tk1 26 ?_; refine gset ?_
     refine wph_done (by decide +kernel) ?_
     have hx9 := hx4.trans x9
     have hz9' := x9.at hz4
     have hy9 := x9.at hy4
     have hy91 : y.oneCell' = true := by obtain ⟨_, hq, _⟩ := ho9.sets.sl; exact hq.one
     have hpz9 := pts_block (cs := [str (appO o' l' (dltOf gone come)), y]) hz9
     have hs14 := x14.size
     have hs49 := x9.size
     clear hun hun2 hA hD hh21
     by_cases e0 : appE o' l' (dltOf gone come) = 0
     ·rw [if_pos e0] at hstep
      obtain ⟨z1, z2⟩ := app_zone e0
      obtain ⟨j1, j2, j3, j4⟩ := zoneJ z1
      (repeat' first | ((with_reducible refine nx0 ?_); go_step) | ((with_reducible refine o_s ?_); first | refine wk1 ?_ | (refine wg0 ?_ ?_ <;> intro hc)) | fail)
      all_goals first
       | (exfalso; omega)
       | (exfalso; have hh := ‹(!decide (appE o' l' (dltOf gone come) = 0)) = true›; simp [e0] at hh; done)
       | skip
      refine wpl_storeB (v := .agg #[str (appO o' l' (dltOf gone come)), y]) rfl rfl rfl hz9' (show sizeTy Tryz.prog 34 2 = true by decide +kernel) rfl (zone_one hy91) ?_
      intro w10 p10
      (repeat' first | ((with_reducible refine nx0 ?_); go_step) | ((with_reducible refine o_s ?_); first | refine wk1 ?_ | (refine wg0 ?_ ?_ <;> intro hc)) | fail)
      have x10 : Ext w w10 := hx9.move p10.mv (by rintro k ⟨⟩; omega)
      have hO10 := (ho9.weaken (show w2.heap.size ≤ w4.heap.size by omega)).put p10 (by omega)
      exact ⟨⟨to, _, _, y, by omega, rfl, p10.this, p10.mv.at hy9 (by rintro ⟨⟩; omega), hO10.sets, hch.trans hstep, x10, by have := p10.size; omega, fun s hs => by have := j2 s hs; omega, fun s hs d hd => by have := j3 s hs d hd; omega, by omega, .inr hO10⟩, by simp [intOf]; omega⟩
     ·rw [if_neg e0] at hstep
      (repeat' first | ((with_reducible refine nx0 ?_); go_step) | ((with_reducible refine o_s ?_); first | refine wk1 ?_ | (refine wg0 ?_ ?_ <;> intro hc)) | fail)
      all_goals first
       | (exfalso; have hh := ‹(!decide (appE o' l' (dltOf gone come) = 0)) = false›; simp [e0] at hh; done)
       | skip
      all_goals
       refine wpl_run (v := .agg zzone.toArray) rfl (Runs.build0 (by kernel_rfl)) ?_
       refine gset ?_
       (repeat' first | ((with_reducible refine nx0 ?_); go_step) | ((with_reducible refine o_s ?_); first | refine wk1 ?_ | (refine wg0 ?_ ?_ <;> intro hc)) | fail)
       refine wpl_storeB (v := .agg zzone.toArray) rfl rfl rfl hy9 (show sizeTy Tryz.prog 34 2 = true by decide +kernel) rfl (by decide +kernel) ?_
       intro w10 p10
       (repeat' first | ((with_reducible refine nx0 ?_); go_step) | ((with_reducible refine o_s ?_); first | refine wk1 ?_ | (refine wg0 ?_ ?_ <;> intro hc)) | fail)
       have x10 : Ext w w10 := hx9.move p10.mv (by rintro k ⟨⟩; omega)
       refine bodyPost_ret (results_cellT (cs := zzone) rfl rfl p10.this (by decide +kernel)) rfl ⟨_, rfl, x10, ?_⟩
       rw [hch, hstep]
      ·rw [if_pos (by assumption)]; exact ZEU.bad
      ·rw [if_neg (by assumption)]; exact ZEU.bad
  ·have hk2 : k = rs.length := by omega
   rw [hk2, List.drop_length, chgZ_nil] at hch
   (repeat' first | ((with_reducible refine nx0 ?_); go_step) | ((with_reducible refine o_s ?_); first | refine wk1 ?_ | (refine wg0 ?_ ?_ <;> intro hc)) | fail)
   all_goals first
    | (exfalso; omega)
    | skip
   refine wpl_storeB (v := .agg #[str o', v']) rfl rfl rfl hy (show sizeTy Tryz.prog 34 2 = true by decide +kernel) rfl (zone_one hv1') ?_
   intro w3 p3
   (repeat' first | ((with_reducible refine nx0 ?_); go_step) | ((with_reducible refine o_s ?_); first | refine wk1 ?_ | (refine wg0 ?_ ?_ <;> intro hc)) | fail)
   have x3 : Ext w w3 := hx.move p3.mv (by rintro k ⟨⟩; omega)
   refine bodyPost_ret (results_cellT (cs := [str o', v']) rfl rfl p3.this (show aggTy Tryz.prog 34 2 = true by decide +kernel)) rfl ⟨_, rfl, x3, ?_⟩
   rw [hch]
   have hpos := List.length_pos_iff.2 hne0
   rcases hown with h | h
   ·omega
   ·exact ⟨v', rfl, (h.put p3 (by omega)).weaken (by have := hx2.size; omega)⟩
end Go.Proofs.X
