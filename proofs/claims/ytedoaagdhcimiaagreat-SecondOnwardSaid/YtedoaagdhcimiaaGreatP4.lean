/- Laws and walks that the proof of the statement is made of (part 4). -/
import Derived.Test.YtedoaagdhcimiaaGreatProg
import Derived.Shelf.RegionOpenPlain
import Derived.Lib.Strings
import Derived.Lib.Slices
import Derived.Lib.Walk
import Derived.Lib.Builder
import Derived.Lib.AppendStr
import Derived.Lib.UnsafeStr
import Derived.Lib.MakeNoZero
import Derived.WalkKit
import Derived.Laws.Externs
import Derived.Laws.IdiomCopy
import Derived.Laws.BitsLemmas
import GoSem.Claims
import Derived.OwnWalk
import Derived.Lib.Hide
import Derived.Test.YtedoaagdhcimiaaGreatShelf
import Derived.Shelf.SlSortCmp.NoneTotal
import Derived.Test.YtedoaagdhcimiaaGreatP1
import Derived.Test.YtedoaagdhcimiaaGreatP2
import Derived.Test.YtedoaagdhcimiaaGreatP3
set_option linter.unusedSimpArgs false
set_option linter.unusedVariables false
namespace Go.Proofs.X
open Go.RowKit
set_option maxRecDepth 100000
structure RSet where
  name : List UInt8
  kind : Int
  ttl : Int
  data : List (List UInt8)
  deriving DecidableEq, Inhabited
structure SetAt (w : World) (cs : List Value) (s : RSet) : Prop where
  out : ∃ v, cs = [str s.name, .int .i64 s.kind, .int .i64 s.ttl, v] ∧ Sl 1 w v (tcells s.data)
theorem SetAt.ext {w w' : World} {cs : List Value} {s : RSet} (h : SetAt w cs s) (hx : Ext w w') : SetAt w' cs s := by
  obtain ⟨v, h1, h2⟩ := h
  exact ⟨v, h1, h2.ext hx⟩
theorem t34 (v : Value) (a b : Int) (w : World) (h : Sl 1 w v [[.int .i64 a], [.int .i64 b]]) : Calls Tryz.prog 186 #[v] w (RetV w (.int .i64 (if a ≠ 0 then a else b))) := by
  have h0 := h.elem (i := 0) rfl
  have h1 := h.elem (i := 1) rfl
  go_enter Tryz.func186, Tryz.ntmps186
  repeat' (first | ((with_reducible refine nx0 ?_); go_step) | ((with_reducible refine o_s ?_); first | refine wk0 ?_ | (refine wg0 ?_ ?_ <;> intro hc)) | fail)
  go_loopw [8] (fun i wr => wr = w ∧ ∃ k : Nat, i = .int .i64 k ∧ k ≤ 2 ∧ (1 ≤ k → a = 0) ∧ (2 ≤ k → b = 0)) (fun i _ => 2 - (intOf i).toNat)
  case atStart => exact ⟨rfl, 0, rfl, by omega, by omega, by omega⟩
  case round =>
    obtain ⟨rfl, k, rfl, hk, ha, hb⟩ := hrel
    have hk3 : k = 0 ∨ k = 1 ∨ k = 2 := by omega
    rcases hk3 with rfl | rfl | rfl
    · repeat' (first | ((with_reducible refine nx0 ?_); go_step) | ((with_reducible refine o_s ?_); first | refine wk0 ?_ | (refine wg0 ?_ ?_ <;> intro hc)) | fail)
      · go_ret
        refine ⟨?_, Ext.refl _⟩
        have hne : a ≠ 0 := by simp at *; assumption
        rw [if_pos hne]
        rfl
      · have h0 : a = 0 := by simp at *; assumption
        exact ⟨⟨trivial, 1, rfl, by omega, fun _ => h0, by omega⟩, by simp [intOf]⟩
    · have ha := ha (by omega)
      repeat' (first | ((with_reducible refine nx0 ?_); go_step) | ((with_reducible refine o_s ?_); first | refine wk0 ?_ | (refine wg0 ?_ ?_ <;> intro hc)) | fail)
      · go_ret
        refine ⟨?_, Ext.refl _⟩
        rw [if_neg (by simpa using ha)]
        rfl
      · have h0 : b = 0 := by simp at *; assumption
        exact ⟨⟨trivial, 2, rfl, by omega, fun _ => ha, fun _ => h0⟩, by simp [intOf]⟩
    · have ha := ha (by omega)
      have hb := hb (by omega)
      repeat' (first | ((with_reducible refine nx0 ?_); go_step) | ((with_reducible refine o_s ?_); first | refine wk0 ?_ | (refine wg0 ?_ ?_ <;> intro hc)) | fail)
      go_ret
      refine ⟨?_, Ext.refl _⟩
      rw [if_neg (by simpa using ha), hb]
      rfl
theorem t22 (s : RSet) (v : Value) (d : List UInt8) (w : World) : Calls Tryz.prog 134 #[.agg #[str s.name, .int .i64 s.kind, .int .i64 s.ttl, v], str d] w (RetV w (.agg #[str s.name, .int .i64 s.kind, .int .i64 s.ttl, str d])) := by
  go_enter Tryz.func134, Tryz.ntmps134
  repeat' (first | ((with_reducible refine nx0 ?_); go_step) | fail)
  refine wpl_box (vs := [str s.name, .int .i64 s.kind, .int .i64 s.ttl, v]) rfl rfl ?_
  intro p w1 x1 hp
  refine gset ?_
  refine wpl_allocB (z := [str [], .int .i64 0, .int .i64 0, str []]) rfl (by decide +kernel) ?_
  intro w2 x2 s2 h2
  have hp := hp.ext x2
  repeat' (first | ((with_reducible refine nx0 ?_); go_step) | ((with_reducible refine o_s ?_); first | refine wk0 ?_ | (refine wg0 ?_ ?_ <;> intro hc)) | fail)
  refine wpl_run (v := .agg #[str s.name, .int .i64 s.kind, .int .i64 s.ttl, str d]) rfl (Runs.build rfl (by kernel_rfl)) ?_
  refine gset ?_
  refine wpl_storeB (v := .agg #[str s.name, .int .i64 s.kind, .int .i64 s.ttl, str d]) rfl rfl rfl h2 (show sizeTy Tryz.prog 81 4 = true by decide +kernel) rfl (by simp [Value.cells, Value.oneCell', str]) ?_
  intro w3 p3
  have x13 : Ext w w3 := (x1.trans x2).move p3.mv (by rintro k ⟨⟩; exact x1.size)
  have h3 := p3.this
  repeat' (first | ((with_reducible refine nx0 ?_); go_step) | ((with_reducible refine o_s ?_); first | refine wk0 ?_ | (refine wg0 ?_ ?_ <;> intro hc)) | fail)
  exact bodyPost_ret (results_cell1 (cs := [str s.name, .int .i64 s.kind, .int .i64 s.ttl, str d]) rfl rfl h3 (show aggTy Tryz.prog 81 4 = true by decide +kernel)) rfl ⟨rfl, x13⟩
structure SetsAt (w : World) (v : Value) (l : List RSet) : Prop where
  out : ∃ css, Sl 4 w v css ∧ css.length = l.length ∧ ∀ (i : Nat) (s : RSet), l[i]? = some s → ∃ x, css[i]? = some [str s.name, .int .i64 s.kind, .int .i64 s.ttl, x] ∧ Sl 1 w x (tcells s.data)
theorem SetsAt.ext {w w' : World} {v : Value} {l : List RSet} (h : SetsAt w v l) (hx : Ext w w') : SetsAt w' v l := by
  obtain ⟨css, h1, h2, h3⟩ := h
  exact ⟨css, h1.ext hx, h2, fun i s hi => let ⟨x, a, b⟩ := h3 i s hi; ⟨x, a, b.ext hx⟩⟩
theorem SetsAt.elem {w : World} {v : Value} {l : List RSet} (h : SetsAt w v l) {i : Nat} {s : RSet} (hi : l[i]? = some s) : ∃ x, Pts w (elemPtr v (i * 4)) [str s.name, .int .i64 s.kind, .int .i64 s.ttl, x] ∧ Sl 1 w x (tcells s.data) := by
  obtain ⟨css, h1, h2, h3⟩ := h
  obtain ⟨x, a, b⟩ := h3 i s hi
  exact ⟨x, h1.elem a, b⟩
theorem SetsAt.sl {w : World} {v : Value} {l : List RSet} (h : SetsAt w v l) : ∃ css : List (List Value), Sl 4 w v css ∧ css.length = l.length := by
  obtain ⟨css, h1, h2, h3⟩ := h
  exact ⟨css, h1, h2⟩
def Rec.cells (r : Rec) : List Value := [str r.name, .int .i64 r.kind, .int .i64 r.ttl, str r.data]
def rcells (l : List Rec) : List (List Value) := l.map Rec.cells
theorem rcells_length (l : List Rec) : (rcells l).length = l.length := by simp [rcells]
theorem rcells_at {l : List Rec} {k : Nat} (h : k < l.length) : (rcells l)[k]? = some [str l[k].name, .int .i64 l[k].kind, .int .i64 l[k].ttl, str l[k].data] := by simp [rcells, h, Rec.cells]
theorem take_succ_eq {α : Type} {a b : List α} {k : Nat} (h : a.take k = b.take k) (ha : k < a.length) (hb : k < b.length) (he : a[k] = b[k]) : a.take (k + 1) = b.take (k + 1) := by
  rw [List.take_add_one, List.take_add_one, List.getElem?_eq_getElem ha, List.getElem?_eq_getElem hb, h, he]
theorem ne_of_at {α : Type} {a b : List α} {k : Nat} (ha : k < a.length) (hb : k < b.length) (he : a[k] ≠ b[k]) : a ≠ b := by
  rintro rfl; exact he rfl
theorem t25 (u v : Value) (a b : List (List UInt8)) (w : World) (hu : Sl 1 w u (tcells a)) (hv : Sl 1 w v (tcells b)) : Calls Tryz.prog 194 #[u, v] w (RetV w (.bool (decide (a = b)))) := by
  have hal := hu.le
  have ha := tcells_length a
  have hb := tcells_length b
  go_enter Tryz.func194, Tryz.ntmps194
  repeat' (first | ((with_reducible refine nx0 ?_); go_step) | ((with_reducible refine o_s ?_); first | refine wk0 ?_ | (refine wg0 ?_ ?_ <;> intro hc)) | fail)
  · have hne := ‹(!decide (((tcells a).length : Int) = ((tcells b).length : Int))) = true›
    go_ret
    refine ⟨?_, Ext.refl _⟩
    have : a ≠ b := by rintro rfl; simp at hne
    simp [this]
  · have hne := ‹(!decide (((tcells a).length : Int) = ((tcells b).length : Int))) = false›
    have hlen : a.length = b.length := by simp at hne; omega
    go_loopw [5] (fun i wr => ∃ k : Nat, k ≤ a.length ∧ i = .int .i64 k ∧ Ext w wr ∧ a.take k = b.take k) (fun i _ => a.length - (intOf i).toNat)
    case atStart => exact ⟨0, Nat.zero_le _, rfl, Ext.refl _, rfl⟩
    case round =>
      obtain ⟨k, hk, rfl, hx, hall⟩ := hrel
      by_cases hlt : k < a.length
      · have hlt2 : k < b.length := by omega
        have h1 := (hu.ext hx).elem (tcells_at hlt)
        have h2 := (hv.ext hx).elem (tcells_at hlt2)
        have hu2 := hu.ext hx
        have hv2 := hv.ext hx
        repeat' (first | ((with_reducible refine nx0 ?_); go_step) | ((with_reducible refine o_s ?_); first | refine wk0 ?_ | (refine wg0 ?_ ?_ <;> intro hc)) | fail)
        refine wph_region (S := Ext wr) (by decide +kernel) ?_
        intro w2 x2 _
        refine tk 0 ?_; refine gset ?_; refine tk 1 ?_; refine gset ?_; refine tk 2 ?_; refine gset ?_; refine tk 3 ?_; refine gset ?_; refine tk 4 ?_; refine gset ?_; refine tk 5 ?_; refine gset ?_; refine tk 6 ?_; refine gset ?_; refine tk 7 ?_; refine gset ?_; refine tk 8 ?_; refine gset ?_
        refine wph_done (by decide +kernel) ?_
        by_cases he : a[k] = b[k]
        · have e1 : decide (a[k] = b[k]) = true := decide_eq_true he
          simp only [e1, Bool.not_true]
          repeat' (first | ((with_reducible refine nx0 ?_); go_step) | ((with_reducible refine o_s ?_); first | refine wk0 ?_ | (refine wg0 ?_ ?_ <;> intro hc)) | fail)
          exact ⟨⟨k + 1, by omega, rfl, by exact extc, take_succ_eq hall hlt hlt2 he⟩, by simp [intOf]; omega⟩
        · have e1 : decide (a[k] = b[k]) = false := decide_eq_false he
          simp only [e1, Bool.not_false]
          repeat' (first | ((with_reducible refine nx0 ?_); go_step) | ((with_reducible refine o_s ?_); first | refine wk0 ?_ | (refine wg0 ?_ ?_ <;> intro hc)) | fail)
          go_ret
          refine ⟨?_, by exact extc⟩
          simp [ne_of_at hlt hlt2 he]
      · have hk2 : k = a.length := by omega
        subst hk2
        repeat' (first | ((with_reducible refine nx0 ?_); go_step) | ((with_reducible refine o_s ?_); first | refine wk0 ?_ | (refine wg0 ?_ ?_ <;> intro hc)) | fail)
        go_ret
        refine ⟨?_, by exact extc⟩
        rw [List.take_length, hlen, List.take_length] at hall
        simp [hall]
def cmpI (a b : Int) : Int := if a < b then -1 else if b < a then 1 else 0
def cmpSet (na nb : List UInt8) (ka kb : Int) : Int := if cmpN na nb ≠ 0 then cmpN na nb else cmpI ka kb
theorem t36 (a b : Int) (w : World) : Calls Tryz.prog 188 #[.int .i64 a, .int .i64 b] w (RetV w (.int .i64 (cmpI a b))) := by
  refine (Tryz.cmp_Compare_int a b w).mono ?_
  rintro e w' ⟨rfl, rfl⟩
  refine ⟨?_, Ext.refl _⟩
  unfold cmpI Lib.compareInt
  rfl
set_option maxHeartbeats 1000000 in
theorem t21 (na nb : List UInt8) (ka kb ta tb : Int) (va vb : Value) (w : World) : Calls Tryz.prog 129 #[.agg #[str na, .int .i64 ka, .int .i64 ta, va], .agg #[str nb, .int .i64 kb, .int .i64 tb, vb]] w (RetV w (.int .i64 (cmpSet na nb ka kb))) := by
  go_enter Tryz.func129, Tryz.ntmps129
  repeat' (first | ((with_reducible refine nx0 ?_); go_step) | fail)
  refine wpl_box (vs := [str na, .int .i64 ka, .int .i64 ta, va]) rfl rfl ?_
  intro p w1 x1 hp
  refine gset ?_
  refine wpl_box (vs := [str nb, .int .i64 kb, .int .i64 tb, vb]) rfl rfl ?_
  intro q w2 x2 hq
  refine gset ?_
  repeat' (first | ((with_reducible refine nx0 ?_); go_step) | ((with_reducible refine o_s ?_); first | refine wk0 ?_ | (refine wg0 ?_ ?_ <;> intro hc)) | fail)
  refine wph_region (S := Ext w2) (by decide +kernel) ?_
  intro w3 x3 _
  refine tk 0 ?_; refine gset ?_; refine tk 1 ?_; refine gset ?_; refine tk 2 ?_; refine gset ?_; refine tk 3 ?_; refine gset ?_; refine tk 5 ?_; refine gset ?_; refine tk 6 ?_; refine gset ?_; refine tk 7 ?_; refine gset ?_; refine tk 8 ?_; refine gset ?_
  refine wph_one (i := 4) (by decide +kernel) rfl rfl ?_
  refine wpl_callV (enters_of Tryz.func187 rfl rfl) rfl rfl (t35 _ _ _) ?_; intro w4 x4; refine gset ?_
  refine wph_nil ⟨by exact extc, ?_⟩
  refine wph_one (i := 9) (by decide +kernel) rfl rfl ?_
  refine wpl_callV (enters_of Tryz.func188 rfl rfl) rfl rfl (t36 _ _ _) ?_; intro w5 x5; refine gset ?_
  refine wph_nil ⟨by exact extc, ?_⟩
  refine wph_one (i := 10) (by decide +kernel) rfl rfl ?_
  refine wpl_slice (e := 3) (k := 1) (bytes := 8) (xs := [.int .i64 (cmpN na nb), .int .i64 (cmpI ka kb)]) rfl rfl rfl (by simp [Value.cells]) (by decide +kernel) (by simp) ?_
  intro v w6 x6 _ h6 _
  refine gset ?_
  refine wph_nil ⟨by exact extc, ?_⟩
  refine wph_one (i := 11) (by decide +kernel) rfl rfl ?_
  refine wpl_callV (enters_of Tryz.func186 rfl rfl) rfl rfl (t34 _ _ _ _ h6) ?_; intro w7 x7; refine gset ?_
  refine wph_nil ⟨by exact extc, ?_⟩
  refine tk 12 ?_; refine gset ?_
  refine wph_done (by decide +kernel) ?_
  repeat' (first | ((with_reducible refine nx0 ?_); go_step) | ((with_reducible refine o_s ?_); first | refine wk0 ?_ | (refine wg0 ?_ ?_ <;> intro hc)) | fail)
  go_ret
  exact ⟨rfl, by exact extc⟩
structure SetC where
  name : List UInt8
  kind : Int
  ttl : Int
  a : Option Addr
  n : Nat
  c : Nat
  d : List (List UInt8)
  deriving Inhabited
def SetC.v (s : SetC) : Value := .slice s.a s.n s.c
def SetC.cells (s : SetC) : List Value := [str s.name, .int .i64 s.kind, .int .i64 s.ttl, s.v]
def cmpC (x y : SetC) : Int := cmpSet x.name y.name x.kind y.kind
theorem tpo_cmpSet : TPO (fun x y : List UInt8 × Int => cmpSet x.1 y.1 x.2 y.2) :=
  (tpo_cmpN.comap Prod.fst).lex (tpo_int.comap Prod.snd)
theorem tpo_cmpC : TPO cmpC := tpo_cmpSet.comap fun s : SetC => (s.name, s.kind)
theorem t20 {B g cap : Nat} (l : List SetC) (w : World) (h : Own B 4 115 w (.slice (some ⟨g, 0, none⟩) l.length cap) (l.map SetC.cells)) (hl : l.length < 4611686018427387904) :
    Calls Tryz.prog 128 #[.slice (some ⟨g, 0, none⟩) l.length cap, .func (.func 129) #[] #[]] w fun e w' => e = .returned (.tuple #[]) ∧ ∃ l' : List SetC, l'.Perm l ∧ (∀ i j (hi : i < j) (hj : j < l'.length), 0 ≤ cmpC l'[j] l'[i]) ∧ Own B 4 115 w' (.slice (some ⟨g, 0, none⟩) l'.length cap) (l'.map SetC.cells) ∧ Mv (some g) w w' := by
  have hlen : (l.map SetC.cells).length = l.length := by simp
  have h0 := h
  rw [← hlen] at h0
  have eg : ∀ args w, (callFunc 129 args).run Tryz.prog w = .ok (.enter 129 args) w := enters_of Tryz.func129 (by kernel_rfl) rfl
  have hk : ∀ x, (SetC.cells x).length = 4 := fun _ => rfl
  have hfl := flatK_toList SetC.cells 4 hk l
  have hH : Sort.HoldsK SetC.cells 4 w g 0 l.toArray := by
    unfold Sort.HoldsK
    have := h.holdsF
    rw [← hfl] at this
    simpa using this
  have hcmp : Go.Proofs.CmpLays Tryz.prog 129 #[] SetC.cells 4 cmpC g 0 l.toArray.size w := by
    intro m os dk hdk x y
    refine (t21 x.name y.name x.kind y.kind x.ttl y.ttl x.v y.v _).mono ?_
    rintro e w' ⟨rfl, hx⟩
    exact ⟨rfl, hx.grown⟩
  have hc := Go.Proofs.AnyQ.slices_SortFunc Tryz.sortSet 4 (fun w => isAgg_yes (u := (Tryz.prog.underlying 115).getD (.struct #[])) (by rfl) (by rfl)) (fun w => by obtain ⟨i, hq, hz⟩ := info_of (sizeTy_spec (show sizeTy Tryz.prog 115 4 = true by decide +kernel)); exact (by simp [sizeOf, typeInfo, hq, hz] : (Go.sizeOf 115).run Tryz.prog w = .ok 4 w)) SetC.cells hk (fun x v hv => by
      simp only [SetC.cells, List.mem_cons, List.not_mem_nil, or_false] at hv
      rcases hv with rfl | rfl | rfl | rfl <;> rfl) cmpC tpo_cmpC.swo 129 #[] g 0 cap l.toArray w eg hcmp hH (h.block g rfl).2 (by simpa using hl)
  change Calls Tryz.prog 128 _ _ _ at hc
  refine hc.mono ?_
  rintro e w' ⟨rfl, d', n, os, hp, hs, rfl⟩
  obtain ⟨p1, p2, p3⟩ := hp
  have hd : d'.toList.length = l.length := by simpa using p1
  have hfl2 := flatK_toList SetC.cells 4 hk d'.toList
  have hperm : d'.toList.Perm l := by
    have e1 : d'.extract 0 l.toArray.size = d' := by rw [← p1]; simp
    have e2 : l.toArray.extract 0 l.toArray.size = l.toArray := by simp
    rw [e1, e2] at p3
    simpa using p3
  have hput := h0.putRowF (fs := d'.toList.map SetC.cells) (by simpa using hd) (by intro x hx; obtain ⟨y, _, rfl⟩ := List.mem_map.1 hx; rfl) n os
  have hrow : Go.Proofs.sortWorldK SetC.cells 4 w g 0 n d' os = Sort.grow (Sort.putRow id (Sort.ahead w n) g 0 (d'.toList.map SetC.cells).flatten.toArray) os := by
    unfold Go.Proofs.sortWorldK Sort.putRowK
    rw [← hfl2]
  rw [hrow]
  refine ⟨rfl, d'.toList, hperm, ?_, ?_, hput.2⟩
  · intro i j hi hj
    have hjs : j < d'.size := by simpa using hj
    have := hs i j (Nat.zero_le _) hi (by rw [← p1]; exact hjs)
    rw [getElem!_pos d' j hjs, getElem!_pos d' i (by omega)] at this
    simp only [Go.Proofs.ltOf, decide_eq_false_iff_not] at this
    simp only [Array.getElem_toList]
    omega
  · have := hput.1
    rw [hlen] at this
    rw [hd]
    exact this
theorem t20nil (v : Value) (w : World) : Calls Tryz.prog 128 #[.slice none 0 0, v] w fun e w' => e = .returned (.tuple #[]) ∧ w' = w := by
  have h := Go.Proofs.AnyF.slices_SortFunc_none Tryz.sortSet none 0 v w
  change Calls Tryz.prog 128 _ _ _ at h
  exact h
def match1 (s : RSet) (r : Rec) : Bool := decide (s.name = fold r.name) && decide (s.kind = r.kind)
def bump (s : RSet) (r : Rec) : RSet := ⟨s.name, s.kind, min s.ttl r.ttl, s.data ++ [r.data]⟩
def addTo : List RSet → Rec → List RSet
  | [], r => [⟨fold r.name, r.kind, r.ttl, [r.data]⟩]
  | s :: l, r => if match1 s r = true then bump s r :: l else s :: addTo l r
def Apart (gs : List RSet) : Prop := ∀ (i j : Nat) s t, gs[i]? = some s → gs[j]? = some t → i ≠ j → ¬ (s.name = t.name ∧ s.kind = t.kind)
theorem addTo_hit {r : Rec} : ∀ {gs : List RSet} {i : Nat} {s : RSet}, gs[i]? = some s → match1 s r = true → Apart gs → addTo gs r = gs.set i (bump s r)
  | [], i, s, h, _, _ => by simp at h
  | a :: l, 0, s, h, hm, _ => by
    cases h
    simp [addTo, hm]
  | a :: l, i + 1, s, h, hm, hd => by
    have ha : match1 a r = false := by
      cases hx : match1 a r with
      | false => rfl
      | true =>
        exfalso
        simp only [match1, Bool.and_eq_true, decide_eq_true_eq] at hm hx
        exact hd 0 (i + 1) a s rfl h (by omega) ⟨by rw [hx.1, hm.1], by rw [hx.2, hm.2]⟩
    have := addTo_hit (gs := l) (i := i) (by simpa using h) hm (fun p q s t hp hq hpq => hd (p + 1) (q + 1) s t (by simpa using hp) (by simpa using hq) (by omega))
    simp [addTo, ha, this]
theorem addTo_miss {r : Rec} : ∀ {gs : List RSet}, (∀ s ∈ gs, match1 s r = false) → addTo gs r = gs ++ [⟨fold r.name, r.kind, r.ttl, [r.data]⟩]
  | [], _ => rfl
  | a :: l, h => by
    have := addTo_miss (gs := l) (fun s hs => h s (by simp [hs]))
    simp [addTo, h a (by simp), this]
theorem addTo_keys {r : Rec} : ∀ {gs : List RSet} {s : RSet}, s ∈ addTo gs r → (∃ t ∈ gs, t.name = s.name ∧ t.kind = s.kind) ∨ (s.name = fold r.name ∧ s.kind = r.kind)
  | [], s, h => by
    simp only [addTo, List.mem_singleton] at h
    subst h; exact .inr ⟨rfl, rfl⟩
  | a :: l, s, h => by
    unfold addTo at h
    split at h
    · rename_i hm
      simp only [match1, Bool.and_eq_true, decide_eq_true_eq] at hm
      rcases List.mem_cons.1 h with rfl | h
      · exact .inr ⟨hm.1, hm.2⟩
      · exact .inl ⟨s, by simp [h], rfl, rfl⟩
    · rcases List.mem_cons.1 h with rfl | h
      · exact .inl ⟨s, by simp, rfl, rfl⟩
      · rcases addTo_keys h with ⟨t, ht, h2⟩ | h2
        · exact .inl ⟨t, by simp [ht], h2⟩
        · exact .inr h2
theorem apart_pw {gs : List RSet} : Apart gs ↔ gs.Pairwise fun s t => ¬ (s.name = t.name ∧ s.kind = t.kind) := by
  rw [List.pairwise_iff_getElem]
  constructor
  · intro h i j hi hj hij
    exact h i j _ _ (List.getElem?_eq_getElem hi) (List.getElem?_eq_getElem hj) (by omega)
  · intro h i j s t hs ht hij
    obtain ⟨hi, rfl⟩ := List.getElem?_eq_some_iff.1 hs
    obtain ⟨hj, rfl⟩ := List.getElem?_eq_some_iff.1 ht
    rcases Nat.lt_or_ge i j with h1 | h1
    · exact h i j hi hj h1
    · have := h j i hj hi (by omega)
      exact fun ⟨a, b⟩ => this ⟨a.symm, b.symm⟩
theorem addTo_apart {r : Rec} : ∀ {gs : List RSet}, Apart gs → Apart (addTo gs r)
  | [], _ => by rw [apart_pw]; simp [addTo]
  | a :: l, h => by
    rw [apart_pw] at h ⊢
    obtain ⟨h1, h2⟩ := List.pairwise_cons.1 h
    unfold addTo
    split
    · rename_i hm
      exact List.pairwise_cons.2 ⟨fun t ht => h1 t ht, h2⟩
    · rename_i hm
      refine List.pairwise_cons.2 ⟨fun t ht => ?_, apart_pw.1 (addTo_apart (apart_pw.2 h2))⟩
      rcases addTo_keys ht with ⟨u, hu, e1, e2⟩ | ⟨e1, e2⟩
      · have := h1 u hu
        rw [e1, e2] at this
        exact this
      · rintro ⟨f1, f2⟩
        exact hm (by simp [match1, f1, f2, e1, e2])
def gather (l : List Rec) : List RSet := l.foldl addTo []
theorem gather_apart (l : List Rec) : Apart (gather l) := by
  unfold gather
  suffices ∀ (l : List Rec) gs, Apart gs → Apart (l.foldl addTo gs) from this l [] (by intro i j s t h; simp at h)
  intro l
  induction l with
  | nil => exact fun _ h => h
  | cons r l ih => exact fun gs h => ih _ (addTo_apart h)
theorem gather_snoc {l : List Rec} {k : Nat} (h : k < l.length) : gather (l.take (k + 1)) = addTo (gather (l.take k)) l[k] := by
  unfold gather
  rw [List.take_add_one, List.getElem?_eq_getElem h, List.foldl_append]
  rfl
theorem addTo_len {r : Rec} : ∀ {gs : List RSet}, (addTo gs r).length ≤ gs.length + 1
  | [] => by simp [addTo]
  | a :: l => by
    have := addTo_len (r := r) (gs := l)
    unfold addTo
    split <;> simp <;> omega
def total (gs : List RSet) : Nat := (gs.map fun s => s.data.length).sum
theorem addTo_total {r : Rec} : ∀ {gs : List RSet}, total (addTo gs r) = total gs + 1
  | [] => by simp [addTo, total]
  | a :: l => by
    have := addTo_total (r := r) (gs := l)
    unfold total at this
    unfold addTo
    split
    · simp [total, bump]; omega
    · simp [total, this]; omega
theorem gather_total (l : List Rec) : total (gather l) = l.length := by
  unfold gather
  suffices ∀ (l : List Rec) gs, total (l.foldl addTo gs) = total gs + l.length from by simpa [total] using this l []
  intro l
  induction l with
  | nil => intro gs; simp
  | cons r l ih => intro gs; rw [List.foldl_cons, ih, addTo_total]; simp; omega
theorem gather_len (l : List Rec) : (gather l).length ≤ l.length := by
  unfold gather
  suffices ∀ (l : List Rec) gs, (l.foldl addTo gs).length ≤ gs.length + l.length from by simpa using this l []
  intro l
  induction l with
  | nil => intro gs; simp
  | cons r l ih => intro gs; rw [List.foldl_cons]; have := ih (addTo gs r); have := addTo_len (r := r) (gs := gs); simp; omega
theorem total_le {gs : List RSet} {s : RSet} (h : s ∈ gs) : s.data.length ≤ total gs := by
  induction gs with
  | nil => simp at h
  | cons a l ih =>
    unfold total at *
    rcases List.mem_cons.1 h with rfl | h
    · simp
    · have := ih h; simp; omega
structure GC where
  b : Nat
  v : Value
  s : RSet
def GC.cells (c : GC) : List Value := [str c.s.name, .int .i64 c.s.kind, .int .i64 c.s.ttl, c.v]
def GC.key (c : GC) : Value × Value := (.agg #[str c.s.name, .int .i64 c.s.kind], .pointer (some ⟨c.b, 0, none⟩))
def GC.kcells (c : GC) : List Value := [str c.s.name, .int .i64 c.s.kind]
structure GOK (w : World) (B : Nat) (c : GC) : Prop where
  blk : w.heap[c.b]? = some (.cells c.cells.toArray 115 (0, 0))
  ge : B ≤ c.b
  own : Own B 1 9 w c.v (tcells c.s.data)
structure GS (w : World) (B : Nat) (gcs : List GC) : Prop where
  each : ∀ c ∈ gcs, GOK w B c
  apart : gcs.Pairwise fun c c' => c.b ≠ c'.b ∧ (c.v.ownBlock = none ∨ c'.v.ownBlock = none ∨ c.v.ownBlock ≠ c'.v.ownBlock)
theorem Own.type {B k e : Nat} {w : World} {v : Value} {es : List (List Value)} (h : Own B k e w v es) {r : Nat} (hr : v.ownBlock = some r) : ∃ cur fz, w.heap[r]? = some (.cells cur e fz) := by
  rcases h.row.2 with ⟨rfl, _⟩ | ⟨g, cap, cur, fz, rfl, hb, hg, _⟩
  · simp [Value.ownBlock] at hr
  · simp [Value.ownBlock] at hr; subst hr; exact ⟨cur, fz, hg⟩
theorem Own.neBlock {B k e t b : Nat} {w : World} {v : Value} {es : List (List Value)} {cs : Array Value} {fz : Nat × Nat} (h : Own B k e w v es) (hb : w.heap[b]? = some (.cells cs t fz)) (ht : t ≠ e) : v.ownBlock ≠ some b := fun e' => by
  obtain ⟨cur, fz', h'⟩ := h.type e'
  rw [hb] at h'
  simp only [Option.some.injEq, Obj.cells.injEq] at h'
  exact ht h'.2.1
theorem Own.neMap {B k e m c : Nat} {es' : Array MapEntry} {w : World} {v : Value} {es : List (List Value)} (h : Own B k e w v es) (hb : w.heap[m]? = some (.map es' c)) : v.ownBlock ≠ some m := fun e' => by
  obtain ⟨cur, fz', h'⟩ := h.type e'
  rw [hb] at h'
  cases h'
theorem Own.ne {B k e B' k' e' : Nat} {w : World} {v v' : Value} {es es' : List (List Value)} (h : Own B k e w v es) (h' : Own B' k' e' w v' es') (he : e ≠ e') : v.ownBlock = none ∨ v.ownBlock ≠ v'.ownBlock := by
  cases hv : v.ownBlock with
  | none => exact .inl rfl
  | some r =>
    refine .inr fun e2 => ?_
    obtain ⟨cur, fz, h1⟩ := h.type hv
    exact h'.neBlock h1 he e2.symm
theorem GOK.mv {w w' : World} {B : Nat} {c : GC} {row : Option Nat} (h : GOK w B c) (hm : Mv row w w') (h1 : some c.b ≠ row) (h2 : c.v.ownBlock = none ∨ c.v.ownBlock ≠ row) : GOK w' B c :=
  ⟨hm.at h.blk h1, h.ge, h.own.mv hm h2⟩
theorem GS.ext {w w' : World} {B : Nat} {gcs : List GC} (h : GS w B gcs) (hx : Ext w w') : GS w' B gcs :=
  ⟨fun c hc => (h.each c hc).mv (hx.mv none) (by simp) (by cases c.v.ownBlock <;> simp), h.apart⟩
theorem Sl.slf {k : Nat} {w : World} {v : Value} {es : List (List Value)} (h : Sl k w v es) : ∃ a n c, v = .slice a n c := by
  obtain ⟨a, c, h1, _⟩ := h
  exact ⟨a, _, c, h1⟩
structure SetsC (w : World) (css : List (List Value)) (l : List RSet) : Prop where
  len : css.length = l.length
  at' : ∀ (i : Nat) (s : RSet), l[i]? = some s → ∃ x, css[i]? = some [str s.name, .int .i64 s.kind, .int .i64 s.ttl, x] ∧ Sl 1 w x (tcells s.data)
theorem SetsAt.rows {w : World} {v : Value} {l : List RSet} (h : SetsAt w v l) : ∃ css, Sl 4 w v css ∧ SetsC w css l := by
  obtain ⟨css, h1, h2, h3⟩ := h.out
  exact ⟨css, h1, h2, h3⟩
theorem SetsC.sets {w : World} {v : Value} {l : List RSet} {css : List (List Value)} (h : SetsC w css l) (hv : Sl 4 w v css) : SetsAt w v l := ⟨css, hv, h.len, h.at'⟩
theorem SetsC.ext {w w' : World} {l : List RSet} {css : List (List Value)} (h : SetsC w css l) (hx : Ext w w') : SetsC w' css l :=
  ⟨h.len, fun i s hi => let ⟨x, a, b⟩ := h.at' i s hi; ⟨x, a, b.ext hx⟩⟩
theorem SetsC.append {w : World} {l m : List RSet} {c d : List (List Value)} (h : SetsC w c l) (k : SetsC w d m) : SetsC w (c ++ d) (l ++ m) := by
  refine ⟨by rw [List.length_append, List.length_append, h.len, k.len], fun i s hi => ?_⟩
  rw [List.getElem?_append] at hi ⊢
  rw [h.len]
  split at hi
  · rw [if_pos ‹_›]; exact h.at' i s hi
  · rw [if_neg ‹_›]; exact k.at' _ s hi
theorem SetsC.take {w : World} {l : List RSet} {c : List (List Value)} (h : SetsC w c l) (n : Nat) : SetsC w (c.take n) (l.take n) := by
  refine ⟨by simp [h.len], fun i s hi => ?_⟩
  rw [List.getElem?_take] at hi ⊢
  split at hi
  · rw [if_pos ‹_›]; exact h.at' i s hi
  · cases hi
theorem SetsC.drop {w : World} {l : List RSet} {c : List (List Value)} (h : SetsC w c l) (n : Nat) : SetsC w (c.drop n) (l.drop n) := by
  refine ⟨by simp [h.len], fun i s hi => ?_⟩
  rw [List.getElem?_drop] at hi ⊢
  exact h.at' _ s hi
theorem SetsC.one {w : World} {s : RSet} {x : Value} (h : Sl 1 w x (tcells s.data)) : SetsC w [[str s.name, .int .i64 s.kind, .int .i64 s.ttl, x]] [s] :=
  ⟨rfl, fun i t hi => by
    match i, hi with
    | 0, hi => cases hi; exact ⟨x, rfl, h⟩⟩
theorem SetsC.cell {w : World} {l : List RSet} {c : List (List Value)} (h : SetsC w c l) : ∀ f ∈ c, ∀ u ∈ f, u.oneCell' = true := by
  intro f hf u hu
  obtain ⟨i, hi, rfl⟩ := List.mem_iff_getElem.1 hf
  obtain ⟨x, h1, h2⟩ := h.at' i _ (List.getElem?_eq_getElem (by rw [← h.len]; exact hi))
  rw [List.getElem?_eq_getElem hi] at h1
  rw [Option.some.inj h1] at hu
  simp only [List.mem_cons, List.not_mem_nil, or_false] at hu
  rcases hu with rfl | rfl | rfl | rfl
  · rfl
  · rfl
  · rfl
  · exact h2.one
def From (B : Nat) (v : Value) : Prop := ∀ b o s n c, v = .slice (some ⟨b, o, s⟩) n c → B ≤ b
theorem From.weaken {B C : Nat} {v : Value} (h : From B v) (hc : C ≤ B) : From C v := fun b o s n c e => Nat.le_trans hc (h b o s n c e)
theorem Own.from' {B C k e : Nat} {w : World} {v : Value} {es : List (List Value)} (h : Own B k e w v es) (hc : C ≤ B) : From C v := by
  intro b o s n c hv
  rcases h.form with ⟨rfl, _⟩ | ⟨g, cap, rfl, _, hg, _⟩
  · cases hv
  · simp only [Value.slice.injEq, Option.some.injEq, Addr.mk.injEq] at hv
    obtain ⟨⟨rfl, _⟩, _⟩ := hv
    exact Nat.le_trans hc hg
def FromC (B : Nat) (css : List (List Value)) : Prop := ∀ f ∈ css, ∀ u ∈ f, From B u
theorem FromC.append {B : Nat} {c d : List (List Value)} (h : FromC B c) (k : FromC B d) : FromC B (c ++ d) := fun f hf => by
  rcases List.mem_append.1 hf with hf | hf
  · exact h f hf
  · exact k f hf
theorem FromC.take {B : Nat} {c : List (List Value)} (h : FromC B c) (n : Nat) : FromC B (c.take n) := fun f hf => h f (List.mem_of_mem_take hf)
theorem FromC.drop {B : Nat} {c : List (List Value)} (h : FromC B c) (n : Nat) : FromC B (c.drop n) := fun f hf => h f (List.mem_of_mem_drop hf)
theorem FromC.one {B : Nat} {n : List UInt8} {k t : Int} {x : Value} (h : From B x) : FromC B [[str n, .int .i64 k, .int .i64 t, x]] := by
  intro f hf u hu
  simp only [List.mem_cons, List.not_mem_nil, or_false] at hf
  subst hf
  simp only [List.mem_cons, List.not_mem_nil, or_false] at hu
  rcases hu with rfl | rfl | rfl | rfl
  · intro b o s n c e; cases e
  · intro b o s n c e; cases e
  · intro b o s n c e; cases e
  · exact h
structure SetsO (B : Nat) (w : World) (v : Value) (l : List RSet) : Prop where
  out : ∃ css, Sl 4 w v css ∧ From B v ∧ SetsC w css l ∧ FromC B css
theorem SetsO.sets {B : Nat} {w : World} {v : Value} {l : List RSet} (h : SetsO B w v l) : SetsAt w v l := by
  obtain ⟨css, h1, _, h2, _⟩ := h
  exact h2.sets h1
theorem SetsO.ext {B : Nat} {w w' : World} {v : Value} {l : List RSet} (h : SetsO B w v l) (hx : Ext w w') : SetsO B w' v l := by
  obtain ⟨css, h1, h2, h3, h4⟩ := h
  exact ⟨css, h1.ext hx, h2, h3.ext hx, h4⟩
theorem SetsO.weaken {B C : Nat} {w : World} {v : Value} {l : List RSet} (h : SetsO B w v l) (hc : C ≤ B) : SetsO C w v l := by
  obtain ⟨css, h1, h2, h3, h4⟩ := h
  exact ⟨css, h1, h2.weaken hc, h3, fun f hf u hu => (h4 f hf u hu).weaken hc⟩
theorem Sl.put {B k b : Nat} {w w' : World} {v : Value} {es : List (List Value)} {o : Obj} (h : Sl k w v es) (hf : From B v) (hp : Put w w' b o) (hb : b < B) : Sl k w' v es := by
  obtain ⟨a, cap, h1, h2, h3, h4, h5, h6⟩ := h
  refine ⟨a, cap, h1, h2, h3, h4, h5, fun hn => ?_⟩
  obtain ⟨g, o, e, hc⟩ := h6 hn
  have hg : B ≤ g := hf g o none _ _ (by rw [h1, e])
  exact ⟨g, o, e, fun i e j x h1 h2 => (World.cell?_of_block (hp.other g (by omega))).trans (hc i e j x h1 h2)⟩
theorem SetsO.put {B b : Nat} {w w' : World} {v : Value} {l : List RSet} {o : Obj} (h : SetsO B w v l) (hp : Put w w' b o) (hb : b < B) : SetsO B w' v l := by
  obtain ⟨css, h1, h2, h3, h4⟩ := h
  refine ⟨css, h1.put h2 hp hb, h2, ⟨h3.len, fun i s hi => ?_⟩, h4⟩
  obtain ⟨x, e, hx⟩ := h3.at' i s hi
  exact ⟨x, e, hx.put (h4 _ (List.mem_of_getElem? e) x (by simp)) hp hb⟩
theorem SetsO.nil (B : Nat) (w : World) : SetsO B w (.slice none 0 0) [] := ⟨[], Sl.nil _ _, (by intro b o s n c e; cases e), ⟨rfl, by simp⟩, by intro f hf; cases hf⟩

theorem pw_set {α : Type} {R : α → α → Prop} {l : List α} {i : Nat} {c : α} (h : l.Pairwise R) (hi : i < l.length) (h1 : ∀ j (hj : j < i), R l[j] c) (h2 : ∀ j (hj : i < j) (hl : j < l.length), R c l[j]) : (l.set i c).Pairwise R := by
  rw [List.pairwise_iff_getElem] at *
  intro p q hp hq hpq
  simp only [List.length_set] at hp hq
  simp only [List.getElem_set]
  by_cases e1 : i = p
  · subst e1
    rw [if_pos rfl, if_neg (by omega)]
    exact h2 q hpq hq
  · by_cases e2 : i = q
    · subst e2
      rw [if_neg e1, if_pos rfl]
      exact h1 p hpq
    · rw [if_neg e1, if_neg e2]
      exact h p q hp hq hpq
theorem GS.split {w : World} {B : Nat} {gcs : List GC} (h : GS w B gcs) {i j : Nat} {c c' : GC} (hi : gcs[i]? = some c) (hj : gcs[j]? = some c') (hij : i ≠ j) : c.b ≠ c'.b ∧ (c.v.ownBlock = none ∨ c'.v.ownBlock = none ∨ c.v.ownBlock ≠ c'.v.ownBlock) := by
  have := List.pairwise_iff_getElem.1 h.apart
  obtain ⟨hi2, e1⟩ := List.getElem?_eq_some_iff.1 hi
  obtain ⟨hj2, e2⟩ := List.getElem?_eq_some_iff.1 hj
  subst e1 e2
  rcases Nat.lt_or_ge i j with h1 | h1
  · exact this i j hi2 hj2 h1
  · obtain ⟨a, b⟩ := this j i hj2 hi2 (by omega)
    exact ⟨fun e => a e.symm, by rcases b with b | b | b; exact .inr (.inl b); exact .inl b; exact .inr (.inr fun e => b e.symm)⟩
theorem mem_set_at {α : Type} {l : List α} {i : Nat} {c x : α} (h : x ∈ l.set i c) : x = c ∨ ∃ j, j ≠ i ∧ l[j]? = some x := by
  obtain ⟨j, hj⟩ := List.mem_iff_getElem?.1 h
  by_cases e : j = i
  · subst e
    have hl : j < l.length := by simpa using (List.getElem?_eq_some_iff.1 hj).1
    rw [List.getElem?_set_self hl] at hj
    exact .inl (Option.some.inj hj).symm
  · rw [List.getElem?_set_ne (Ne.symm e)] at hj
    exact .inr ⟨j, e, hj⟩
theorem GS.turn {w w1 w2 : World} {B : Nat} {gcs : List GC} {i : Nat} {c c' : GC} (h : GS w B gcs) (hi : gcs[i]? = some c) (hb : c'.b = c.b) (m : Mv c.v.ownBlock w w1) (o : Own B 1 9 w1 c'.v (tcells c'.s.data))
    (kin : c'.v.ownBlock = c.v.ownBlock ∨ c'.v.ownBlock = some w.heap.size) (hp : Put w1 w2 c.b (.cells c'.cells.toArray 115 (0, 0))) : GS w2 B (gcs.set i c') := by
  have hc := h.each c (List.mem_of_getElem? hi)
  have hil := (List.getElem?_eq_some_iff.1 hi).1
  have hcb : c.v.ownBlock ≠ some c.b := hc.own.neBlock hc.blk (by omega)
  have ho : Own B 1 9 w2 c'.v (tcells c'.s.data) := o.mv hp.mv (.inr (o.neBlock (cs := c.cells.toArray) (fz := (0, 0)) (m.at hc.blk (fun e => hcb e.symm)) (by omega)))
  have hother : ∀ j x, j ≠ i → gcs[j]? = some x → GOK w2 B x ∧ x.b ≠ c.b ∧ (x.v.ownBlock = none ∨ x.v.ownBlock ≠ c'.v.ownBlock) := by
    intro j x hj hx
    have hxo := h.each x (List.mem_of_getElem? hx)
    obtain ⟨s1, s2⟩ := h.split hx hi hj
    have n1 : some x.b ≠ c.v.ownBlock := fun e => (hc.own.neBlock hxo.blk (by omega)) e.symm
    have n2 : x.v.ownBlock = none ∨ x.v.ownBlock ≠ c.v.ownBlock := by
      rcases s2 with s2 | s2 | s2
      · exact .inl s2
      · cases hv : x.v.ownBlock with
        | none => exact .inl rfl
        | some r => rw [s2]; exact .inr (by simp)
      · exact .inr s2
    have g1 := hxo.mv m n1 n2
    refine ⟨g1.mv hp.mv (fun e => s1 (Option.some.inj e)) (.inr (hxo.own.neBlock hc.blk (by omega))), s1, ?_⟩
    rcases kin with k | k
    · rw [k]; exact n2
    · rw [k]
      cases hv : x.v.ownBlock with
      | none => exact .inl rfl
      | some r => exact .inr fun e => by have := (hxo.own.block r hv).2; have := Option.some.inj e; omega
  refine ⟨fun x hx => ?_, pw_set h.apart hil (fun j hj => ?_) (fun j hj hl => ?_)⟩
  · rcases mem_set_at hx with rfl | ⟨j, hj, hx⟩
    · exact ⟨by rw [hb]; exact hp.this, by rw [hb]; exact hc.ge, ho⟩
    · exact (hother j x hj hx).1
  · obtain ⟨_, a, b⟩ := hother j gcs[j] (by omega) (List.getElem?_eq_getElem (by omega))
    exact ⟨by rw [hb]; exact a, by rcases b with b | b; exact .inl b; exact .inr (.inr b)⟩
  · obtain ⟨_, a, b⟩ := hother j gcs[j] (by omega) (List.getElem?_eq_getElem hl)
    exact ⟨by rw [hb]; exact fun e => a e.symm, by rcases b with b | b; exact .inr (.inl b); exact .inr (.inr fun e => b e.symm)⟩
theorem GS.push {w : World} {B : Nat} {gcs : List GC} {c : GC} (h : GS w B gcs) (hc : GOK w B c) (hn : ∀ x ∈ gcs, x.b ≠ c.b) (hv : c.v.ownBlock = none) : GS w B (gcs ++ [c]) := by
  refine ⟨fun x hx => ?_, ?_⟩
  · rcases List.mem_append.1 hx with hx | hx
    · exact h.each x hx
    · rw [List.mem_singleton.1 hx]; exact hc
  · rw [List.pairwise_append]
    refine ⟨h.apart, by simp, fun x hx y hy => ?_⟩
    rw [List.mem_singleton.1 hy]
    exact ⟨hn x hx, .inr (.inl hv)⟩
theorem GS.mv {w w' : World} {B : Nat} {gcs : List GC} {row : Option Nat} (h : GS w B gcs) (hm : Mv row w w') (h1 : ∀ c ∈ gcs, some c.b ≠ row ∧ (c.v.ownBlock = none ∨ c.v.ownBlock ≠ row)) : GS w' B gcs :=
  ⟨fun c hc => (h.each c hc).mv hm (h1 c hc).1 (h1 c hc).2, h.apart⟩
theorem kt48 : Tryz.prog.keyTypeAt 2 165 = true := by kernel_rfl
theorem ktiled48 : Tryz.prog.tiled 2 165 = true := by kernel_rfl
theorem law48 : WideMaps.KeyLaw Tryz.prog 165 := deep_law (m := 2) (by omega) kt48 ktiled48 (by kernel_rfl)
theorem keyOf48 (n : List UInt8) (k : Int) (hn : n.length ≤ 1000000) (hk : 0 ≤ k ∧ k ≤ 65535) : ∃ l, keyOf Tryz.prog 165 (.agg #[str n, .int .i64 k]) = some l := by
  unfold keyOf
  rw [Tryz.underlying165]
  have kt2 : Tryz.prog.keyType 165 = true := by kernel_rfl
  simp only [kt2]
  rw [show Tryz.prog.types.size = 303 from by kernel_rfl]
  have c48 : Tryz.prog.cellsOf 165 = 2 := by kernel_rfl
  have c30 : Tryz.prog.cellsOf 27 = 1 := by kernel_rfl
  have c3 : Tryz.prog.cellsOf 3 = 1 := by kernel_rfl
  have f : Value.formed Tryz.prog 165 (Value.agg #[str n, Value.int IntKind.i64 k]) = true := by simp [Value.formed, Tryz.underlying165, c48]
  have hs : (ByteArray.mk n.toArray).size ≤ maxLen := by rw [size_mk]; unfold maxLen; omega
  have hw : (Lit.int .i64 k).wf = true := by simp [Lit.wf, IntKind.min, IntKind.max, IntKind.bits, IntKind.signed]; omega
  have l30 : Tryz.prog.keyLits 303 27 [str n] = some [.string n] := by simp [Program.keyLits, Tryz.underlying27, str, -ByteArray.size_data, hs]
  have l3 : Tryz.prog.keyLits 303 3 [Value.int .i64 k] = some [.int .i64 k] := by simp [Program.keyLits, Tryz.underlying3, hw]
  rw [f]
  simp only [Bool.and_self, if_true]
  unfold Program.keyLits
  simp [Tryz.underlying165, c48, c30, c3, Value.cells, l30, l3]
structure L1 (w0 w : World) (kv : Value) (gcs : List GC) : Prop where
  ext : Ext w0 w
  map : MapAt Tryz.prog 165 w w0.heap.size (gcs.map GC.key)
  keys : Own (w0.heap.size + 1) 2 165 w kv (gcs.map GC.kcells)
  sets : GS w (w0.heap.size + 1) gcs
theorem L1.grow {w0 w w' : World} {kv : Value} {gcs : List GC} (h : L1 w0 w kv gcs) (hx : Ext w w') : L1 w0 w' kv gcs :=
  ⟨h.ext.trans hx, h.map.at (fun o ho => hx.at ho), h.keys.ext hx, h.sets.ext hx⟩
def soaNums (s : SoaR) : List Int := [s.refresh, s.retry, s.expire, s.minimum]
def soaBase (s : SoaR) : List UInt8 := s.main ++ [0] ++ (s.mail ++ [0]) ++ be4 s.serial.toNat
def be4s (l : List Int) : List UInt8 := (l.map fun n => be4 n.toNat).flatten
theorem soa_data (s : SoaR) : s.data = soaBase s ++ be4s (soaNums s) := by simp [SoaR.data, soaBase, be4s, soaNums]
theorem be4s_succ (l : List Int) (k : Nat) (h : k < l.length) : be4s (l.take (k + 1)) = be4s (l.take k) ++ be4 l[k].toNat := by
  unfold be4s
  rw [List.take_add_one, List.getElem?_eq_getElem h, Option.toList_some, List.map_append, List.flatten_append]
  simp
theorem be4s_len (l : List Int) : (be4s l).length = 4 * l.length := by
  induction l with
  | nil => rfl
  | cons x l ih =>
    have : be4s (x :: l) = be4 x.toNat ++ be4s l := by simp [be4s]
    rw [this, List.length_append, ih, List.length_cons]
    simp [be4]; omega
theorem soa_ok (s : SoaR) : s.ok = ((labels s.main).isSome && (labels s.mail).isSome && decide (0 ≤ s.serial) && decide (s.serial ≤ 4294967295) && (soaNums s).all ttlOk) := by
  simp [SoaR.ok, soaNums, Bool.and_assoc]
set_option maxHeartbeats 1000000 in
theorem t70 (s : SoaR) (w : World) (h1 : s.main.length ≤ 4611686018427387904) (h2 : s.mail.length ≤ 4611686018427387904) : Calls Tryz.prog 151 #[.agg s.cells.toArray] w (RetV w (if s.ok = true then .tuple #[str s.data, .int .i64 0] else .tuple #[str [], .int .i64 1])) := by
  have hA := fun w => t87 s.main w (by omega)
  have hB := fun w => t87 s.mail w (by omega)
  cases hm : labels s.main with
  | none =>
    simp only [hm, Option.isSome_none, Bool.false_eq_true, if_false] at hA
    have hno : s.ok = false := by simp [SoaR.ok, hm]
    rw [hno]
    go_enter Tryz.func151, Tryz.ntmps151
    repeat' (first | ((with_reducible refine nx0 ?_); go_step) | fail)
    refine wpl_box (vs := s.cells) rfl rfl ?_
    intro p w1 x1 hp
    refine gset ?_
    have hp' : Pts w1 p [str s.main, str s.mail, .int .i64 s.serial, .int .i64 s.refresh, .int .i64 s.retry, .int .i64 s.expire, .int .i64 s.minimum] := hp
    repeat' (first | ((with_reducible refine nx0 ?_); go_step) | ((with_reducible refine o_s ?_); first | refine wk0 ?_ | (refine wg0 ?_ ?_ <;> intro hc)) | fail)
    refine wpl_callV (enters_of Tryz.func200 rfl rfl) rfl rfl (hA _) ?_
    intro w2 x2
    have hp' := hp'.ext x2
    repeat' (first | ((with_reducible refine nx0 ?_); go_step) | ((with_reducible refine o_s ?_); first | refine wk0 ?_ | (refine wg0 ?_ ?_ <;> intro hc)) | fail)
    refine wpl_callV (enters_of Tryz.func200 rfl rfl) rfl rfl (hB _) ?_
    intro w3 x3
    cases hl : (labels s.mail).isSome with
    | true =>
      simp only [hl, if_true]
      have hp' := hp'.ext x3
      repeat' (first | ((with_reducible refine nx0 ?_); go_step) | ((with_reducible refine o_s ?_); first | refine wk0 ?_ | (refine wg0 ?_ ?_ <;> intro hc)) | fail)
      go_ret2
      exact ⟨rfl, (x1.trans x2).trans x3⟩
    | false =>
      simp only [hl, Bool.false_eq_true, if_false]
      have hp' := hp'.ext x3
      repeat' (first | ((with_reducible refine nx0 ?_); go_step) | ((with_reducible refine o_s ?_); first | refine wk0 ?_ | (refine wg0 ?_ ?_ <;> intro hc)) | fail)
      go_ret2
      exact ⟨rfl, (x1.trans x2).trans x3⟩
  | some ls =>
    simp only [hm, Option.isSome_some, if_true] at hA
    cases hm2 : labels s.mail with
    | none =>
      simp only [hm2, Option.isSome_none, Bool.false_eq_true, if_false] at hB
      have hno : s.ok = false := by simp [SoaR.ok, hm2]
      rw [hno]
      go_enter Tryz.func151, Tryz.ntmps151
      repeat' (first | ((with_reducible refine nx0 ?_); go_step) | fail)
      refine wpl_box (vs := s.cells) rfl rfl ?_
      intro p w1 x1 hp
      refine gset ?_
      have hp' : Pts w1 p [str s.main, str s.mail, .int .i64 s.serial, .int .i64 s.refresh, .int .i64 s.retry, .int .i64 s.expire, .int .i64 s.minimum] := hp
      repeat' (first | ((with_reducible refine nx0 ?_); go_step) | ((with_reducible refine o_s ?_); first | refine wk0 ?_ | (refine wg0 ?_ ?_ <;> intro hc)) | fail)
      refine wpl_callV (enters_of Tryz.func200 rfl rfl) rfl rfl (hA _) ?_
      intro w2 x2
      have hp' := hp'.ext x2
      repeat' (first | ((with_reducible refine nx0 ?_); go_step) | ((with_reducible refine o_s ?_); first | refine wk0 ?_ | (refine wg0 ?_ ?_ <;> intro hc)) | fail)
      refine wpl_callV (enters_of Tryz.func200 rfl rfl) rfl rfl (hB _) ?_
      intro w3 x3
      have hp' := hp'.ext x3
      repeat' (first | ((with_reducible refine nx0 ?_); go_step) | ((with_reducible refine o_s ?_); first | refine wk0 ?_ | (refine wg0 ?_ ?_ <;> intro hc)) | fail)
      go_ret2
      exact ⟨rfl, (x1.trans x2).trans x3⟩
    | some ms =>
      simp only [hm2, Option.isSome_some, if_true] at hB
      have hfm := labels_fit hm
      have hfm2 := labels_fit hm2
      rw [soa_ok, hm, hm2]
      simp only [Option.isSome_some, Bool.true_and]
      go_enter Tryz.func151, Tryz.ntmps151
      repeat' (first | ((with_reducible refine nx0 ?_); go_step) | fail)
      refine wpl_box (vs := s.cells) rfl rfl ?_
      intro p w1 x1 hp
      refine gset ?_
      have hp' : Pts w1 p [str s.main, str s.mail, .int .i64 s.serial, .int .i64 s.refresh, .int .i64 s.retry, .int .i64 s.expire, .int .i64 s.minimum] := hp
      repeat' (first | ((with_reducible refine nx0 ?_); go_step) | ((with_reducible refine o_s ?_); first | refine wk0 ?_ | (refine wg0 ?_ ?_ <;> intro hc)) | fail)
      refine wpl_callV (enters_of Tryz.func200 rfl rfl) rfl rfl (hA _) ?_
      intro w2 x2
      have hp' := hp'.ext x2
      repeat' (first | ((with_reducible refine nx0 ?_); go_step) | ((with_reducible refine o_s ?_); first | refine wk0 ?_ | (refine wg0 ?_ ?_ <;> intro hc)) | fail)
      refine wpl_callV (enters_of Tryz.func200 rfl rfl) rfl rfl (hB _) ?_
      intro w3 x3
      have hp' := hp'.ext x3
      have x13 := (x1.trans x2).trans x3
      clear x1 x2 x3 hp hA hB
      repeat' (first | ((with_reducible refine nx0 ?_); go_step) | ((with_reducible refine o_s ?_); first | refine wk0 ?_ | (refine wg0 ?_ ?_ <;> intro hc)) | fail)
      · have hc := ‹4294967295 < s.serial›
        go_ret2
        refine ⟨?_, x13⟩
        have hno : (decide (0 ≤ s.serial) && decide (s.serial ≤ 4294967295)) = false := by simp only [Bool.and_eq_false_iff, decide_eq_false_iff_not]; omega
        simp only [hno, Bool.false_and, Bool.false_eq_true, if_false]
        rfl
      · have hc := ‹s.serial ≤ 4294967295›
        have hc0 := ‹¬s.serial < 0›
        have hser : (decide (0 ≤ s.serial) && decide (s.serial ≤ 4294967295)) = true := by simp; omega
        refine wpl_bytes (e := 5) (l := s.main ++ [0] ++ (s.mail ++ [0])) rfl rfl (by decide +kernel) (by decide +kernel) (by simp; omega) ?_
        intro v w4 x4 o4
        refine gset ?_
        have hp' := hp'.ext x4
        have hsn : s.serial = ((s.serial.toNat : Nat) : Int) := by omega
        repeat' (first | ((with_reducible refine nx0 ?_); go_step) | ((with_reducible refine o_s ?_); first | refine wk0 ?_ | (refine wg0 ?_ ?_ <;> intro hc)) | fail)
        rw [hsn]
        refine wpl_callG (enters_of Tryz.func201 rfl rfl) rfl rfl (t88 (B := w3.heap.size) s.serial.toNat o4 x4.size (by omega) (by simp; omega)) ?_
        rintro e w5 ⟨v5, rfl, o5, m5⟩
        refine ⟨_, rfl, ?_⟩
        refine gset ?_
        have x35 := o4.mvx m5 x4 (Nat.le_refl _)
        have hp' := ‹Pts w3 p _›.ext x35
        have x15 := x13.trans x35
        rw [← hsn]
        repeat' (first | ((with_reducible refine nx0 ?_); go_step) | ((with_reducible refine o_s ?_); first | refine wk0 ?_ | (refine wg0 ?_ ?_ <;> intro hc)) | fail)
        refine wpl_run (v := .agg ((soaNums s).map (Value.int .i64)).toArray) rfl (Runs.build rfl (by kernel_rfl)) ?_
        refine gset ?_
        repeat' (first | ((with_reducible refine nx0 ?_); go_step) | ((with_reducible refine o_s ?_); first | refine wk0 ?_ | (refine wg0 ?_ ?_ <;> intro hc)) | fail)
        clear hp' m5
        have hbase : s.main ++ [0] ++ (s.mail ++ [0]) ++ be4 s.serial.toNat = soaBase s := rfl
        rw [hbase] at o5
        have hbl : (soaBase s).length ≤ 600 := by simp [soaBase, be4]; omega
        go_loopw [8, 55] (fun v6 i wr => ∃ k : Nat, k ≤ 4 ∧ i = .int .i64 k ∧ Ext w wr ∧ w3.heap.size ≤ wr.heap.size ∧ Own w3.heap.size 1 5 wr v6 (bcells (soaBase s ++ be4s ((soaNums s).take k))) ∧ ((soaNums s).take k).all ttlOk = true) (fun _ i _ => 4 - (intOf i).toNat)
        case atStart => exact ⟨0, by omega, rfl, x15, x35.size, by simpa [be4s] using o5, rfl⟩
        case round =>
          obtain ⟨k, hk, rfl, hx, hsz, ho, hall⟩ := hrel
          have hlen : (soaNums s).length = 4 := rfl
          by_cases hlt : k < 4
          · have hlt2 : k < (soaNums s).length := hlt
            have hdata : s.data = soaBase s ++ be4s (soaNums s) := soa_data s
            have hsplit : (soaNums s).all ttlOk = true → ttlOk (soaNums s)[k] = true := fun h => List.all_eq_true.1 h _ (List.getElem_mem hlt2)
            repeat' (first | ((with_reducible refine nx0 ?_); go_step) | ((with_reducible refine o_s ?_); first | refine wk0 ?_ | (refine wg0 ?_ ?_ <;> intro hc)) | fail)
            refine wpl_run (v := .int .i64 (soaNums s)[k]) rfl (Runs.idxA (n := 4) (i := k) rfl rfl (by simp [hlt2]) hlt (by decide +kernel)) ?_
            refine gset ?_
            repeat' (first | ((with_reducible refine nx0 ?_); go_step) | ((with_reducible refine o_s ?_); first | refine wk0 ?_ | (refine wg0 ?_ ?_ <;> intro hc)) | fail)
            · have hc2 := ‹2147483647 < (soaNums s)[k]›
              go_ret2
              refine ⟨?_, hx⟩
              have hno : (soaNums s).all ttlOk = false := by
                cases h : (soaNums s).all ttlOk with
                | false => rfl
                | true => have := hsplit h; simp [ttlOk] at this; omega
              simp only [hser, hno, Bool.and_false, Bool.false_eq_true, if_false]
              rfl
            · have hc2 := ‹(soaNums s)[k] ≤ 2147483647›
              have hc1 := ‹¬(soaNums s)[k] < 0›
              have hnn : (soaNums s)[k] = (((soaNums s)[k].toNat : Nat) : Int) := by omega
              have hbs : (be4s ((soaNums s).take k)).length ≤ 16 := by rw [be4s_len]; simp; omega
              rw [hnn]
              refine wpl_callG (enters_of Tryz.func201 rfl rfl) rfl rfl (t88 (B := w3.heap.size) (soaNums s)[k].toNat ho hsz (by omega) (by rw [List.length_append]; omega)) ?_
              rintro e w6 ⟨v6, rfl, o6, m6⟩
              refine ⟨_, rfl, ?_⟩
              refine gset ?_
              have hx6 := ho.mvx m6 hx x13.size
              have hs6 : w3.heap.size ≤ w6.heap.size := Nat.le_trans hsz m6.size
              rw [List.append_assoc, ← be4s_succ _ _ hlt2] at o6
              repeat' (first | ((with_reducible refine nx0 ?_); go_step) | ((with_reducible refine o_s ?_); first | refine wk0 ?_ | (refine wg0 ?_ ?_ <;> intro hc)) | fail)
              refine ⟨⟨k + 1, by omega, rfl, hx6, hs6, o6, ?_⟩, by simp [intOf]; omega⟩
              rw [List.take_add_one, List.getElem?_eq_getElem hlt2, Option.toList_some, List.all_append, hall]
              simp only [List.all_cons, List.all_nil, ttlOk, Bool.true_and, Bool.and_true, Bool.and_eq_true, decide_eq_true_eq]
              omega
            · have hc2 := ‹(soaNums s)[k] < 0›
              go_ret2
              refine ⟨?_, hx⟩
              have hno : (soaNums s).all ttlOk = false := by
                cases h : (soaNums s).all ttlOk with
                | false => rfl
                | true => have := hsplit h; simp [ttlOk] at this; omega
              simp only [hser, hno, Bool.and_false, Bool.false_eq_true, if_false]
              rfl
          · have : k = 4 := by omega
            subst this
            have hsl := ho.sl
            rw [show (soaNums s).take 4 = soaNums s from rfl] at hsl hall
            repeat' (first | ((with_reducible refine nx0 ?_); go_step) | ((with_reducible refine o_s ?_); first | refine wk0 ?_ | (refine wg0 ?_ ?_ <;> intro hc)) | fail)
            go_ret2
            refine ⟨?_, hx⟩
            simp only [hser, hall, Bool.and_self, if_true]
            rw [soa_data]
            rfl
      · have hc := ‹s.serial < 0›
        go_ret2
        refine ⟨?_, x13⟩
        have hno : (decide (0 ≤ s.serial) && decide (s.serial ≤ 4294967295)) = false := by simp only [Bool.and_eq_false_iff, decide_eq_false_iff_not]; omega
        simp only [hno, Bool.false_and, Bool.false_eq_true, if_false]
        rfl
def zeroSoa : List Value := [str [], str [], .int .i64 0, .int .i64 0, .int .i64 0, .int .i64 0, .int .i64 0]
theorem firstN_len (s : List UInt8) : (firstN s).1.length ≤ s.length ∧ (firstN s).2.1.length ≤ s.length := by
  unfold firstN
  split
  · simp
  · refine ⟨?_, by simp⟩
    unfold hostN
    split
    · simp only [Option.getD_some]
      have : (Lib.trimSuffix (s.take (walkN s + 1)) [0]).length ≤ (s.take (walkN s + 1)).length := Lib.trimSuffix_le _ _
      simp at this ⊢
      omega
    · simp
set_option maxHeartbeats 1000000 in
theorem t38 (d : List UInt8) (w : World) (hl : d.length ≤ 4611686018427387904) : Calls Tryz.prog 88 #[str d] w (RetV w (match parseSoa d with | some s => .tuple #[.agg s.cells.toArray, .int .i64 0] | none => .tuple #[.agg zeroSoa.toArray, .int .i64 2])) := by
  have hl1 := firstN_len d
  have hl2 := firstN_len (firstN d).2.1
  go_enter Tryz.func88, Tryz.ntmps88
  repeat' (first | ((with_reducible refine nx0 ?_); go_step) | fail)
  refine wpl_allocB (z := zeroSoa) rfl (by decide +kernel) ?_
  intro w1 x1 s1 h1
  refine gset ?_
  repeat' (first | ((with_reducible refine nx0 ?_); go_step) | ((with_reducible refine o_s ?_); first | refine wk0 ?_ | (refine wg0 ?_ ?_ <;> intro hc)) | fail)
  refine wpl_callV (enters_of Tryz.func149 rfl rfl) rfl rfl (t68 d _ hl) ?_
  intro w2 x2
  refine gset ?_
  have h12 := x2.at h1
  repeat' (first | ((with_reducible refine nx0 ?_); go_step) | ((with_reducible refine o_s ?_); first | refine wk0 ?_ | (refine wg0 ?_ ?_ <;> intro hc)) | fail)
  refine wpl_allocB (z := [str []]) rfl (by decide +kernel) ?_
  intro w3 x3 s3 h3
  refine gset ?_
  have h13 := x3.at h12
  repeat' (first | ((with_reducible refine nx0 ?_); go_step) | ((with_reducible refine o_s ?_); first | refine wk0 ?_ | (refine wg0 ?_ ?_ <;> intro hc)) | fail)
  refine wpl_store1 (v := str (firstN d).2.1) rfl rfl rfl h3 (by decide +kernel) rfl ?_
  intro w4 p4
  have s2 : w.heap.size < w2.heap.size := by have := x2.size; omega
  have h14 := p4.at h13 (by omega)
  have h54 := p4.this
  have x4 : Ext w w4 := ((x1.trans x2).trans x3).move p4.mv (by rintro k ⟨⟩; omega)
  have hp5 := pts_block (cs := [str (firstN d).2.1]) h54
  generalize hb5 : w2.heap.size = b5 at *
  clear h1 h12 h13 h3 p4 x1 x2 x3 s3
  repeat' (first | ((with_reducible refine nx0 ?_); go_step) | ((with_reducible refine o_s ?_); first | refine wk0 ?_ | (refine wg0 ?_ ?_ <;> intro hc)) | fail)
  refine wpl_callV (enters_of Tryz.func149 rfl rfl) rfl rfl (t68 _ _ (by omega)) ?_
  intro w5 x5
  refine gset ?_
  have h15 := x5.at h14
  have h55 := x5.at h54
  have hp5 := hp5.ext x5
  have x5 := x4.trans x5
  repeat' (first | ((with_reducible refine nx0 ?_); go_step) | ((with_reducible refine o_s ?_); first | refine wk0 ?_ | (refine wg0 ?_ ?_ <;> intro hc)) | fail)
  refine wpl_store1 (v := str (firstN (firstN d).2.1).2.1) rfl rfl rfl h55 (by decide +kernel) rfl ?_
  intro w6 p6
  have h16 := p6.at h15 (by omega)
  have h56 := p6.this
  have x6 : Ext w w6 := x5.move p6.mv (by rintro k ⟨⟩; omega)
  clear hp5 h54 h14 h15 h55 p6 x4 x5
  have hp5 := pts_block (cs := [str (firstN (firstN d).2.1).2.1]) h56
  repeat' (first | ((with_reducible refine nx0 ?_); go_step) | ((with_reducible refine o_s ?_); first | refine wk0 ?_ | (refine wg0 ?_ ?_ <;> intro hc)) | fail)
  · refine wpl_run (v := .agg zeroSoa.toArray) rfl (Runs.build (parts := []) (vals := []) rfl (by kernel_rfl)) ?_
    refine gset ?_
    refine wpl_storeB (v := .agg zeroSoa.toArray) rfl rfl rfl h16 (by decide +kernel) rfl (by decide +kernel) ?_
    intro w7 p7
    have x7 : Ext w w7 := x6.move p7.mv (by rintro k ⟨⟩; omega)
    have h17 : w7.heap[w.heap.size]? = some (.cells zeroSoa.toArray 61 (0, 0)) := p7.this
    repeat' (first | ((with_reducible refine nx0 ?_); go_step) | ((with_reducible refine o_s ?_); first | refine wk0 ?_ | (refine wg0 ?_ ?_ <;> intro hc)) | fail)
    refine bodyPost_ret (results_cellT (cs := zeroSoa) rfl rfl h17 (by decide +kernel)) rfl ⟨?_, x7⟩
    have hno : parseSoa d = none := by
      unfold parseSoa
      rw [if_neg]
      rintro ⟨q1, q2, q3, q4⟩
      have := ‹(!decide (((firstN (firstN d).2.1).2.1.length : Int) = 20)) = true›
      simp [q3] at this
    rw [hno]
    rfl
  · have hc1 := ‹(!(firstN d).2.2) = false›
    have hc2 := ‹(!(firstN (firstN d).2.1).2.2) = false›
    have hc3 := ‹(!decide (((firstN (firstN d).2.1).2.1.length : Int) = 20)) = false›
    have hr : (firstN (firstN d).2.1).2.1.length = 20 := by simp at hc3; omega
    have q1 : (firstN d).2.2 = true := by simpa using hc1
    have q2 : (firstN (firstN d).2.1).2.2 = true := by simpa using hc2
    have hps : parseSoa d = if (soaOf d).ok = true then some (soaOf d) else none := by
      unfold parseSoa
      simp only [q1, q2, hr, true_and]
    generalize hrr : (firstN (firstN d).2.1).2.1 = r at *
    refine wpl_callT (f := 150) (caps := #[.pointer (some ⟨b5, 0, none⟩)]) (enters_of Tryz.func150 rfl rfl) rfl rfl rfl (t69 r 0 _ _ hp5 hr (by omega)) ?_
    rintro e w10 ⟨rfl, y⟩
    refine ⟨_, rfl, ?_⟩
    refine gset ?_
    have hp5 := hp5.ext y
    have h16 := y.at h16
    have x6 := x6.trans y
    clear y
    repeat' (first | ((with_reducible refine nx0 ?_); go_step) | ((with_reducible refine o_s ?_); first | refine wk0 ?_ | (refine wg0 ?_ ?_ <;> intro hc)) | fail)
    refine wpl_callT (f := 150) (caps := #[.pointer (some ⟨b5, 0, none⟩)]) (enters_of Tryz.func150 rfl rfl) rfl rfl rfl (t69 r 1 _ _ hp5 hr (by omega)) ?_
    rintro e w11 ⟨rfl, y⟩
    refine ⟨_, rfl, ?_⟩
    refine gset ?_
    have hp5 := hp5.ext y
    have h16 := y.at h16
    have x6 := x6.trans y
    clear y
    repeat' (first | ((with_reducible refine nx0 ?_); go_step) | ((with_reducible refine o_s ?_); first | refine wk0 ?_ | (refine wg0 ?_ ?_ <;> intro hc)) | fail)
    refine wpl_callT (f := 150) (caps := #[.pointer (some ⟨b5, 0, none⟩)]) (enters_of Tryz.func150 rfl rfl) rfl rfl rfl (t69 r 2 _ _ hp5 hr (by omega)) ?_
    rintro e w12 ⟨rfl, y⟩
    refine ⟨_, rfl, ?_⟩
    refine gset ?_
    have hp5 := hp5.ext y
    have h16 := y.at h16
    have x6 := x6.trans y
    clear y
    repeat' (first | ((with_reducible refine nx0 ?_); go_step) | ((with_reducible refine o_s ?_); first | refine wk0 ?_ | (refine wg0 ?_ ?_ <;> intro hc)) | fail)
    refine wpl_callT (f := 150) (caps := #[.pointer (some ⟨b5, 0, none⟩)]) (enters_of Tryz.func150 rfl rfl) rfl rfl rfl (t69 r 3 _ _ hp5 hr (by omega)) ?_
    rintro e w13 ⟨rfl, y⟩
    refine ⟨_, rfl, ?_⟩
    refine gset ?_
    have hp5 := hp5.ext y
    have h16 := y.at h16
    have x6 := x6.trans y
    clear y
    repeat' (first | ((with_reducible refine nx0 ?_); go_step) | ((with_reducible refine o_s ?_); first | refine wk0 ?_ | (refine wg0 ?_ ?_ <;> intro hc)) | fail)
    refine wpl_callT (f := 150) (caps := #[.pointer (some ⟨b5, 0, none⟩)]) (enters_of Tryz.func150 rfl rfl) rfl rfl rfl (t69 r 4 _ _ hp5 hr (by omega)) ?_
    rintro e w14 ⟨rfl, y⟩
    refine ⟨_, rfl, ?_⟩
    refine gset ?_
    have hp5 := hp5.ext y
    have h16 := y.at h16
    have x6 := x6.trans y
    clear y
    repeat' (first | ((with_reducible refine nx0 ?_); go_step) | ((with_reducible refine o_s ?_); first | refine wk0 ?_ | (refine wg0 ?_ ?_ <;> intro hc)) | fail)
    have hsc : (soaOf d).cells = [str (firstN d).1, str (firstN (firstN d).2.1).1, .int .i64 (numP r 0 4 : Nat), .int .i64 (numP r 1 4 : Nat), .int .i64 (numP r 2 4 : Nat), .int .i64 (numP r 3 4 : Nat), .int .i64 (numP r 4 4 : Nat)] := by
      simp only [SoaR.cells, soaOf, hrr]
    refine wpl_run (v := .agg (soaOf d).cells.toArray) rfl (by rw [hsc]; exact Runs.build rfl (by kernel_rfl)) ?_
    refine gset ?_
    refine wpl_allocB (z := zeroSoa) rfl (by decide +kernel) ?_
    intro w15 x15 s15 h15
    refine gset ?_
    have h16 := x15.at h16
    have x6 := x6.trans x15
    have hlt16 : w.heap.size < w14.heap.size := (Array.getElem?_eq_some_iff.1 ‹w14.heap[w.heap.size]? = _›).1
    refine wpl_storeB (v := .agg (soaOf d).cells.toArray) rfl rfl rfl h15 (show sizeTy Tryz.prog 61 7 = true by decide +kernel) rfl (by rw [hsc]; simp [Value.cells, Value.oneCell', str]) ?_
    intro w16 p16
    have h16 := p16.at h16 (by omega)
    have x6 := x6.move p16.mv (by rintro k ⟨⟩; omega)
    have hb10 : w16.heap[w14.heap.size]? = some (.cells (soaOf d).cells.toArray 61 (0, 0)) := p16.this
    have hp10 := pts_block hb10
    repeat' (first | ((with_reducible refine nx0 ?_); go_step) | ((with_reducible refine o_s ?_); first | refine wk0 ?_ | (refine wg0 ?_ ?_ <;> intro hc)) | fail)
    refine wpl_run (v := .agg (soaOf d).cells.toArray) rfl (Runs.loadN (n := 7) hp10 rfl (by decide +kernel)) ?_
    refine gset ?_
    have hm1 : (soaOf d).main.length ≤ 4611686018427387904 := by simp only [soaOf]; omega
    have hm2 : (soaOf d).mail.length ≤ 4611686018427387904 := by simp only [soaOf]; omega
    refine wpl_callV (enters_of Tryz.func151 rfl rfl) rfl rfl (t70 (soaOf d) _ hm1 hm2) ?_
    intro w17 x17
    refine gset ?_
    have h16 := x17.at h16
    have hb10 := x17.at hb10
    have x6 := x6.trans x17
    have hp10 := hp10.ext x17
    cases hok : (soaOf d).ok with
    | false =>
      simp only [hok, Bool.false_eq_true, if_false] at hps ⊢
      repeat' (first | ((with_reducible refine nx0 ?_); go_step) | ((with_reducible refine o_s ?_); first | refine wk0 ?_ | (refine wg0 ?_ ?_ <;> intro hc)) | fail)
      refine wpl_run (v := .agg zeroSoa.toArray) rfl (Runs.build (parts := []) (vals := []) rfl (by kernel_rfl)) ?_
      refine gset ?_
      refine wpl_storeB (v := .agg zeroSoa.toArray) rfl rfl rfl h16 (by decide +kernel) rfl (by decide +kernel) ?_
      intro w7 p7
      have x7 : Ext w w7 := x6.move p7.mv (by rintro k ⟨⟩; omega)
      have h17 : w7.heap[w.heap.size]? = some (.cells zeroSoa.toArray 61 (0, 0)) := p7.this
      repeat' (first | ((with_reducible refine nx0 ?_); go_step) | ((with_reducible refine o_s ?_); first | refine wk0 ?_ | (refine wg0 ?_ ?_ <;> intro hc)) | fail)
      refine bodyPost_ret (results_cellT (cs := zeroSoa) rfl rfl h17 (by decide +kernel)) rfl ⟨?_, x7⟩
      rw [hps]
      rfl
    | true =>
      simp only [hok, if_true] at hps ⊢
      repeat' (first | ((with_reducible refine nx0 ?_); go_step) | ((with_reducible refine o_s ?_); first | refine wk0 ?_ | (refine wg0 ?_ ?_ <;> intro hc)) | fail)
      refine wpl_run (v := .agg (soaOf d).cells.toArray) rfl (Runs.loadN (n := 7) hp10 rfl (by decide +kernel)) ?_
      refine gset ?_
      refine wpl_storeB (v := .agg (soaOf d).cells.toArray) rfl rfl rfl h16 (show sizeTy Tryz.prog 61 7 = true by decide +kernel) rfl (by rw [hsc]; simp [Value.cells, Value.oneCell', str]) ?_
      intro w7 p7
      have x7 : Ext w w7 := x6.move p7.mv (by rintro k ⟨⟩; omega)
      have h17 : w7.heap[w.heap.size]? = some (.cells (soaOf d).cells.toArray 61 (0, 0)) := p7.this
      repeat' (first | ((with_reducible refine nx0 ?_); go_step) | ((with_reducible refine o_s ?_); first | refine wk0 ?_ | (refine wg0 ?_ ?_ <;> intro hc)) | fail)
      refine bodyPost_ret (results_cellT (cs := (soaOf d).cells) rfl rfl h17 (show aggTy Tryz.prog 61 7 = true by decide +kernel)) rfl ⟨?_, x7⟩
      rw [hps]
      rfl
  · refine wpl_run (v := .agg zeroSoa.toArray) rfl (Runs.build (parts := []) (vals := []) rfl (by kernel_rfl)) ?_
    refine gset ?_
    refine wpl_storeB (v := .agg zeroSoa.toArray) rfl rfl rfl h16 (by decide +kernel) rfl (by decide +kernel) ?_
    intro w7 p7
    have x7 : Ext w w7 := x6.move p7.mv (by rintro k ⟨⟩; omega)
    have h17 : w7.heap[w.heap.size]? = some (.cells zeroSoa.toArray 61 (0, 0)) := p7.this
    repeat' (first | ((with_reducible refine nx0 ?_); go_step) | ((with_reducible refine o_s ?_); first | refine wk0 ?_ | (refine wg0 ?_ ?_ <;> intro hc)) | fail)
    refine bodyPost_ret (results_cellT (cs := zeroSoa) rfl rfl h17 (by decide +kernel)) rfl ⟨?_, x7⟩
    have hno : parseSoa d = none := by
      unfold parseSoa
      rw [if_neg]
      rintro ⟨q1, q2, q3, q4⟩
      have := ‹(!(firstN (firstN d).2.1).2.2) = true›
      simp [q2] at this
    rw [hno]
    rfl
  · refine wpl_run (v := .agg zeroSoa.toArray) rfl (Runs.build (parts := []) (vals := []) rfl (by kernel_rfl)) ?_
    refine gset ?_
    refine wpl_storeB (v := .agg zeroSoa.toArray) rfl rfl rfl h16 (by decide +kernel) rfl (by decide +kernel) ?_
    intro w7 p7
    have x7 : Ext w w7 := x6.move p7.mv (by rintro k ⟨⟩; omega)
    have h17 : w7.heap[w.heap.size]? = some (.cells zeroSoa.toArray 61 (0, 0)) := p7.this
    repeat' (first | ((with_reducible refine nx0 ?_); go_step) | ((with_reducible refine o_s ?_); first | refine wk0 ?_ | (refine wg0 ?_ ?_ <;> intro hc)) | fail)
    refine bodyPost_ret (results_cellT (cs := zeroSoa) rfl rfl h17 (by decide +kernel)) rfl ⟨?_, x7⟩
    have hno : parseSoa d = none := by
      unfold parseSoa
      rw [if_neg]
      rintro ⟨q1, q2, q3, q4⟩
      have := ‹(!(firstN d).2.2) = true›
      simp [q1] at this
    rw [hno]
    rfl
set_option maxHeartbeats 1000000 in
theorem t26 (k : Int) (d : List UInt8) (w : World) (hl : d.length ≤ 4000) : Calls Tryz.prog 166 #[.int .i64 k, str d] w (RetV w (.bool (fits k d))) := by
  have h38 := fun w => t38 d w (by omega)
  go_enter Tryz.func166, Tryz.ntmps166
  repeat' (first | ((with_reducible refine nx0 ?_); go_step) | ((with_reducible refine o_s ?_); first | refine wk0 ?_ | (refine wg0 ?_ ?_ <;> intro hc)) | fail)
  · have h1 := ‹k = 1›
    go_ret
    refine ⟨?_, Ext.refl _⟩
    rw [fits, if_pos h1]
    have e : decide ((d.length : Int) = 4) = decide (d.length = 4) := by apply decide_eq_decide.2; omega
    exact congrArg (fun b => Ending.returned (Value.bool b)) e
  · have h1 := ‹¬k = 1›
    have h2 := ‹k = 28›
    go_ret
    refine ⟨?_, Ext.refl _⟩
    rw [fits, if_neg h1, if_pos h2]
    have e : decide ((d.length : Int) = 16) = decide (d.length = 16) := by apply decide_eq_decide.2; omega
    exact congrArg (fun b => Ending.returned (Value.bool b)) e
  · have h1 := ‹¬k = 1›
    have h2 := ‹¬k = 28›
    have h3 := ‹k = 16›
    refine wpl_callV (enters_of Tryz.func212 rfl rfl) rfl rfl (t37 _ _ (by omega)) ?_
    intro w2 x2
    refine gset ?_
    repeat' (first | ((with_reducible refine nx0 ?_); go_step) | ((with_reducible refine o_s ?_); first | refine wk0 ?_ | (refine wg0 ?_ ?_ <;> intro hc)) | fail)
    go_ret
    refine ⟨?_, x2⟩
    rw [fits, if_neg h1, if_neg h2, if_pos h3]
    rfl
  · have h1 := ‹¬k = 1›
    have h2 := ‹¬k = 28›
    have h3 := ‹¬k = 16›
    have h4 := ‹k = 6›
    have hF : fits k d = (parseSoa d).isSome := by rw [fits, if_neg h1, if_neg h2, if_neg h3, if_pos h4]
    refine wpl_callV (enters_of Tryz.func88 rfl rfl) rfl rfl (h38 _) ?_
    intro w2 x2
    refine gset ?_
    cases hp : parseSoa d with
    | none =>
      simp only [hp] at hF
      repeat' (first | ((with_reducible refine nx0 ?_); go_step) | ((with_reducible refine o_s ?_); first | refine wk0 ?_ | (refine wg0 ?_ ?_ <;> intro hc)) | fail)
      refine wpl_allocB (z := zeroSoa) rfl (by decide +kernel) ?_
      intro w3 x3 s3 h3b
      refine gset ?_
      refine wpl_storeB (v := .agg zeroSoa.toArray) rfl rfl rfl h3b (by decide +kernel) rfl (by decide +kernel) ?_
      intro w4 p4
      repeat' (first | ((with_reducible refine nx0 ?_); go_step) | ((with_reducible refine o_s ?_); first | refine wk0 ?_ | (refine wg0 ?_ ?_ <;> intro hc)) | fail)
      go_ret
      refine ⟨?_, (x2.trans x3).move p4.mv (by rintro k ⟨⟩; exact x2.size)⟩
      rw [hF]
      rfl
    | some s =>
      simp only [hp] at hF
      have hsc : ∀ s : SoaR, s.cells = [str s.main, str s.mail, .int .i64 s.serial, .int .i64 s.refresh, .int .i64 s.retry, .int .i64 s.expire, .int .i64 s.minimum] := fun _ => rfl
      repeat' (first | ((with_reducible refine nx0 ?_); go_step) | ((with_reducible refine o_s ?_); first | refine wk0 ?_ | (refine wg0 ?_ ?_ <;> intro hc)) | fail)
      refine wpl_allocB (z := zeroSoa) rfl (by decide +kernel) ?_
      intro w3 x3 s3 h3b
      refine gset ?_
      refine wpl_storeB (v := .agg s.cells.toArray) rfl rfl rfl h3b (show sizeTy Tryz.prog 61 7 = true by decide +kernel) rfl (by rw [hsc]; simp [Value.cells, Value.oneCell', str]) ?_
      intro w4 p4
      repeat' (first | ((with_reducible refine nx0 ?_); go_step) | ((with_reducible refine o_s ?_); first | refine wk0 ?_ | (refine wg0 ?_ ?_ <;> intro hc)) | fail)
      go_ret
      refine ⟨?_, (x2.trans x3).move p4.mv (by rintro k ⟨⟩; exact x2.size)⟩
      rw [hF]
      rfl
  · have h1 := ‹¬k = 1›
    have h2 := ‹¬k = 28›
    have h3 := ‹¬k = 16›
    have h4 := ‹¬k = 6›
    refine wpl_callV (enters_of Tryz.func213 rfl rfl) rfl rfl (t39 k d _ (by omega)) ?_
    intro w2 x2
    refine gset ?_
    repeat' (first | ((with_reducible refine nx0 ?_); go_step) | ((with_reducible refine o_s ?_); first | refine wk0 ?_ | (refine wg0 ?_ ?_ <;> intro hc)) | fail)
    go_ret
    refine ⟨?_, x2⟩
    rw [fits, if_neg h1, if_neg h2, if_neg h3, if_neg h4]
    simp
set_option maxHeartbeats 20000000 in
theorem t16 (r : Rec) (w : World) : Calls Tryz.prog 108 #[.agg #[str r.name, .int .i64 r.kind, .int .i64 r.ttl, str r.data]] w (RetV w (.int .i64 (checkR r))) := by
  have hf : r.data.length ≤ 4000 → ∀ w, Calls Tryz.prog 166 #[.int .i64 r.kind, str r.data] w (RetV w (.bool (fits r.kind r.data))) := fun h w => t26 _ _ w h
  go_enter Tryz.func108, Tryz.ntmps108
  repeat' (first | ((with_reducible refine nx0 ?_); go_step) | fail)
  refine wpl_box (vs := [str r.name, .int .i64 r.kind, .int .i64 r.ttl, str r.data]) rfl rfl ?_
  intro p w1 x1 hp
  refine gset ?_
  repeat' (first | ((with_reducible refine nx0 ?_); go_step) | ((with_reducible refine o_s ?_); refine wk0 ?_) | fail)
  all_goals try (go_ret; refine ⟨?_, x1⟩; first | (rw [checkR, if_pos (by omega)]; rfl) | (rw [checkR, if_neg (by omega), if_pos (by omega)]; rfl))
  ((with_reducible refine o_s ?_); refine o_g ?_; ((first | refine o_G ?_ ?_ | refine o_N ?_ ?_) <;> intro hc))
  all_goals repeat' (first | ((with_reducible refine nx0 ?_); go_step) | ((with_reducible refine o_s ?_); refine wk0 ?_) | fail)
  all_goals try (go_ret; refine ⟨?_, x1⟩; first | (rw [checkR, if_pos (by omega)]; rfl) | (rw [checkR, if_neg (by omega), if_pos (by omega)]; rfl))
  ((with_reducible refine o_s ?_); refine o_g ?_; ((first | refine o_G ?_ ?_ | refine o_N ?_ ?_) <;> intro hc))
  all_goals repeat' (first | ((with_reducible refine nx0 ?_); go_step) | ((with_reducible refine o_s ?_); refine wk0 ?_) | fail)
  all_goals try (go_ret; refine ⟨?_, x1⟩; first | (rw [checkR, if_pos (by omega)]; rfl) | (rw [checkR, if_neg (by omega), if_pos (by omega)]; rfl))
  ((with_reducible refine o_s ?_); refine o_g ?_; ((first | refine o_G ?_ ?_ | refine o_N ?_ ?_) <;> intro hc))
  all_goals repeat' (first | ((with_reducible refine nx0 ?_); go_step) | ((with_reducible refine o_s ?_); refine wk0 ?_) | fail)
  all_goals try (go_ret; refine ⟨?_, x1⟩; first | (rw [checkR, if_pos (by omega)]; rfl) | (rw [checkR, if_neg (by omega), if_pos (by omega)]; rfl))
  ((with_reducible refine o_s ?_); refine o_g ?_; ((first | refine o_G ?_ ?_ | refine o_N ?_ ?_) <;> intro hc))
  all_goals repeat' (first | ((with_reducible refine nx0 ?_); go_step) | ((with_reducible refine o_s ?_); refine wk0 ?_) | fail)
  all_goals try (go_ret; refine ⟨?_, x1⟩; first | (rw [checkR, if_pos (by omega)]; rfl) | (rw [checkR, if_neg (by omega), if_pos (by omega)]; rfl))
  (apply wpl_guard; (rfl)) <;> intro hc
  · have hlen : r.data.length ≤ 4000 := by simp at hc; omega
    rw [hc]
    repeat' (first | ((with_reducible refine nx0 ?_); go_step) | ((with_reducible refine o_s ?_); refine wk0 ?_) | fail)
    refine wpl_callV (enters_of Tryz.func166 rfl rfl) rfl rfl (hf hlen _) ?_
    intro w2 x2
    refine gset ?_
    have hp := hp.ext x2
    cases hfit : fits r.kind r.data with
    | true =>
      repeat' (first | ((with_reducible refine nx0 ?_); go_step) | ((with_reducible refine o_s ?_); refine wk0 ?_) | fail)
      refine wpl_callV (enters_of Tryz.func63 rfl rfl) rfl rfl (t27 _ _) ?_
      intro w3 x3
      refine gset ?_
      repeat' (first | ((with_reducible refine nx0 ?_); go_step) | ((with_reducible refine o_s ?_); refine wk0 ?_) | fail)
      go_ret
      refine ⟨?_, (x1.trans x2).trans x3⟩
      have e : checkR r = if (labels r.name).isSome = true then 0 else 1 := by
        rw [checkR, if_neg (by omega), if_neg (by rw [hfit]; simp; omega)]
      rw [e]
      rfl
    | false =>
      repeat' (first | ((with_reducible refine nx0 ?_); go_step) | ((with_reducible refine o_s ?_); refine wk0 ?_) | fail)
      go_ret
      refine ⟨?_, x1.trans x2⟩
      rw [checkR, if_neg (by omega), if_pos (by rw [hfit]; simp)]
      rfl
  · have hc4 : 4000 < r.data.length := by simp at hc; omega
    rw [hc]
    simp only [Act.put, List.setIfInBounds_toArray, List.set_cons_succ, List.set_cons_zero, Bool.not_true, Bool.not_false]
    repeat' (first | ((with_reducible refine nx0 ?_); go_step) | ((with_reducible refine o_s ?_); refine wk0 ?_) | fail)
    go_ret
    refine ⟨?_, x1⟩
    rw [checkR, if_neg (by omega), if_pos (by omega)]
    rfl
set_option maxHeartbeats 1000000 in
theorem t15 (a b : RSet) (u v : Value) (w : World) (hu : Sl 1 w u (tcells a.data)) (hv : Sl 1 w v (tcells b.data)) : Calls Tryz.prog 137 #[.agg #[str a.name, .int .i64 a.kind, .int .i64 a.ttl, u], .agg #[str b.name, .int .i64 b.kind, .int .i64 b.ttl, v]] w (RetV w (.bool (decide (a = b)))) := by
  have hab : a = b ↔ a.name = b.name ∧ a.kind = b.kind ∧ a.ttl = b.ttl ∧ a.data = b.data := by
    cases a; cases b; simp
  go_enter Tryz.func137, Tryz.ntmps137
  repeat' (first | ((with_reducible refine nx0 ?_); go_step) | fail)
  refine wpl_box (vs := [str a.name, .int .i64 a.kind, .int .i64 a.ttl, u]) rfl rfl ?_
  intro p w1 x1 hp
  refine gset ?_
  refine wpl_box (vs := [str b.name, .int .i64 b.kind, .int .i64 b.ttl, v]) rfl rfl ?_
  intro q w2 x2 hq
  refine gset ?_
  have hu2 := hu.ext (x1.trans x2)
  have hv2 := hv.ext (x1.trans x2)
  repeat' (first | ((with_reducible refine nx0 ?_); go_step) | ((with_reducible refine o_s ?_); first | refine wk0 ?_ | (refine wg0 ?_ ?_ <;> intro hc)) | fail)
  · refine wpl_callV (enters_of Tryz.func194 rfl rfl) rfl rfl (t25 _ _ _ _ _ hu2 hv2) ?_; intro w3 x3; refine gset ?_
    repeat' (first | ((with_reducible refine nx0 ?_); go_step) | ((with_reducible refine o_s ?_); first | refine wk0 ?_ | (refine wg0 ?_ ?_ <;> intro hc)) | fail)
    go_ret
    refine ⟨?_, by exact extc⟩
    have : decide (a = b) = decide (a.data = b.data) := by
      apply decide_eq_decide.2
      rw [hab]
      simp only [‹a.name = b.name›, ‹a.kind = b.kind›, ‹a.ttl = b.ttl›, true_and]
    rw [this]
    rfl
  · go_ret
    refine ⟨?_, by exact extc⟩
    have : ¬ a = b := by rw [hab]; have := ‹¬a.ttl = b.ttl›; simp [this]
    simp [this]
  · go_ret
    refine ⟨?_, by exact extc⟩
    have : ¬ a = b := by rw [hab]; have := ‹¬a.kind = b.kind›; simp [this]
    simp [this]
  · go_ret
    refine ⟨?_, by exact extc⟩
    have : ¬ a = b := by rw [hab]; have := ‹¬a.name = b.name›; simp [this]
    simp [this]
set_option maxHeartbeats 1000000 in
theorem t11 (u v : Value) (a b : List RSet) (w : World) (hu : SetsAt w u a) (hv : SetsAt w v b) : Calls Tryz.prog 82 #[u, v] w (RetV w (.bool (decide (a = b)))) := by
  obtain ⟨cu, hu1, hul⟩ := hu.sl
  obtain ⟨cv, hv1, hvl⟩ := hv.sl
  have hal := hu1.le
  go_enter Tryz.func82, Tryz.ntmps82
  repeat' (first | ((with_reducible refine nx0 ?_); go_step) | ((with_reducible refine o_s ?_); first | refine wk0 ?_ | (refine wg0 ?_ ?_ <;> intro hc)) | fail)
  · have hne := ‹(!decide ((cu.length : Int) = (cv.length : Int))) = true›
    go_ret
    refine ⟨?_, Ext.refl _⟩
    have : a ≠ b := by rintro rfl; simp at hne; omega
    simp [this]
  · have hne := ‹(!decide ((cu.length : Int) = (cv.length : Int))) = false›
    have hlen : a.length = b.length := by simp at hne; omega
    go_loopw [5] (fun i wr => ∃ k : Nat, k ≤ a.length ∧ i = .int .i64 k ∧ Ext w wr ∧ a.take k = b.take k) (fun i _ => a.length - (intOf i).toNat)
    case atStart => exact ⟨0, Nat.zero_le _, rfl, Ext.refl _, rfl⟩
    case round =>
      obtain ⟨k, hk, rfl, hx, hall⟩ := hrel
      by_cases hlt : k < a.length
      · have hlt2 : k < b.length := by omega
        obtain ⟨x, h1, h1d⟩ := (hu.ext hx).elem (List.getElem?_eq_getElem hlt)
        obtain ⟨y, h2, h2d⟩ := (hv.ext hx).elem (List.getElem?_eq_getElem hlt2)
        have hu2 := hu1.ext hx
        have hv2 := hv1.ext hx
        repeat' (first | ((with_reducible refine nx0 ?_); go_step) | ((with_reducible refine o_s ?_); first | refine wk0 ?_ | (refine wg0 ?_ ?_ <;> intro hc)) | fail)
        refine wph_region (S := Ext wr) (by decide +kernel) ?_
        intro w2 x2 _
        refine tk 0 ?_; refine gset ?_; refine tk 1 ?_; refine gset ?_; refine tk 2 ?_; refine gset ?_; refine tk 3 ?_; refine gset ?_; refine tk 4 ?_; refine gset ?_; refine tk 5 ?_; refine gset ?_; refine tk 6 ?_; refine gset ?_; refine tk 7 ?_; refine gset ?_
        refine wph_one (i := 8) (by decide +kernel) rfl rfl ?_
        refine wpl_callV (enters_of Tryz.func137 rfl rfl) rfl rfl (t15 a[k] b[k] _ _ _ (h1d.ext x2) (h2d.ext x2)) ?_; intro w3 x3; refine gset ?_
        refine wph_nil ⟨by exact extc, ?_⟩
        refine tk 9 ?_; refine gset ?_
        refine wph_done (by decide +kernel) ?_
        by_cases he : a[k] = b[k]
        · have e1 : decide (a[k] = b[k]) = true := decide_eq_true he
          simp only [e1, Bool.not_true]
          repeat' (first | ((with_reducible refine nx0 ?_); go_step) | ((with_reducible refine o_s ?_); first | refine wk0 ?_ | (refine wg0 ?_ ?_ <;> intro hc)) | fail)
          exact ⟨⟨k + 1, by omega, rfl, by exact extc, take_succ_eq hall hlt hlt2 he⟩, by simp [intOf]; omega⟩
        · have e1 : decide (a[k] = b[k]) = false := decide_eq_false he
          simp only [e1, Bool.not_false]
          repeat' (first | ((with_reducible refine nx0 ?_); go_step) | ((with_reducible refine o_s ?_); first | refine wk0 ?_ | (refine wg0 ?_ ?_ <;> intro hc)) | fail)
          go_ret
          refine ⟨?_, by exact extc⟩
          simp [ne_of_at hlt hlt2 he]
      · have hk2 : k = a.length := by omega
        subst hk2
        repeat' (first | ((with_reducible refine nx0 ?_); go_step) | ((with_reducible refine o_s ?_); first | refine wk0 ?_ | (refine wg0 ?_ ?_ <;> intro hc)) | fail)
        go_ret
        refine ⟨?_, by exact extc⟩
        rw [List.take_length, hlen, List.take_length] at hall
        simp [hall]
def shortAt (r : Rec) : Bool := decide (r.name.length ≤ 300) && decide (r.data.length ≤ 300)
theorem all_no {α : Type} {p : α → Bool} {l : List α} {k : Nat} (h : k < l.length) (hp : p l[k] = false) : l.all p = false := by
  rw [List.all_eq_false]
  exact ⟨l[k], List.getElem_mem h, by simp [hp]⟩
theorem all_take {α : Type} {p : α → Bool} {l : List α} {k : Nat} (h : k < l.length) (ha : (l.take k).all p = true) (hp : p l[k] = true) : (l.take (k + 1)).all p = true := by
  rw [List.take_add_one, List.getElem?_eq_getElem h, List.all_append, ha]
  simp [hp]
end Go.Proofs.X
