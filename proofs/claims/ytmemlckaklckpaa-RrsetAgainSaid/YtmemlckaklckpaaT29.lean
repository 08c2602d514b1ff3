/- A part of the proof of a statement on sets of records: what some functions of the program do, walked step by step. -/
import Derived.Test.YtmemlckaklckpaaProg
import Derived.Test.YtmemlckaklckpaaT28
import Derived.Test.YtmemlckaklckpaaXOrd
import Derived.Test.YtmemlckaklckpaaShelf
import Derived.Shelf.SlSortCmp.NoneTotal
set_option linter.unusedSimpArgs false
set_option linter.unusedVariables false
namespace Go.Proofs.X
open Go.RowKit
set_option maxRecDepth 100000
/-! ### slices.SortFunc at sets -/
/-- a set as it lies: its data's slice -/
structure SetC where
  name : List UInt8
  kind : Int
  ttl : Int
  a : Option Addr
  n : Nat
  c : Nat
  d : List (List UInt8)
  deriving Inhabited
def SetC.v (s : SetC) : Value := .slice s.a s.n s.c
def SetC.cells (s : SetC) : List Value := [str s.name, .int .i64 s.kind, .int .i64 s.ttl, s.v]
def cmpC (x y : SetC) : Int := cmpSet x.name y.name x.kind y.kind
theorem tpo_cmpSet : TPO (fun x y : List UInt8 × Int => cmpSet x.1 y.1 x.2 y.2) :=
  (tpo_cmpN.comap Prod.fst).lex (tpo_int.comap Prod.snd)
theorem tpo_cmpC : TPO cmpC := tpo_cmpSet.comap fun s : SetC => (s.name, s.kind)
theorem t20 {B g cap : Nat} (l : List SetC) (w : World) (h : Own B 4 37 w (.slice (some ⟨g, 0, none⟩) l.length cap) (l.map SetC.cells)) (hl : l.length < 4611686018427387904) :
    Calls Try.prog 20 #[.slice (some ⟨g, 0, none⟩) l.length cap, .func (.func 21) #[] #[]] w fun e w' => e = .returned (.tuple #[]) ∧ ∃ l' : List SetC, l'.Perm l ∧ (∀ i j (hi : i < j) (hj : j < l'.length), 0 ≤ cmpC l'[j] l'[i]) ∧ Own B 4 37 w' (.slice (some ⟨g, 0, none⟩) l'.length cap) (l'.map SetC.cells) ∧ Mv (some g) w w' := by
  have hlen : (l.map SetC.cells).length = l.length := by simp
  have h0 := h
  rw [← hlen] at h0
  have eg : ∀ args w, (callFunc 21 args).run Try.prog w = .ok (.enter 21 args) w := enters_of Try.func21 (by kernel_rfl) rfl
  have hk : ∀ x, (SetC.cells x).length = 4 := fun _ => rfl
  have hfl := flatK_toList SetC.cells 4 hk l
  have hH : Sort.HoldsK SetC.cells 4 w g 0 l.toArray := by
    unfold Sort.HoldsK
    have := h.holdsF
    rw [← hfl] at this
    simpa using this
  have hcmp : Go.Proofs.CmpLays Try.prog 21 #[] SetC.cells 4 cmpC g 0 l.toArray.size w := by
    intro m os dk hdk x y
    refine (t21 x.name y.name x.kind y.kind x.ttl y.ttl x.v y.v _).mono ?_
    rintro e w' ⟨rfl, hx⟩
    exact ⟨rfl, hx.grown⟩
  have hc := Go.Proofs.AnyQ.slices_SortFunc Try.sortSet 4 (fun w => isAgg_yes (u := (Try.prog.underlying 37).getD (.struct #[])) (by rfl) (by rfl)) (fun w => by obtain ⟨i, hq, hz⟩ := info_of (sizeTy_spec (show sizeTy Try.prog 37 4 = true by decide +kernel)); exact (by simp [sizeOf, typeInfo, hq, hz] : (Go.sizeOf 37).run Try.prog w = .ok 4 w)) SetC.cells hk (fun x v hv => by
      simp only [SetC.cells, List.mem_cons, List.not_mem_nil, or_false] at hv
      rcases hv with rfl | rfl | rfl | rfl <;> rfl) cmpC tpo_cmpC.swo 21 #[] g 0 cap l.toArray w eg hcmp hH (h.block g rfl).2 (by simpa using hl)
  change Calls Try.prog 20 _ _ _ at hc
  refine hc.mono ?_
  rintro e w' ⟨rfl, d', n, os, hp, hs, rfl⟩
  obtain ⟨p1, p2, p3⟩ := hp
  have hd : d'.toList.length = l.length := by simpa using p1
  have hfl2 := flatK_toList SetC.cells 4 hk d'.toList
  have hperm : d'.toList.Perm l := by
    have e1 : d'.extract 0 l.toArray.size = d' := by rw [← p1]; simp
    have e2 : l.toArray.extract 0 l.toArray.size = l.toArray := by simp
    rw [e1, e2] at p3
    simpa using p3
  have hput := h0.putRowF (fs := d'.toList.map SetC.cells) (by simpa using hd) (by intro x hx; obtain ⟨y, _, rfl⟩ := List.mem_map.1 hx; rfl) n os
  have hrow : Go.Proofs.sortWorldK SetC.cells 4 w g 0 n d' os = Sort.grow (Sort.putRow id (Sort.ahead w n) g 0 (d'.toList.map SetC.cells).flatten.toArray) os := by
    unfold Go.Proofs.sortWorldK Sort.putRowK
    rw [← hfl2]
  rw [hrow]
  refine ⟨rfl, d'.toList, hperm, ?_, ?_, hput.2⟩
  · intro i j hi hj
    have hjs : j < d'.size := by simpa using hj
    have := hs i j (Nat.zero_le _) hi (by rw [← p1]; exact hjs)
    rw [getElem!_pos d' j hjs, getElem!_pos d' i (by omega)] at this
    simp only [Go.Proofs.ltOf, decide_eq_false_iff_not] at this
    simp only [Array.getElem_toList]
    omega
  · have := hput.1
    rw [hlen] at this
    rw [hd]
    exact this
theorem t20nil (v : Value) (w : World) : Calls Try.prog 20 #[.slice none 0 0, v] w fun e w' => e = .returned (.tuple #[]) ∧ w' = w := by
  have h := Go.Proofs.AnyF.slices_SortFunc_none Try.sortSet none 0 v w
  change Calls Try.prog 20 _ _ _ at h
  exact h

end Go.Proofs.X
