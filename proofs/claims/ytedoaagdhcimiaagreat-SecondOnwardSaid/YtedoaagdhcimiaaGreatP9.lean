/- Laws and walks that the proof of the statement is made of (part 9). -/
import Derived.Test.YtedoaagdhcimiaaGreatProg
import Derived.Lib.Hide
import Derived.Laws.Pointers
import Derived.Test.YtedoaagdhcimiaaGreatShelf
import Derived.Shelf.SlSortCmp.NoneTotal
import Derived.OwnWalk
import Derived.Shelf.RegionOpenPlain
import Derived.Lib.Strings
import Derived.Lib.Slices
import Derived.Lib.Walk
import Derived.Lib.Builder
import Derived.Lib.AppendStr
import Derived.Lib.UnsafeStr
import Derived.Lib.MakeNoZero
import Derived.WalkKit
import Derived.Laws.Externs
import Derived.Laws.IdiomCopy
import Derived.Laws.BitsLemmas
import GoSem.Claims
import Derived.OrdersIn
import Derived.LoopIn
import Derived.Test.YtedoaagdhcimiaaGreatRows
import Derived.ProofKit
import Derived.OpenShut
import Derived.ShutString
import Derived.ChangeOld
import Derived.Below
import Derived.WalkMore
import Derived.ScopeJumps
import Derived.Test.YtedoaagdhcimiaaGreatP1
import Derived.Test.YtedoaagdhcimiaaGreatP2
import Derived.Test.YtedoaagdhcimiaaGreatP3
import Derived.Test.YtedoaagdhcimiaaGreatP4
import Derived.Test.YtedoaagdhcimiaaGreatP5
import Derived.Test.YtedoaagdhcimiaaGreatP6
import Derived.Test.YtedoaagdhcimiaaGreatP7
import Derived.Test.YtedoaagdhcimiaaGreatP8
set_option linter.unusedSimpArgs false
set_option linter.unusedVariables false
namespace Go.Proofs.X
open Go.RowKit
set_option maxRecDepth 100000
theorem run_store_seg {P : Program} {w : World} {t ty : TypeId} {b n : Nat} {cs vs : List Value} {v : Value} (hb : w.heap[b]? = some (.cells cs.toArray t (0, 0))) (hv : v.cells = vs.toArray) (hn : n + vs.length ≤ cs.length) (hs : sizeTy P ty vs.length = true) (h1 : ∀ u ∈ vs, u.oneCell' = true) :
    ∃ w', (storeVar ty ⟨b, n, none⟩ v).run P w = .ok () w' ∧ Put w w' b (.cells (cs.take n ++ vs ++ cs.drop (n + vs.length)).toArray t (0, 0)) := by
  obtain ⟨i, hq, hsz⟩ := info_of (sizeTy_spec hs)
  have hr := run_storeCells_G P b n t (0, 0) vs 0 cs.toArray w hb (.inl (Nat.le_refl _)) (by simpa using hn) h1
  simp only [Nat.add_zero] at hr
  refine ⟨w.setRow b (cs.take n ++ vs ++ cs.drop (n + vs.length)).toArray, ?_, rfl, rfl, rfl, by simp, setRow_heap w b _ _ t _ hb, fun k hk => setRow_other w b k _ hk, rfl⟩
  simp [storeVar, sizeOf, typeInfo, hq, hsz, hv, hr]
section
variable {P : Program} {ops : Array Oper} {Q : Exit → Act → World → Prop} {w : World} {rest : List Oper} {ts : List Value} {df : List Deferred} {d : Option Nat} {ty : TypeId} {ps : String} {af : Array Edge} {g : Option (Nat × Bool)}
theorem wpl_storeS {t ty : TypeId} {x y : Operand} {b n : Nat} {cs vs : List Value} {v : Value} {ty2 : TypeId} (hb : w.heap[b]? = some (.cells cs.toArray t (0, 0))) (hw : Region.wanted (Oper.mk none (.store ty x y) ty2 ps af g) (yielded ops ts.toArray) = true)
    (hx : (Act.mk ts.toArray df).eval x = partPtr (.pointer (some ⟨b, 0, none⟩)) n) (hy : (Act.mk ts.toArray df).eval y = v) (hv : v.cells = vs.toArray) (hn : n + vs.length ≤ cs.length) (hs : sizeTy P ty vs.length = true) (h1 : ∀ u ∈ vs, u.oneCell' = true)
    (h : ∀ w', Put w w' b (.cells (cs.take n ++ vs ++ cs.drop (n + vs.length)).toArray t (0, 0)) → wpList P ops Q rest (Act.mk ts.toArray df) w') : wpList P ops Q (Oper.mk none (.store ty x y) ty2 ps af g :: rest) (Act.mk ts.toArray df) w := by
  obtain ⟨w', hr, hp⟩ := run_store_seg (P := P) hb hv hn hs h1
  refine wpl_skipper hw (w' := w') ?_ (h w' hp)
  have e : partPtr (.pointer (some ⟨b, 0, none⟩)) n = .pointer (some ⟨b, n, none⟩) := by simp [partPtr, add_none]
  simp [execOp, hx, hy, e, Instr.storeAt, Instr.sureAddr, hr]
end
theorem zoneJ {o : List UInt8} {l : List RSet} (h : ZoneOk o l) : l.length ≤ 200 ∧ (∀ s ∈ l, s.data.length ≤ 20) ∧ (∀ s ∈ l, ∀ d ∈ s.data, d.length ≤ 4000) ∧ (recordsS l).length ≤ 4000 := by
  have h1 : l.length ≤ 200 := by
    have := h.chk
    unfold checkS at this
    split at this
    · cases this
    · omega
  have h2 : ∀ s ∈ l, s.data.length ≤ 20 := fun s hs => by
    have hm := h.may hs
    simp only [mayS, Bool.and_eq_true, decide_eq_true_eq] at hm
    exact hm.1.2
  refine ⟨h1, h2, fun s hs d hd => ?_, ?_⟩
  · obtain ⟨i, hi, rfl⟩ := List.mem_iff_getElem.1 hd
    exact (checkR_data (may_at (h.may hs) hi)).1
  · have : ∀ {L : List RSet}, (∀ s ∈ L, s.data.length ≤ 20) → (recordsS L).length ≤ 20 * L.length := by
      intro L
      induction L with
      | nil => intro _; simp [recordsS]
      | cons s L ih =>
        intro hL
        have e : recordsS (s :: L) = recsOf s ++ recordsS L := by simp [recordsS]
        have i1 := ih fun t ht => hL t (by simp [ht])
        have i2 := hL s (by simp)
        rw [e, List.length_append, recsOf, List.length_map, List.length_cons]
        omega
    have := this h2
    omega
def KeptJ (b : Nat) (w w' : World) : Prop := ∀ c o, w.heap[c]? = some o → c ≠ b → (∀ cs fz, o ≠ .cells cs 137 fz) → w'.heap[c]? = some o
theorem meetJ {α β γ : Type} {F : α → β → γ → World → Prop} {G : α → β → γ → World → Prop} {goal : Prop} (h1 : (∀ x y z w', F x y z w' → G x y z w') → goal) (h2 : ∀ x y z w', F x y z w' → G x y z w') : goal := h1 h2
theorem KeptJ.of {b : Nat} {w w' : World} (h : Ext w w') : KeptJ b w w' := fun c o hc _ _ => h.at hc
theorem KeptJ.trans {b : Nat} {w w' w'' : World} (h : KeptJ b w w') (k : KeptJ b w' w'') : KeptJ b w w'' := fun c o hc hn ht => k c o (h c o hc hn ht) hn ht
theorem KeptJ.mv {b B : Nat} {w w' : World} {v : Value} {es : List (List Value)} (ho : OwnOff B 4 137 w v es) (hm : Mv v.ownBlock w w') : KeptJ b w w' := fun c o hc _ ht => by
  refine hm.at hc fun e => ?_
  obtain ⟨_, _, cur, fz, h⟩ := ho.type e.symm
  rw [hc] at h
  exact ht _ _ (Option.some.inj h)
theorem KeptJ.put {b : Nat} {w w' : World} {o : Obj} (hp : Put w w' b o) : KeptJ b w w' := fun c o hc hn _ => hp.mv.at hc (fun e => hn (Option.some.inj e))
theorem DelsV.add {B : Nat} {w w' : World} {v v' g n : Value} {ds : List DeltaR} {D : DeltaR} {css : List (List Value)} (h1 : OwnOff B 4 137 w v css) (h2 : css.length = ds.length)
    (h3 : ∀ (i : Nat) (d : DeltaR), ds[i]? = some d → ∃ g n, css[i]? = some [.int .i64 d.fr, .int .i64 d.to, g, n] ∧ Own B 4 81 w g (rcells d.gone) ∧ Own B 4 81 w n (rcells d.new)) (hm : Mv v.ownBlock w w')
    (o : OwnOff B 4 137 w' v' (css ++ [[.int .i64 D.fr, .int .i64 D.to, g, n]])) (hg : Own B 4 81 w g (rcells D.gone)) (hn : Own B 4 81 w n (rcells D.new)) : DelsV B w' v' (ds ++ [D]) := by
  refine ⟨_, o, by simp [h2], fun i d hi => ?_⟩
  rw [List.getElem?_append] at hi ⊢
  rw [h2]
  split at hi
  · rw [if_pos ‹_›]
    obtain ⟨x, y, a, b, c⟩ := h3 i d hi
    exact ⟨x, y, a, b.mv hm (h1.neOwn b (by decide)), c.mv hm (h1.neOwn c (by decide))⟩
  · rw [if_neg ‹_›]
    have hi0 : i - ds.length = 0 := by
      have := (List.getElem?_eq_some_iff.1 hi).1
      simpa using this
    rw [hi0] at hi ⊢
    cases hi
    exact ⟨g, n, rfl, hg.mv hm (h1.neOwn hg (by decide)), hn.mv hm (h1.neOwn hn (by decide))⟩
theorem DelsV.drop {B : Nat} {w : World} {v : Value} {ds : List DeltaR} (h : DelsV B w v ds) {m : Nat} (hm : m ≤ ds.length) : DelsV B w (cutSl v 4 m ds.length) (ds.drop m) := by
  obtain ⟨css, h1, h2, h3⟩ := h
  rw [← h2] at hm ⊢
  refine ⟨_, h1.drop hm, by simp [h2], fun i d hi => ?_⟩
  rw [List.getElem?_drop] at hi ⊢
  exact h3 _ d hi

/-! ### a region that draws its order, in a round of a range over a function -/
section
variable {P : Program} {n : Nat} {r : Option Nat} {ops : Array Oper} {Q : Exit → Act → World → Prop} {md : Region.Mode}
end
section
variable {P : Program} {w w' : World} {ts : List Value} {df : List Deferred} {d : Option Nat} {ty : TypeId} {ps : String} {af : Array Edge} {g : Option (Nat × Bool)}
theorem Runs.idxW {t : TypeId} {m : Nat} {i : Operand} {k n : Nat} {es : List (List Value)} (hi : (Act.mk ts.toArray df).eval i = .int .i64 (n : Nat)) (h : Sl k w' (ts.getD m undef) es) (hn : n < es.length) (ht : sliceOf P t k = true) :
    Runs P (Oper.mk d (.indexAddr t (.tmp m) i) ty ps af g) (Act.mk ts.toArray df) w (elemPtr (ts.getD m undef) (n * k)) := by
  have hx : (Act.mk ts.toArray df).eval (.tmp m) = ts.getD m undef := evalT m
  obtain ⟨ad, cap, h1, h2, h3, h4, h5, h6⟩ := h
  obtain ⟨b, o, rfl, hc⟩ := h6 (by rintro rfl; simp at hn)
  obtain ⟨e, ie, ht, hie, hz⟩ := sliceOf_spec ht
  rw [h1] at hx ⊢
  constructor
  simp [execOp, hx, hi, Instr.indexAt, asIntOf, run_underlying ht, sizeOf, typeInfo, hie, hz, elemPtr, hn]
end
theorem DelsV.below {B b : Nat} {w w' : World} {v : Value} {ds : List DeltaR} {o : Obj} (h : DelsV B w v ds) (hp : Put w w' b o) (hb : b < B) : DelsV B w' v ds := by
  obtain ⟨css, a, c, e⟩ := h
  refine ⟨css, a.mv hp.mv ?_, c, fun i d hi => let ⟨g, n, x, y, z⟩ := e i d hi; ⟨g, n, x, y.put hp hb, z.put hp hb⟩⟩
  cases hv : v.ownBlock with
  | none => exact .inl rfl
  | some r => have := (a.type hv).1; exact .inr (fun e => by have := Option.some.inj e; omega)
theorem DelsV.weaken {B C : Nat} {w : World} {v : Value} {ds : List DeltaR} (h : DelsV B w v ds) (hc : C ≤ B) : DelsV C w v ds := by
  obtain ⟨css, a, c, e⟩ := h
  exact ⟨css, a.weaken hc, c, fun i d hi => let ⟨g, n, x, y, z⟩ := e i d hi; ⟨g, n, x, y.weaken hc, z.weaken hc⟩⟩
structure DelN (B : Nat) (w : World) (css0 css : List (List Value)) (ds : List DeltaR) (k : Nat) : Prop where
  len : css.length = ds.length
  new : ∀ (i : Nat) (d : DeltaR), ds[i]? = some d → i < k → ∃ g n, css[i]? = some [.int .i64 d.fr, .int .i64 d.to, g, n] ∧ Own B 4 81 w g (rcells d.gone) ∧ Own B 4 81 w n (rcells d.new)
  old : ∀ i, k ≤ i → css[i]? = css0[i]?
theorem DelN.ext {B : Nat} {w w' : World} {css0 css : List (List Value)} {ds : List DeltaR} {k : Nat} (h : DelN B w css0 css ds k) (hx : Ext w w') : DelN B w' css0 css ds k :=
  ⟨h.len, fun i s hi hk => let ⟨x, y, a, b, c⟩ := h.new i s hi hk; ⟨x, y, a, b.ext hx, c.ext hx⟩, h.old⟩
theorem DelN.mv {B : Nat} {w w' : World} {css0 css : List (List Value)} {ds : List DeltaR} {k : Nat} {row : Option Nat} (h : DelN B w css0 css ds k) (hm : Mv row w w') (hne : ∀ x es, Own B 4 81 w x es → x.ownBlock = none ∨ x.ownBlock ≠ row) : DelN B w' css0 css ds k :=
  ⟨h.len, fun i s hi hk => let ⟨x, y, a, b, c⟩ := h.new i s hi hk; ⟨x, y, a, b.mv hm (hne x _ b), c.mv hm (hne y _ c)⟩, h.old⟩
theorem DelN.step {B : Nat} {w : World} {css0 css : List (List Value)} {ds : List DeltaR} {k : Nat} (h : DelN B w css0 css ds k) (hk : k < ds.length) {x y : Value} (hx : Own B 4 81 w x (rcells ds[k].gone)) (hy : Own B 4 81 w y (rcells ds[k].new)) :
    DelN B w css0 (css.set k [.int .i64 ds[k].fr, .int .i64 ds[k].to, x, y]) ds (k + 1) := by
  refine ⟨by rw [List.length_set, h.len], fun i s hi hik => ?_, fun i hi => ?_⟩
  · by_cases e : k = i
    · subst e
      rw [List.getElem?_eq_getElem hk] at hi
      cases hi
      exact ⟨x, y, List.getElem?_set_self (by rw [h.len]; exact hk), hx, hy⟩
    · obtain ⟨x, y, a, b⟩ := h.new i s hi (by omega)
      exact ⟨x, y, by rw [List.getElem?_set_ne e]; exact a, b⟩
  · rw [List.getElem?_set_ne (by omega)]; exact h.old i (by omega)
theorem DelN.done {B B' : Nat} {w : World} {v : Value} {css0 css : List (List Value)} {ds : List DeltaR} (h : DelN B w css0 css ds ds.length) (ho : Own B 4 137 w v css) : DelsV B w v ds :=
  ⟨css, ho.off, h.len, fun i s hi => h.new i s hi (List.getElem?_eq_some_iff.1 hi).1⟩
open Go.ChangeShapes Go.WideShapes Go.ChangeAt Go.RowKit
theorem own : ownKnob Tryz.prog.godebug = none := by kernel_rfl
theorem laidOut : laidOutB Tryz.prog = true := by kernel_rfl
theorem open_recs {H : Type} {enc : TypeId × Value → H} {w : World} {base : Nat} {spare : Nat → Bool} {held : Bool} {fuel : Nat} {v : Value} {x : DataW H × List MemPlace} (h : DataW.trod enc Tryz.prog w base spare held fuel 37 [v] = some x) : ∃ l : List Rec, Sl 4 w v (rcells l) := by
  obtain ⟨es, hs, he⟩ := open_rows Tryz.underlying37 (show Tryz.prog.cellsOf 81 = 4 by kernel_rfl) (by omega) h
  obtain ⟨l, rfl⟩ : ∃ l : List Rec, es = l.map Rec.cells := by
    refine all_map fun c hc => ?_
    obtain ⟨n, y, hy⟩ := he c hc
    obtain ⟨xs, n', _, _, hl, hxl, hf⟩ := DataW.trod_struct Tryz.underlying81 hy
    have c30 : Tryz.prog.cellsOf 27 = 1 := by kernel_rfl
    have c3 : Tryz.prog.cellsOf 3 = 1 := by kernel_rfl
    have c9 : Tryz.prog.cellsOf 9 = 1 := by kernel_rfl
    have c32 : Tryz.prog.cellsOf 81 = 4 := by kernel_rfl
    rw [c32] at hl
    match c, hl, xs, hxl with
    | [a, b, d, e], _, [y0, y1, y2, y3], _ =>
      have g0 := hf 0 _ rfl
      have g1 := hf 1 _ rfl
      have g2 := hf 2 _ rfl
      have g3 := hf 3 _ rfl
      simp [c30, c3, c9] at g0 g1 g2 g3
      obtain ⟨s0, rfl, _⟩ := trod_str Tryz.underlying27 g0
      obtain ⟨n1, rfl, _⟩ := trod_num Tryz.underlying3 g1
      obtain ⟨n2, rfl, _⟩ := trod_num Tryz.underlying3 g2
      obtain ⟨s3, rfl, _⟩ := trod_str Tryz.underlying9 g3
      exact ⟨⟨s0, n1, n2, s3⟩, rfl⟩
  exact ⟨l, hs⟩
theorem goneF_append : ∀ (g h l : List Rec), goneF l (g ++ h) = (goneF l g).bind fun m => goneF m h
  | [], h, l => by simp [goneF]
  | r :: g, h, l => by
    rw [List.cons_append, goneF, goneF]
    split
    · exact goneF_append g h _
    · rfl
theorem newF_append : ∀ (g h l : List Rec), newF l (g ++ h) = (newF l g).bind fun m => newF m h
  | [], h, l => by simp [newF]
  | r :: g, h, l => by
    rw [List.cons_append, newF, newF]
    split
    · rfl
    · exact newF_append g h _
theorem gone_step {l m g : List Rec} {k : Nat} (hk : k < g.length) (h : goneF l (g.take k) = some m) : goneF l (g.take (k + 1)) = if g[k] ∈ m then some (m.erase g[k]) else none := by
  rw [List.take_succ_eq_append_getElem hk, goneF_append, h]
  simp [goneF]
theorem new_step {l m g : List Rec} {k : Nat} (hk : k < g.length) (h : newF l (g.take k) = some m) : newF l (g.take (k + 1)) = if g[k] ∈ m then none else some (m ++ [g[k]]) := by
  rw [List.take_succ_eq_append_getElem hk, newF_append, h]
  simp [newF]
theorem gone_bad {l m g : List Rec} {k : Nat} (hk : k < g.length) (h : goneF l (g.take k) = some m) (hn : g[k] ∉ m) : goneF l g = none := by
  rw [← List.take_append_drop k g, goneF_append, h, List.drop_eq_getElem_cons hk]
  simp [goneF, hn]
theorem new_bad {l m g : List Rec} {k : Nat} (hk : k < g.length) (h : newF l (g.take k) = some m) (hn : g[k] ∈ m) : newF l g = none := by
  rw [← List.take_append_drop k g, newF_append, h, List.drop_eq_getElem_cons hk]
  simp [newF, hn]
theorem gone_len : ∀ {g l m : List Rec}, goneF l g = some m → m.length ≤ l.length ∧ ∀ r ∈ m, r ∈ l
  | [], l, m, h => by rw [goneF] at h; cases h; exact ⟨Nat.le_refl _, fun _ h => h⟩
  | r :: g, l, m, h => by
    rw [goneF] at h
    split at h
    · obtain ⟨h1, h2⟩ := gone_len h
      exact ⟨Nat.le_trans h1 (List.length_erase_le), fun q hq => List.mem_of_mem_erase (h2 q hq)⟩
    · cases h
theorem new_len : ∀ {g l m : List Rec}, newF l g = some m → m.length = l.length + g.length ∧ ∀ r ∈ m, r ∈ l ∨ r ∈ g
  | [], l, m, h => by rw [newF] at h; cases h; exact ⟨by simp, fun _ h => .inl h⟩
  | r :: g, l, m, h => by
    rw [newF] at h
    split at h
    · cases h
    · obtain ⟨h1, h2⟩ := new_len h
      refine ⟨by rw [h1]; simp; omega, fun q hq => ?_⟩
      rcases h2 q hq with h3 | h3
      · rcases List.mem_append.1 h3 with h4 | h4
        · exact .inl h4
        · exact .inr (by rw [List.mem_singleton.1 h4]; simp)
      · exact .inr (List.mem_cons_of_mem _ h3)
theorem idx_mem {m : List Rec} {r : Rec} (h : r ∈ m) : ∃ i, i < m.length ∧ idxI (fun q => decide (r = q)) m = (i : Nat) ∧ m.eraseIdx i = m.erase r := by
  have hlt := List.idxOf_lt_length_of_mem h
  refine ⟨m.idxOf r, hlt, idx_at hlt ?_ ?_, (List.erase_eq_eraseIdx_of_idxOf rfl).symm⟩
  · rw [any_mem, decide_eq_false_iff_not]
    intro hm
    obtain ⟨j, hj, he⟩ := List.getElem_of_mem hm
    rw [List.length_take] at hj
    rw [List.getElem_take] at he
    have := List.not_of_lt_findIdx (p := (· == r)) (xs := m) (i := j) (by unfold List.idxOf at hj; omega)
    simp [he] at this
  · have := List.getElem_idxOf hlt
    rw [this]; simp
theorem idx_none {m : List Rec} {r : Rec} (h : r ∉ m) : idxI (fun q => decide (r = q)) m = -1 := idx_no (by rw [any_mem, decide_eq_false h])
theorem recs_len {s : RSet} : (recsOf s).length = s.data.length := by simp [recsOf]
theorem putS_recs (r : Rec) : ∀ gs : List RSet, (recordsS (putS r gs)).length ≤ (recordsS gs).length + 1
  | [] => by simp [putS, recordsS, recsOf, recSet]
  | g :: gs => by
    have ih := putS_recs r gs
    unfold recordsS at ih ⊢
    rw [putS]
    split
    · simp only [List.map_cons, List.flatten_cons, List.length_append] at ih ⊢; omega
    · split
      · simp only [List.map_cons, List.flatten_cons, List.length_append]
        have : (recsOf (recSet r)).length = 1 := rfl
        omega
      · simp only [List.map_cons, List.flatten_cons, List.length_append]
        have h1 : (recsOf ⟨fold r.name, r.kind, min r.ttl g.ttl, textS r.data g.data⟩).length ≤ (recsOf g).length + 1 := by
          rw [recs_len, recs_len]
          exact textS_len _ _
        omega
theorem putAll_recs (l : List Rec) : ∀ k, k ≤ l.length → (recordsS (putAll (l.take k))).length ≤ k
  | 0, _ => by simp [putAll, recordsS]
  | k + 1, h => by
    rw [putAll_succ h]
    have := putS_recs l[k] (putAll (l.take k))
    have ih := putAll_recs l k (by omega)
    omega
theorem loadL_bounds {o : List UInt8} {m : List Rec} {n : Nat} (hm : ∀ r ∈ m, r.data.length ≤ n) : (∀ s ∈ loadL o m, s.data.length ≤ m.length) ∧ (∀ s ∈ loadL o m, ∀ d ∈ s.data, d.length ≤ n) ∧ (recordsS (loadL o m)).length ≤ m.length := by
  unfold loadL
  split
  · refine ⟨putAll_len m, fun s hs d hd => ?_, ?_⟩
    · obtain ⟨r, hr, rfl⟩ := putAll_data hs hd
      exact hm r hr
    · have := putAll_recs m m.length (Nat.le_refl _)
      rwa [List.take_length] at this
  · simp [recordsS]
theorem recs_data {l : List RSet} {n : Nat} (h : ∀ s ∈ l, ∀ d ∈ s.data, d.length ≤ n) : ∀ r ∈ recordsS l, r.data.length ≤ n := by
  intro r hr
  unfold recordsS at hr
  obtain ⟨x, hx, hr⟩ := List.mem_flatten.1 hr
  obtain ⟨s, hs, rfl⟩ := List.mem_map.1 hx
  unfold recsOf at hr
  obtain ⟨d, hd, rfl⟩ := List.mem_map.1 hr
  exact h s hs d hd
def AppU (B : Nat) (o : List UInt8) (l : List RSet) (d : DeltaR) (q : Value) (w : World) : Prop := ∃ y, q = .tuple #[.agg #[str (appO o l d), y], .int .i64 (appE o l d)] ∧ SetsO B w y (appL o l d)
theorem AppU.bad {B : Nat} {o : List UInt8} {l : List RSet} {d : DeltaR} {e : Int} {w : World} (h : appE o l d = e) (he : e ≠ 0) : AppU B o l d (.tuple #[.agg zzone.toArray, .int .i64 e]) w := by
  refine ⟨.slice none 0 0, ?_, ?_⟩
  · rw [appO, if_neg (by rw [h]; exact he), h]; rfl
  · rw [appL, if_neg (by rw [h]; exact he)]; exact SetsO.nil _ _
theorem appE_none {o : List UInt8} {l : List RSet} {d : DeltaR} (q0 : zoneR o l = 0) (q1 : (soaZ o l).serial = d.fr) (h : editR (recordsS l) d = none) : appE o l d = 5 := by rw [appE, if_pos q0, if_pos q1, h]
theorem appE_some {o : List UInt8} {l : List RSet} {d : DeltaR} {x : List Rec} (q0 : zoneR o l = 0) (q1 : (soaZ o l).serial = d.fr) (h : editR (recordsS l) d = some x) : appE o l d = endE o x d.to := by rw [appE, if_pos q0, if_pos q1, h]
theorem edit_none1 {l : List Rec} {d : DeltaR} (h : goneF l d.gone = none) : editR l d = none := by rw [editR, h]; rfl
theorem edit_of {l m : List Rec} {d : DeltaR} (h : goneF l d.gone = some m) : editR l d = newF m d.new := by rw [editR, h]; rfl
def isSoaR (r : Rec) : Bool := decide (r.kind = 6)
def soaT (d : List UInt8) : SoaR := match parseSoa d with | some s => s | none => zR
def serOf (r : Rec) : Int := (soaT r.data).serial
def nextSoa : List Rec → Nat
  | [] => 0
  | r :: t => if isSoaR r then 0 else nextSoa t + 1
theorem nextSoa_le : ∀ l : List Rec, nextSoa l ≤ l.length
  | [] => Nat.le_refl _
  | r :: t => by
    rw [nextSoa]
    split
    · omega
    · have := nextSoa_le t
      rw [List.length_cons]; omega
def partN (l : List Rec) : Nat := 1 + nextSoa (l.drop 1)
theorem partN_le {l : List Rec} (h : l ≠ []) : 1 ≤ partN l ∧ partN l ≤ l.length := by
  have := nextSoa_le (l.drop 1)
  cases l with
  | nil => exact absurd rfl h
  | cons r t =>
    unfold partN
    simp only [List.drop_succ_cons, List.drop_zero, List.length_cons] at *
    omega
def zeroRec : Rec := ⟨[], 0, 0, []⟩
def headOf (l : List Rec) : Rec := l.headD zeroRec
def dltOf (gone come : List Rec) : DeltaR := ⟨serOf (headOf gone), serOf (headOf come), gone, come⟩
structure ZE where
  e : Int
  o : List UInt8
  l : List RSet
def ZE.bad (e : Int) : ZE := ⟨e, [], []⟩
def chg : Nat → List UInt8 → List RSet → List Rec → ZE
  | 0, o, l, _ => ⟨0, o, l⟩
  | f + 1, o, l, rs =>
    if rs = [] then ⟨0, o, l⟩ else
    let gone := rs.take (partN rs)
    let rest := rs.drop (partN rs)
    if rest = [] then ZE.bad 2 else
    let come := rest.take (partN rest)
    if appE o l (dltOf gone come) = 0 then chg f (appO o l (dltOf gone come)) (appL o l (dltOf gone come)) (rest.drop (partN rest))
    else ZE.bad (if appE o l (dltOf gone come) = 5 then 2 else appE o l (dltOf gone come))
def chgZ (o : List UInt8) (l : List RSet) (rs : List Rec) : ZE := chg rs.length o l rs
theorem chg_succ (f : Nat) (o : List UInt8) (l : List RSet) {rs : List Rec} (h : rs ≠ []) : chg (f + 1) o l rs =
    if rs.drop (partN rs) = [] then ZE.bad 2 else
    if appE o l (dltOf (rs.take (partN rs)) ((rs.drop (partN rs)).take (partN (rs.drop (partN rs))))) = 0 then
      chg f (appO o l (dltOf (rs.take (partN rs)) ((rs.drop (partN rs)).take (partN (rs.drop (partN rs)))))) (appL o l (dltOf (rs.take (partN rs)) ((rs.drop (partN rs)).take (partN (rs.drop (partN rs)))))) ((rs.drop (partN rs)).drop (partN (rs.drop (partN rs))))
    else ZE.bad (if appE o l (dltOf (rs.take (partN rs)) ((rs.drop (partN rs)).take (partN (rs.drop (partN rs))))) = 5 then 2 else appE o l (dltOf (rs.take (partN rs)) ((rs.drop (partN rs)).take (partN (rs.drop (partN rs)))))) := by
  rw [chg, if_neg h]
theorem chg_nil : ∀ (f : Nat) (o : List UInt8) (l : List RSet), chg f o l [] = ⟨0, o, l⟩
  | 0, o, l => rfl
  | f + 1, o, l => by rw [chg, if_pos rfl]
theorem chg_more : ∀ (n f g : Nat) (o : List UInt8) (l : List RSet) (rs : List Rec), rs.length ≤ n → rs.length ≤ f → rs.length ≤ g → chg f o l rs = chg g o l rs
  | n, f, g, o, l, [], _, _, _ => by rw [chg_nil, chg_nil]
  | 0, f, g, o, l, r :: t, h, _, _ => by simp at h
  | n + 1, 0, g, o, l, r :: t, _, h, _ => by simp at h
  | n + 1, f + 1, 0, o, l, r :: t, _, _, h => by simp at h
  | n + 1, f + 1, g + 1, o, l, r :: t, hn, hf, hg => by
    have h1 := partN_le (l := r :: t) (by simp)
    rw [chg_succ f o l (by simp), chg_succ g o l (by simp)]
    by_cases hr : (r :: t).drop (partN (r :: t)) = []
    · rw [if_pos hr, if_pos hr]
    · rw [if_neg hr, if_neg hr]
      have h2 := partN_le hr
      have h3 : (((r :: t).drop (partN (r :: t))).drop (partN ((r :: t).drop (partN (r :: t))))).length ≤ t.length := by
        have e1 : ((r :: t).drop (partN (r :: t))).length = (r :: t).length - partN (r :: t) := List.length_drop ..
        rw [List.length_drop, e1]
        simp only [List.length_cons] at h1 ⊢
        omega
      simp only [List.length_cons] at hn hf hg
      rw [chg_more n f g _ _ _ (by omega) (by omega) (by omega)]
theorem chgZ_nil (o : List UInt8) (l : List RSet) : chgZ o l [] = ⟨0, o, l⟩ := rfl
theorem chgZ_cons (o : List UInt8) (l : List RSet) {rs : List Rec} (h : rs ≠ []) : chgZ o l rs =
    if rs.drop (partN rs) = [] then ZE.bad 2 else
    if appE o l (dltOf (rs.take (partN rs)) ((rs.drop (partN rs)).take (partN (rs.drop (partN rs))))) = 0 then
      chgZ (appO o l (dltOf (rs.take (partN rs)) ((rs.drop (partN rs)).take (partN (rs.drop (partN rs)))))) (appL o l (dltOf (rs.take (partN rs)) ((rs.drop (partN rs)).take (partN (rs.drop (partN rs)))))) ((rs.drop (partN rs)).drop (partN (rs.drop (partN rs))))
    else ZE.bad (if appE o l (dltOf (rs.take (partN rs)) ((rs.drop (partN rs)).take (partN (rs.drop (partN rs))))) = 5 then 2 else appE o l (dltOf (rs.take (partN rs)) ((rs.drop (partN rs)).take (partN (rs.drop (partN rs)))))) := by
  cases rs with
  | nil => exact absurd rfl h
  | cons r t =>
    have h1 := partN_le (l := r :: t) (by simp)
    conv => lhs; unfold chgZ
    rw [List.length_cons, chg_succ _ _ _ h]
    by_cases hr : (r :: t).drop (partN (r :: t)) = []
    · rw [if_pos hr, if_pos hr]
    · rw [if_neg hr, if_neg hr]
      have h2 := partN_le hr
      have h3 : (((r :: t).drop (partN (r :: t))).drop (partN ((r :: t).drop (partN (r :: t))))).length ≤ t.length := by
        have e1 : ((r :: t).drop (partN (r :: t))).length = (r :: t).length - partN (r :: t) := List.length_drop ..
        rw [List.length_drop, e1]
        simp only [List.length_cons] at h1 ⊢
        omega
      unfold chgZ
      rw [chg_more _ _ _ _ _ _ (Nat.le_refl _) h3 (Nat.le_refl _)]
def toldZ (oo : List UInt8) (lo : List RSet) (og : List UInt8) (l : List Rec) : ZE :=
  if isSoaR (l.getD 1 zeroRec) = false then ⟨loadE og l.dropLast, loadO og l.dropLast, loadL og l.dropLast⟩ else
  if lo = [] then ZE.bad 5 else chgZ oo lo (l.dropLast.drop 1)
def instZ (oo : List UInt8) (lo : List RSet) (og : List UInt8) (l : List Rec) : ZE :=
  if checkE og ≠ 0 ∨ l.any (fun r => !decide (checkR r = 0)) = true then ZE.bad 1 else
  if l = [] then ZE.bad 2 else
  if isSoaR (headOf l) = false ∨ fold (headOf l).name ≠ fold og then ZE.bad 2 else
  if l.length = 1 then ZE.bad 5 else
  if l.length = 2 ∨ l.getD (l.length - 1) zeroRec ≠ headOf l then ZE.bad 3 else
  let q := toldZ oo lo og l
  if q.e ≠ 0 then ZE.bad q.e else
  if (soaZ q.o q.l).serial ≠ serOf (headOf l) then ZE.bad 2 else
  if lo ≠ [] ∧ laterB (soaZ q.o q.l).serial (soaZ oo lo).serial = false then ZE.bad 7 else q
theorem load_zone {o : List UInt8} {l : List Rec} (h : loadE o l = 0) : ZoneOk (loadO o l) (loadL o l) := by
  have h0 := h
  unfold loadE at h
  split at h
  · rw [loadO, if_pos h0, loadL, if_pos h0]; exact zone_ok h
  · rename_i q; exact absurd h q
theorem loadO_fold {o : List UInt8} {l : List Rec} (h : loadE o l = 0) : loadO o l = fold o := by rw [loadO, if_pos h]
theorem app_zone {o : List UInt8} {l : List RSet} {d : DeltaR} (h : appE o l d = 0) : ZoneOk (appO o l d) (appL o l d) ∧ appO o l d = o := by
  have h0 := h
  unfold appE at h
  split at h
  · rename_i q0
    split at h
    · cases hx : editR (recordsS l) d with
      | none => rw [hx] at h; cases h
      | some m =>
        rw [hx] at h
        simp only at h
        unfold endE at h
        split at h
        · rename_i q1
          have hz := load_zone q1
          rw [appO, if_pos h0, appL, if_pos h0, hx]
          simp only [Option.getD_some]
          refine ⟨hz, ?_⟩
          rw [loadO_fold q1]
          exact (zone_ok q0).fold
        · rename_i q1; exact absurd h q1
    · cases h
  · rename_i q; exact absurd h q
theorem chg_zone : ∀ (n : Nat) (rs : List Rec), rs.length ≤ n → ∀ (o : List UInt8) (l : List RSet), (chgZ o l rs).e = 0 → rs ≠ [] → ZoneOk (chgZ o l rs).o (chgZ o l rs).l ∧ (chgZ o l rs).o = o
  | 0, rs, hn, o, l, h, hne => by
    have : rs = [] := List.eq_nil_of_length_eq_zero (by omega)
    exact absurd this hne
  | n + 1, rs, hn, o, l, h, hne => by
    have h1 := partN_le hne
    rw [chgZ_cons o l hne] at h ⊢
    split at h
    · cases h
    · rename_i hr
      have h2 := partN_le hr
      rw [if_neg hr]
      split at h
      · rename_i ha
        rw [if_pos ha]
        obtain ⟨z1, z2⟩ := app_zone ha
        by_cases hq : (rs.drop (partN rs)).drop (partN (rs.drop (partN rs))) = []
        · rw [hq, chgZ_nil]
          exact ⟨z1, z2⟩
        · obtain ⟨a, b⟩ := chg_zone n _ (by simp only [List.length_drop] at *; omega) _ _ h hq
          exact ⟨a, b.trans z2⟩
      · rename_i ha
        split at h
        · cases h
        · exact absurd h ha
theorem inst_ok {oo : List UInt8} {lo : List RSet} {og : List UInt8} {l : List Rec} (h : (instZ oo lo og l).e = 0) :
    ZoneOk (instZ oo lo og l).o (instZ oo lo og l).l ∧ ((lo = [] ∨ oo = fold og) → (instZ oo lo og l).o = fold og) ∧ (lo ≠ [] → laterB (soaZ (instZ oo lo og l).o (instZ oo lo og l).l).serial (soaZ oo lo).serial = true) := by
  unfold instZ at h ⊢
  split at h
  · cases h
  · rename_i c1
    rw [if_neg c1]
    split at h
    · cases h
    · rename_i c2
      rw [if_neg c2]
      split at h
      · cases h
      · rename_i c3
        rw [if_neg c3]
        split at h
        · cases h
        · rename_i c4
          rw [if_neg c4]
          split at h
          · cases h
          · rename_i c5
            rw [if_neg c5]
            simp only at h ⊢
            split at h
            · rename_i c6; exact absurd h c6
            · rename_i c6
              rw [if_neg c6]
              split at h
              · cases h
              · rename_i c7
                rw [if_neg c7]
                split at h
                · cases h
                · rename_i c8
                  rw [if_neg c8]
                  have hz : ZoneOk (toldZ oo lo og l).o (toldZ oo lo og l).l ∧ ((lo = [] ∨ oo = fold og) → (toldZ oo lo og l).o = fold og) := by
                    have h6 : (toldZ oo lo og l).e = 0 := by simpa using c6
                    unfold toldZ at h6 ⊢
                    split at h6
                    · rename_i d1
                      rw [if_pos d1]
                      exact ⟨load_zone h6, fun _ => loadO_fold h6⟩
                    · rename_i d1
                      rw [if_neg d1]
                      split at h6
                      · cases h6
                      · rename_i d2
                        rw [if_neg d2]
                        have hl : 2 < l.length := by
                          have n0 : l.length ≠ 0 := fun e => c2 (List.eq_nil_of_length_eq_zero e)
                          have n2 : l.length ≠ 2 := fun e => c5 (.inl e)
                          omega
                        obtain ⟨a, b⟩ := chg_zone _ _ (Nat.le_refl _) oo lo h6 (by
                          intro e
                          have := congrArg List.length e
                          simp at this
                          omega)
                        exact ⟨a, fun hh => by rcases hh with hh | hh; exact absurd hh d2; exact b.trans hh⟩
                  refine ⟨hz.1, hz.2, fun hne => ?_⟩
                  cases hb : laterB (soaZ (toldZ oo lo og l).o (toldZ oo lo og l).l).serial (soaZ oo lo).serial with
                  | true => rfl
                  | false => exact absurd ⟨hne, hb⟩ c8
structure SecR where
  og : List UInt8
  retry : Int
  z : Option (List UInt8 × List RSet)
  next : Int
  til : Int
  take : Bool
def SecR.soa (s : SecR) : SoaR := match s.z with | none => ⟨[], [], 0, s.retry, s.retry, 0, 0⟩ | some z => soaZ z.1 z.2
def SecR.o (s : SecR) : List UInt8 := match s.z with | none => [] | some z => z.1
def SecR.l (s : SecR) : List RSet := match s.z with | none => [] | some z => z.2
def okTime (n : Int) : Bool := decide (0 ≤ n) && decide (n ≤ 1099511627776)
def SecR.news (s : SecR) (n : Int) : Bool := s.z.isNone || laterB n s.soa.serial
def SecR.wants (s : SecR) (now : Int) : Int := if okTime now = false then 0 else if s.take = true then 2 else if s.next ≤ now then 1 else 0
def SecR.notify (s : SecR) (n now : Int) : SecR := if (okTime now && okSer n && s.news n) = true then { s with next := min s.next now } else s
def SecR.failed (s : SecR) (now : Int) : SecR := if okTime now = true then { s with take := false, next := now + s.soa.retry } else s
def SecR.fresh (s : SecR) (now : Int) : SecR := { s with take := false, next := now + s.soa.refresh, til := now + s.soa.expire }
def SecR.heard (s : SecR) (n now : Int) : SecR :=
  if okTime now = false then s else if okSer n = false then s.failed now else if s.news n = true then { s with take := true, next := now + s.soa.retry } else s.fresh now
def SecR.inst (s : SecR) (l : List Rec) : ZE := instZ s.o s.l s.og l
def SecR.gotE (s : SecR) (l : List Rec) (now : Int) : Int := if okTime now = false then 1 else (s.inst l).e
def SecR.withZ (s : SecR) (q : ZE) : SecR := { s with z := some (q.o, q.l) }
def SecR.got (s : SecR) (l : List Rec) (now : Int) : SecR :=
  if okTime now = false then s else
  if (s.inst l).e = 5 ∧ s.z.isSome = true then s.fresh now else
  if (s.inst l).e ≠ 0 then s.failed now else (s.withZ (s.inst l)).fresh now
def SecR.crash (s : SecR) : SecR := { s with take := false, next := 0 }
def SecR.up (s : SecR) (now : Int) : Bool := okTime now && (s.z.isSome && decide (now < s.til))
def secE (og : List UInt8) (retry : Int) : Int := if checkE og ≠ 0 ∨ retry < 1 ∨ 2147483647 < retry then 1 else 0
def secNew (og : List UInt8) (retry : Int) : SecR := ⟨og, retry, none, 0, 0, false⟩
structure SecOk (s : SecR) : Prop where
  og : checkE s.og = 0
  retry : 1 ≤ s.retry ∧ s.retry ≤ 2147483647
  zone : ∀ o l, s.z = some (o, l) → ZoneOk o l ∧ o = fold s.og
theorem soaZ_ok {o : List UInt8} {l : List RSet} (h : ZoneOk o l) : (soaZ o l).ok = true := by
  obtain ⟨s, _, _, _, _, _, hp, _⟩ := h.soaSet
  rw [soaZ, if_pos (zone_ok' h)]
  exact parse_ok hp
theorem soaZ_fits {o : List UInt8} {l : List RSet} (h : ZoneOk o l) : 0 ≤ (soaZ o l).serial ∧ (soaZ o l).serial ≤ 4294967295 ∧ 0 ≤ (soaZ o l).refresh ∧ (soaZ o l).refresh ≤ 2147483647 ∧ 0 ≤ (soaZ o l).retry ∧ (soaZ o l).retry ≤ 2147483647 ∧ 0 ≤ (soaZ o l).expire ∧ (soaZ o l).expire ≤ 2147483647 := by
  have := soaZ_ok h
  simp only [SoaR.ok, ttlOk, Bool.and_eq_true, decide_eq_true_eq] at this
  omega
theorem ZoneOk.ne {o : List UInt8} {l : List RSet} (h : ZoneOk o l) : l ≠ [] := by
  rintro rfl
  have := h.soa
  simp [findS] at this
theorem SecOk.soa {s : SecR} (h : SecOk s) : 0 ≤ s.soa.refresh ∧ s.soa.refresh ≤ 2147483647 ∧ 0 ≤ s.soa.retry ∧ s.soa.retry ≤ 2147483647 ∧ 0 ≤ s.soa.expire ∧ s.soa.expire ≤ 2147483647 := by
  have hr := h.retry
  unfold SecR.soa
  split
  · simp only; omega
  · rename_i z hz
    have := soaZ_fits (h.zone z.1 z.2 hz).1
    omega
theorem okTime_iff {n : Int} : okTime n = true ↔ 0 ≤ n ∧ n ≤ 1099511627776 := by simp [okTime]
theorem SecOk.old {s : SecR} (h : SecOk s) : (s.l = [] ↔ s.z = none) ∧ (s.l = [] ∨ s.o = fold s.og) := by
  unfold SecR.l SecR.o
  split
  · rename_i hz; simp [hz]
  · rename_i z hz
    have := h.zone z.1 z.2 hz
    refine ⟨⟨fun e => absurd e this.1.ne, fun e => by rw [hz] at e; cases e⟩, .inr this.2⟩
theorem SecOk.of {s t : SecR} (h : SecOk s) (h1 : t.og = s.og) (h2 : t.retry = s.retry) (h3 : t.z = s.z) : SecOk t := ⟨by rw [h1]; exact h.og, by rw [h2]; exact h.retry, by rw [h1, h3]; exact h.zone⟩
theorem SecOk.new {og : List UInt8} {retry : Int} (h : secE og retry = 0) : SecOk (secNew og retry) := by
  unfold secE at h
  split at h
  · cases h
  · rename_i c
    refine ⟨?_, ?_, ?_⟩
    · unfold secNew; simp only
      exact Decidable.byContradiction fun e => c (.inl e)
    · unfold secNew; simp only
      omega
    · intro o l e; cases e
theorem SecOk.notify {s : SecR} (h : SecOk s) (n now : Int) : SecOk (s.notify n now) := by
  unfold SecR.notify; split <;> first | exact h | exact h.of rfl rfl rfl
theorem SecOk.failed {s : SecR} (h : SecOk s) (now : Int) : SecOk (s.failed now) := by
  unfold SecR.failed; split <;> first | exact h | exact h.of rfl rfl rfl
theorem SecOk.fresh {s : SecR} (h : SecOk s) (now : Int) : SecOk (s.fresh now) := h.of rfl rfl rfl
theorem SecOk.crash {s : SecR} (h : SecOk s) : SecOk s.crash := h.of rfl rfl rfl
theorem SecOk.heard {s : SecR} (h : SecOk s) (n now : Int) : SecOk (s.heard n now) := by
  unfold SecR.heard
  split
  · exact h
  · split
    · exact h.failed now
    · split
      · exact h.of rfl rfl rfl
      · exact h.fresh now
theorem SecOk.inst {s : SecR} (h : SecOk s) {l : List Rec} (he : (s.inst l).e = 0) : ZoneOk (s.inst l).o (s.inst l).l ∧ (s.inst l).o = fold s.og ∧ (∀ o l', s.z = some (o, l') → laterB (soaZ (s.inst l).o (s.inst l).l).serial (soaZ o l').serial = true) := by
  obtain ⟨a, b, c⟩ := inst_ok (oo := s.o) (lo := s.l) (og := s.og) he
  obtain ⟨h1, h2⟩ := h.old
  refine ⟨a, b h2, fun o l' hz => ?_⟩
  have := c (fun e => by rw [h1.1 e] at hz; cases hz)
  unfold SecR.o SecR.l at this
  rw [hz] at this
  unfold SecR.inst SecR.o SecR.l
  rw [hz]
  exact this
theorem SecOk.got {s : SecR} (h : SecOk s) (l : List Rec) (now : Int) : SecOk (s.got l now) := by
  unfold SecR.got
  split
  · exact h
  · split
    · exact h.fresh now
    · split
      · exact h.failed now
      · rename_i c
        obtain ⟨a, b, _⟩ := h.inst (l := l) (by simpa using c)
        refine SecOk.fresh (s := s.withZ (s.inst l)) ⟨h.og, h.retry, ?_⟩ now
        intro o l' e
        simp only [SecR.withZ, Option.some.injEq, Prod.mk.injEq] at e
        obtain ⟨rfl, rfl⟩ := e
        exact ⟨a, b⟩
def Yes (w : World) (e : Ending) (w' : World) : Prop := e = .returned (.bool true) ∧ Ext w w'
theorem rcells_one {l : List Rec} : ∀ f ∈ rcells l, ∀ u ∈ f, u.oneCell' = true := by
  intro f hf u hu
  obtain ⟨r, _, rfl⟩ := List.mem_map.1 hf
  simp only [Rec.cells, List.mem_cons, List.not_mem_nil, or_false] at hu
  rcases hu with rfl | rfl | rfl | rfl <;> rfl
set_option maxHeartbeats 4000000 in
theorem p_Delete {B : Nat} {v : Value} {l : List Rec} {w : World} {i : Nat} (h : Own B 4 81 w v (rcells l)) (hi : i < l.length) (hl : l.length ≤ 1000000) : Calls Tryz.prog 257 #[v, .int .i64 i, .int .i64 (i + 1 : Nat)] w fun e w' => ∃ v', e = .returned v' ∧ Own B 4 81 w' v' (rcells (l.eraseIdx i)) ∧ Mv v.ownBlock w w' ∧ v'.ownBlock = v.ownBlock := by
  have hlen := rcells_length l
  have h1c := rcells_one (l := l)
  rcases h.form with ⟨rfl, hn⟩ | ⟨g, cap, rfl, hg, hb, hc, _⟩
  · exfalso
    rw [hn] at hlen
    simp at hlen; omega
  · have hs := h.sl
    rw [hlen] at hc
    have hs' := hs
    rw [hlen] at hs'
    go_enter Tryz.func257, Tryz.ntmps257
    repeat' (first | ((with_reducible refine nx0 ?_); go_step) | ((with_reducible refine o_s ?_); first | refine wk0 ?_ | (refine wg0 ?_ ?_ <;> intro hc)) | fail)
    refine wpl_run0 (Runs.cut3 (k := 4) (m := i) (n := i + 1) (p := l.length) (l := (rcells l).length) (c := cap) (ad := some ⟨g, 0, none⟩) rfl rfl rfl (by rw [← hlen]; rfl) (by omega) (by omega) hc (by decide +kernel)) ?_
    refine gset ?_
    repeat' (first | ((with_reducible refine nx0 ?_); go_step) | ((with_reducible refine o_s ?_); first | refine wk0 ?_ | (refine wg0 ?_ ?_ <;> intro hc)) | fail)
    refine wpi_region 6 (fun w' => Sl 4 w' (Value.slice (some ⟨g, 0, none⟩) (rcells l).length cap) (rcells l)) (by decide +kernel) ?_
    intro w1 x1 _
    refine ⟨hs.ext x1, ?_⟩
    refine it0 0 ?_; refine it0 1 ?_; refine it0 2 ?_; refine it0 3 ?_; refine it0 4 ?_; refine it0 5 ?_
    have e22 : cutSl (Value.slice (some ⟨g, 0, none⟩) (rcells l).length cap) 4 0 i = .slice (some ⟨g, 0, none⟩) i cap := by simp [cutSl, add_none]
    obtain ⟨ad, e25⟩ : ∃ ad, cutSl (Value.slice (some ⟨g, 0, none⟩) (rcells l).length cap) 4 (i + 1) (rcells l).length = .slice (some ad) ((rcells l).length - (i + 1)) (cap - (i + 1)) := by
      by_cases hq : cap = i + 1
      · exact ⟨⟨g, 0, none⟩, by simp [cutSl, hq]⟩
      · exact ⟨_, by simp only [cutSl, if_neg hq]; rfl⟩
    have hcut := (hs.ext x1).cut (m := i + 1) (n := (rcells l).length) (by omega) (Nat.le_refl _)
    rw [e25, List.take_length] at hcut
    refine wpi_op (i := 6) (by decide +kernel) rfl rfl ?_
    refine wpl_appOver (i := i) (j := i + 1) (h.ext x1) e22 e25 hcut (by omega) (by omega) h1c ?_
    intro w2 o2 m2
    refine gset ?_
    refine wph_nil ⟨till_no rfl, ?_⟩
    refine ip0 7 ?_
    refine wpi_done (by decide +kernel) ?_
    obtain ⟨m, hm⟩ : ∃ m, i + ((rcells l).length - (i + 1)) = m := ⟨_, rfl⟩
    rw [hm] at o2 ⊢
    have ee : (rcells l).take i ++ (rcells l).drop (i + 1) = rcells (l.eraseIdx i) := by
      rw [List.eraseIdx_eq_take_drop_succ]; simp [rcells, List.map_take, List.map_drop]
    rw [ee] at o2
    have hml : (rcells (l.eraseIdx i)).length = m := by rw [rcells_length, List.length_eraseIdx_of_lt hi]; omega
    have h2l : (rcells (l.eraseIdx i) ++ (rcells l).drop m).length = (rcells l).length := by rw [List.length_append, hml, List.length_drop]; omega
    have hsh := o2
    rw [← h2l] at hsh
    have hsh := hsh.short (m := m) (by omega)
    rw [List.take_left' hml] at hsh
    have hs2 := hsh.sl
    repeat' (first | ((with_reducible refine nx0 ?_); go_step) | ((with_reducible refine o_s ?_); first | refine wk0 ?_ | (refine wg0 ?_ ?_ <;> intro hc)) | fail)
    refine wpl_run0 (Runs.cutC (k := 4) (m := m) (n := l.length) (l := m) (c := cap) (ad := some ⟨g, 0, none⟩) rfl (by rw [← hml]; rfl) (by rw [← hlen]; rfl) (by omega) hc (by decide +kernel)) ?_
    refine gset ?_
    have e31 : (if cap = m then some (⟨g, 0, none⟩ : Addr) else Option.map (fun x : Addr => x.add (m * 4)) (some (⟨g, 0, none⟩ : Addr))) = some (⟨g, m * 4, none⟩ : Addr) := by
      rw [if_neg (by omega)]; simp [add_none]
    rw [e31]
    rw [← h2l] at o2
    have h2l' : (rcells (l.eraseIdx i) ++ (rcells l).drop m).length = l.length := by omega
    refine wpl_clearO (m := m) (z := zrec) o2 (by rw [h2l']; rfl) (by omega) ?_
    intro w3 o3 m3
    rw [List.take_left' hml] at o3
    repeat' (first | ((with_reducible refine nx0 ?_); go_step) | ((with_reducible refine o_s ?_); first | refine wk0 ?_ | (refine wg0 ?_ ?_ <;> intro hc)) | fail)
    go_ret
    exact ⟨_, rfl, o3, (x1.mv (some g)).trans (m2.trans m3), rfl⟩
set_option maxHeartbeats 500000 in
theorem r8_Same (o o' : List UInt8) (u v : Value) (a b : List RSet) (w : World) (hu : SetsAt w u a) (hv : SetsAt w v b) : Calls Tryz.prog 38 #[.agg #[str o, u], .agg #[str o', v]] w (RetV w (.bool (decide (o = o') && decide (a = b)))) := by
  go_enter Tryz.func38, Tryz.ntmps38
  repeat' (first | ((with_reducible refine nx0 ?_); go_step) | fail)
  refine wpl_box (vs := [str o, u]) rfl rfl ?_
  intro p w1 x1 hp
  refine gset ?_
  repeat' (first | ((with_reducible refine nx0 ?_); go_step) | fail)
  refine wpl_box (vs := [str o', v]) rfl rfl ?_
  intro q w2 x2 hq
  refine gset ?_
  have hx2 := x1.trans x2
  have hp2 := hp.ext x2
  repeat' (first | ((with_reducible refine nx0 ?_); go_step) | ((with_reducible refine o_s ?_); first | refine wk0 ?_ | (refine wg0 ?_ ?_ <;> intro hc)) | fail)
  · refine wpl_callV (enters_of Tryz.func82 rfl rfl) rfl rfl (t11 u v a b _ (hu.ext hx2) (hv.ext hx2)) ?_; intro w3 x3; refine gset ?_
    repeat' (first | ((with_reducible refine nx0 ?_); go_step) | ((with_reducible refine o_s ?_); first | refine wk0 ?_ | (refine wg0 ?_ ?_ <;> intro hc)) | fail)
    go_ret
    exact ⟨by rw [decide_eq_true hc]; rfl, hx2.trans x3⟩
  · go_ret
    exact ⟨by rw [decide_eq_false hc]; rfl, hx2⟩
theorem DelA.ext {d : DeltaR} {r : Value} {w w' : World} (h : DelA d r w) (hx : Ext w w') : DelA d r w' := by
  obtain ⟨g, n, e, a, b⟩ := h
  exact ⟨g, n, e, a.ext hx, b.ext hx⟩
def secC (s : SecR) (pz : Value) : List Value := str s.og :: (s.soa.cells ++ [pz, .int .i64 s.next, .int .i64 s.til, .bool s.take])
def kecC (s : SecR) (v : Value) : List Value := [str s.og, .int .i64 s.retry, .bool s.z.isSome, str s.o, v, .int .i64 s.next, .int .i64 s.til, .bool s.take]
theorem SetsO.mvb {B b : Nat} {w w' : World} {v : Value} {l : List RSet} (h : SetsO B w v l) (hm : Mv (some b) w w') (hb : b < B) : SetsO B w' v l := by
  obtain ⟨css, h1, h2, h3, h4⟩ := h
  have hs : ∀ (k : Nat) (u : Value) (es : List (List Value)), Sl k w u es → From B u → Sl k w' u es := by
    intro k u es hsl hf
    obtain ⟨a, cap, k1, k2, k3, k4, k5, k6⟩ := hsl
    refine ⟨a, cap, k1, k2, k3, k4, k5, fun hn => ?_⟩
    obtain ⟨g, o, e, hc⟩ := k6 hn
    have hg : B ≤ g := hf g o none _ _ (by rw [k1, e])
    refine ⟨g, o, e, fun i e j x i1 i2 => ?_⟩
    have hcell := hc i e j x i1 i2
    have hlt := World.block_lt_of_cell? w _ hcell
    exact (World.cell?_of_block (hm.block g hlt (fun e => by have := Option.some.inj e; omega))).trans hcell
  refine ⟨css, hs _ _ _ h1 h2, h2, ⟨h3.len, fun i s hi => ?_⟩, h4⟩
  obtain ⟨x, e, hx⟩ := h3.at' i s hi
  exact ⟨x, e, hs _ _ _ hx (h4 _ (List.mem_of_getElem? e) x (by simp))⟩
structure SAt (B : Nat) (w : World) (b : Nat) (s : SecR) : Prop where
  lt : b < B
  out : ∃ pz, w.heap[b]? = some (.cells (secC s pz).toArray 103 (0, 0)) ∧ (s.z = none → pz = .pointer none) ∧
    (∀ o l, s.z = some (o, l) → ∃ c v, pz = .pointer (some ⟨c, 0, none⟩) ∧ B ≤ c ∧ w.heap[c]? = some (.cells [str o, v].toArray 34 (0, 0)) ∧ SetsO B w v l)
structure KSt (B : Nat) (w : World) (b : Nat) (s : SecR) : Prop where
  lt : b < B
  out : ∃ v, w.heap[b]? = some (.cells (kecC s v).toArray 55 (0, 0)) ∧ SetsO B w v s.l
theorem SAt.grow {B : Nat} {w w' : World} {b : Nat} {s : SecR} (h : SAt B w b s) (hx : Ext w w') : SAt B w' b s := by
  obtain ⟨h1, pz, h2, h3, h4⟩ := h
  exact ⟨h1, pz, hx.at h2, h3, fun o l e => let ⟨c, v, a1, a2, a3, a4⟩ := h4 o l e; ⟨c, v, a1, a2, hx.at a3, a4.ext hx⟩⟩
theorem KSt.grow {B : Nat} {w w' : World} {b : Nat} {s : SecR} (h : KSt B w b s) (hx : Ext w w') : KSt B w' b s := by
  obtain ⟨h1, v, h2, h3⟩ := h
  exact ⟨h1, v, hx.at h2, h3.ext hx⟩
theorem SAt.other {B c : Nat} {w w' : World} {b : Nat} {s : SecR} (h : SAt B w b s) (hm : Mv (some c) w w') (hc : c < B) (hne : b ≠ c) : SAt B w' b s := by
  obtain ⟨h1, pz, h2, h3, h4⟩ := h
  refine ⟨h1, pz, hm.at h2 (fun e => hne (Option.some.inj e)), h3, fun o l e => ?_⟩
  obtain ⟨d, v, a1, a2, a3, a4⟩ := h4 o l e
  exact ⟨d, v, a1, a2, hm.at a3 (fun e => by have := Option.some.inj e; omega), a4.mvb hm hc⟩
theorem KSt.other {B c : Nat} {w w' : World} {b : Nat} {s : SecR} (h : KSt B w b s) (hm : Mv (some c) w w') (hc : c < B) (hne : b ≠ c) : KSt B w' b s := by
  obtain ⟨h1, v, h2, h3⟩ := h
  exact ⟨h1, v, hm.at h2 (fun e => hne (Option.some.inj e)), h3.mvb hm hc⟩
theorem SAt.put {B : Nat} {w w' : World} {b : Nat} {s t : SecR} {pz : Value} (h : SAt B w b s) (hb : w.heap[b]? = some (.cells (secC s pz).toArray 103 (0, 0))) (hp : Put w w' b (.cells (secC t pz).toArray 103 (0, 0))) (hz : t.z = s.z) : SAt B w' b t := by
  obtain ⟨h1, pz', h2, h3, h4⟩ := h
  have e : pz' = pz := by
    rw [hb] at h2
    have h5 : (secC s pz).toArray = (secC s pz').toArray := by simpa using h2
    have h6 : secC s pz = secC s pz' := by simpa using h5
    simpa [secC] using h6.symm
  subst e
  refine ⟨h1, pz', hp.this, fun e => h3 (by rw [← hz]; exact e), fun o l e => ?_⟩
  obtain ⟨d, v, a1, a2, a3, a4⟩ := h4 o l (by rw [← hz]; exact e)
  exact ⟨d, v, a1, a2, hp.at a3 (by omega), a4.mvb hp.mv h1⟩
theorem KSt.put {B : Nat} {w w' : World} {b : Nat} {s t : SecR} {v : Value} (h : SetsO B w v s.l) (h1 : b < B) (hp : Put w w' b (.cells (kecC t v).toArray 55 (0, 0))) (hz : t.l = s.l) : KSt B w' b t :=
  ⟨h1, v, hp.this, by rw [hz]; exact h.mvb hp.mv h1⟩
theorem p_isTime (n : Int) (w : World) : Calls Tryz.prog 64 #[.int .i64 n] w (RetV w (.bool (okTime n))) := by
  go_enter Tryz.func64, Tryz.ntmps64
  (repeat' first | ((with_reducible refine nx0 ?_); go_step) | ((with_reducible refine o_s ?_); first | refine wk1 ?_ | (refine wg0 ?_ ?_ <;> intro hc)) | fail)
  all_goals
    go_ret
    refine ⟨?_, Ext.refl _⟩
    simp [okTime]
    omega
theorem SAt.pts {B : Nat} {w : World} {b : Nat} {s : SecR} (h : SAt B w b s) : ∃ pz, w.heap[b]? = some (.cells (secC s pz).toArray 103 (0, 0)) ∧ Pts w (.pointer (some ⟨b, 0, none⟩)) (secC s pz) ∧ Pts w (partPtr (.pointer (some ⟨b, 0, none⟩)) 1) s.soa.cells ∧ Pts w (partPtr (.pointer (some ⟨b, 0, none⟩)) 8) [pz, .int .i64 s.next, .int .i64 s.til, .bool s.take] ∧
    Pts w (partPtr (.pointer (some ⟨b, 0, none⟩)) 9) [.int .i64 s.next, .int .i64 s.til, .bool s.take] ∧ Pts w (partPtr (.pointer (some ⟨b, 0, none⟩)) 10) [.int .i64 s.til, .bool s.take] ∧ Pts w (partPtr (.pointer (some ⟨b, 0, none⟩)) 11) [.bool s.take] ∧ (s.z = none → pz = .pointer none) ∧ (∀ o l, s.z = some (o, l) → ∃ c v, pz = .pointer (some ⟨c, 0, none⟩) ∧ B ≤ c ∧ w.heap[c]? = some (.cells [str o, v].toArray 34 (0, 0)) ∧ SetsO B w v l) := by
  obtain ⟨_, pz, h2, h3, h4⟩ := h
  have hp := pts_block (cs := secC s pz) h2
  refine ⟨pz, h2, hp, ?_, hp.part 8, hp.part 9, hp.part 10, hp.part 11, h3, h4⟩
  exact (hp.part 1).front 7
theorem p_Wants {B : Nat} {w : World} {b : Nat} {s : SecR} (h : SAt B w b s) (now : Int) : Calls Tryz.prog 17 #[.pointer (some ⟨b, 0, none⟩), .int .i64 now] w (RetV w (.int .i64 (s.wants now))) := by
  obtain ⟨pz, hb, hp, hps, h8, h9, h10, h11, _, _⟩ := h.pts
  go_enter Tryz.func17, Tryz.ntmps17
  (repeat' first | ((with_reducible refine nx0 ?_); go_step) | ((with_reducible refine o_s ?_); first | refine wk1 ?_ | (refine wg0 ?_ ?_ <;> intro hc)) | fail)
  refine wpl_callV (enters_of Tryz.func64 rfl rfl) rfl rfl (p_isTime now _) ?_; intro w1 x1; refine gset ?_
  have g9 := h9.ext x1
  have g11 := h11.ext x1
  cases ht : okTime now with
  | false =>
    (repeat' first | ((with_reducible refine nx0 ?_); go_step) | ((with_reducible refine o_s ?_); first | refine wk1 ?_ | (refine wg0 ?_ ?_ <;> intro hc)) | fail)
    go_ret
    exact ⟨by simp [SecR.wants, ht], x1⟩
  | true =>
    (repeat' first | ((with_reducible refine nx0 ?_); go_step) | ((with_reducible refine o_s ?_); first | refine wk1 ?_ | (refine wg0 ?_ ?_ <;> intro hc)) | fail)
    all_goals
      go_ret
      refine ⟨?_, x1⟩
      simp_all [SecR.wants]
theorem p_news {B : Nat} {w : World} {b : Nat} {s : SecR} (h : SAt B w b s) (n : Int) : Calls Tryz.prog 66 #[.pointer (some ⟨b, 0, none⟩), .int .i64 n] w (RetV w (.bool (s.news n))) := by
  obtain ⟨pz, hb, hp, hps, h8, h9, h10, h11, hn, hz⟩ := h.pts
  have hse : Pts w (partPtr (partPtr (.pointer (some ⟨b, 0, none⟩)) 1) 2) [.int .i64 s.soa.serial, .int .i64 s.soa.refresh, .int .i64 s.soa.retry, .int .i64 s.soa.expire, .int .i64 s.soa.minimum] := hps.part 2
  go_enter Tryz.func66, Tryz.ntmps66
  cases hq : s.z with
  | none =>
    have := hn hq
    subst this
    (repeat' first | ((with_reducible refine nx0 ?_); go_step) | ((with_reducible refine o_s ?_); first | refine wk1 ?_ | (refine wg0 ?_ ?_ <;> intro hc)) | fail)
    go_ret
    exact ⟨by simp [SecR.news, hq], Ext.refl _⟩
  | some q =>
    obtain ⟨c, v, rfl, _⟩ := hz q.1 q.2 hq
    (repeat' first | ((with_reducible refine nx0 ?_); go_step) | ((with_reducible refine o_s ?_); first | refine wk1 ?_ | (refine wg0 ?_ ?_ <;> intro hc)) | fail)
    refine wpl_callV (enters_of Tryz.func25 rfl rfl) rfl rfl (p_Later _ _ _) ?_; intro w1 x1; refine gset ?_
    (repeat' first | ((with_reducible refine nx0 ?_); go_step) | ((with_reducible refine o_s ?_); first | refine wk1 ?_ | (refine wg0 ?_ ?_ <;> intro hc)) | fail)
    go_ret
    exact ⟨by simp [SecR.news, hq], x1⟩
theorem secC_take (s : SecR) (pz : Value) (t : Bool) : (secC s pz).set 11 (.bool t) = secC { s with take := t } pz := rfl
theorem secC_next (s : SecR) (pz : Value) (n : Int) : (secC s pz).set 9 (.int .i64 n) = secC { s with next := n } pz := rfl
theorem secC_til (s : SecR) (pz : Value) (n : Int) : (secC s pz).set 10 (.int .i64 n) = secC { s with til := n } pz := rfl
def SecStep (B b : Nat) (t : SecR) (w : World) (e : Ending) (w' : World) : Prop := e = .returned (.tuple #[]) ∧ SAt B w' b t ∧ Mv (some b) w w'
set_option maxHeartbeats 4000000 in
theorem p_fresh {B : Nat} {w : World} {b : Nat} {s : SecR} (h : SAt B w b s) (hs : SecOk s) (now : Int) (hn : okTime now = true) : Calls Tryz.prog 67 #[.pointer (some ⟨b, 0, none⟩), .int .i64 now] w (SecStep B b (s.fresh now) w) := by
  obtain ⟨pz, hb, hp, hps, h8, h9, h10, h11, _, _⟩ := h.pts
  have hn' := okTime_iff.1 hn
  obtain ⟨b1, b2, b3, b4, b5, b6⟩ := hs.soa
  have f3 : Pts w (partPtr (partPtr (.pointer (some ⟨b, 0, none⟩)) 1) 3) [.int .i64 s.soa.refresh, .int .i64 s.soa.retry, .int .i64 s.soa.expire, .int .i64 s.soa.minimum] := hps.part 3
  have f5 : Pts w (partPtr (partPtr (.pointer (some ⟨b, 0, none⟩)) 1) 5) [.int .i64 s.soa.expire, .int .i64 s.soa.minimum] := hps.part 5
  go_enter Tryz.func67, Tryz.ntmps67
  repeat' (first | ((with_reducible refine nx0 ?_); go_step) | fail)
  refine wpi_region 19 (Ext w) (by decide +kernel) ?_
  intro w1 x1 _
  refine ⟨x1, ?_⟩
  refine ip1 0 ?_; refine ip1 1 ?_; refine ip1 2 ?_; refine ip1 3 ?_; refine ip1 4 ?_; refine ip1 5 ?_; refine ip1 6 ?_
  refine it1 7 ?_; refine it1 8 ?_
  refine ip1 9 ?_; refine ip1 10 ?_; refine ip1 11 ?_; refine ip1 12 ?_; refine ip1 13 ?_
  refine it1 14 ?_; refine it1 15 ?_
  refine ip1 16 ?_; refine ip1 17 ?_; refine ip1 18 ?_
  have hb1 := x1.at hb
  refine wpi_op (i := 19) (by decide +kernel) rfl rfl ?_
  refine wpl_storeF (n := 11) (v := .bool false) hb1 rfl rfl rfl (by simp [secC, SoaR.cells]) (by decide +kernel) rfl ?_
  intro w2 p2
  rw [secC_take] at p2
  refine wph_nil ⟨till_no rfl, ?_⟩
  refine ip1 20 ?_; refine ip1 21 ?_
  refine wpi_op (i := 22) (by decide +kernel) rfl rfl ?_
  refine wpl_storeF (n := 9) (v := .int .i64 (now + s.soa.refresh)) p2.this rfl rfl rfl (by simp [secC, SoaR.cells]) (by decide +kernel) rfl ?_
  intro w3 p3
  rw [secC_next] at p3
  refine wph_nil ⟨till_no rfl, ?_⟩
  refine ip1 23 ?_; refine ip1 24 ?_
  refine wpi_op (i := 25) (by decide +kernel) rfl rfl ?_
  refine wpl_storeF (n := 10) (v := .int .i64 (now + s.soa.expire)) p3.this rfl rfl rfl (by simp [secC, SoaR.cells]) (by decide +kernel) rfl ?_
  intro w4 p4
  rw [secC_til] at p4
  refine wph_nil ⟨till_no rfl, ?_⟩
  refine wpi_done (by decide +kernel) ?_
  (repeat' first | ((with_reducible refine nx0 ?_); go_step) | ((with_reducible refine o_s ?_); first | refine wk1 ?_ | (refine wg0 ?_ ?_ <;> intro hc)) | fail)
  go_end0
  have a2 := (h.grow x1).put hb1 p2 rfl
  have a3 := a2.put p2.this p3 rfl
  have a4 := a3.put p3.this p4 rfl
  exact ⟨rfl, a4, (((x1.mv _).trans p2.mv).trans p3.mv).trans p4.mv⟩
set_option maxHeartbeats 4000000 in
theorem p_Failed {B : Nat} {w : World} {b : Nat} {s : SecR} (h : SAt B w b s) (hs : SecOk s) (now : Int) : Calls Tryz.prog 19 #[.pointer (some ⟨b, 0, none⟩), .int .i64 now] w (SecStep B b (s.failed now) w) := by
  obtain ⟨pz, hb, hp, hps, h8, h9, h10, h11, _, _⟩ := h.pts
  obtain ⟨b1, b2, b3, b4, b5, b6⟩ := hs.soa
  have f4 : Pts w (partPtr (partPtr (.pointer (some ⟨b, 0, none⟩)) 1) 4) [.int .i64 s.soa.retry, .int .i64 s.soa.expire, .int .i64 s.soa.minimum] := hps.part 4
  go_enter Tryz.func19, Tryz.ntmps19
  (repeat' first | ((with_reducible refine nx0 ?_); go_step) | ((with_reducible refine o_s ?_); first | refine wk1 ?_ | (refine wg0 ?_ ?_ <;> intro hc)) | fail)
  refine wpl_callV (enters_of Tryz.func64 rfl rfl) rfl rfl (p_isTime now _) ?_; intro w1 x1; refine gset ?_
  have g4 := f4.ext x1
  have hb1 := x1.at hb
  cases ht : okTime now with
  | false =>
    (repeat' first | ((with_reducible refine nx0 ?_); go_step) | ((with_reducible refine o_s ?_); first | refine wk1 ?_ | (refine wg0 ?_ ?_ <;> intro hc)) | fail)
    go_end0
    exact ⟨rfl, by rw [SecR.failed, if_neg (by simp [ht])]; exact h.grow x1, x1.mv _⟩
  | true =>
    have hn' := okTime_iff.1 ht
    (repeat' first | ((with_reducible refine nx0 ?_); go_step) | ((with_reducible refine o_s ?_); first | refine wk1 ?_ | (refine wg0 ?_ ?_ <;> intro hc)) | fail)
    refine wpl_storeF (n := 11) (v := .bool false) hb1 rfl rfl rfl (by simp [secC, SoaR.cells]) (by decide +kernel) rfl ?_
    intro w2 p2
    rw [secC_take] at p2
    (repeat' first | ((with_reducible refine nx0 ?_); go_step) | ((with_reducible refine o_s ?_); first | refine wk1 ?_ | (refine wg0 ?_ ?_ <;> intro hc)) | fail)
    refine wpl_storeF (n := 9) (v := .int .i64 (now + s.soa.retry)) p2.this rfl rfl rfl (by simp [secC, SoaR.cells]) (by decide +kernel) rfl ?_
    intro w3 p3
    rw [secC_next] at p3
    (repeat' first | ((with_reducible refine nx0 ?_); go_step) | ((with_reducible refine o_s ?_); first | refine wk1 ?_ | (refine wg0 ?_ ?_ <;> intro hc)) | fail)
    go_end0
    have a2 := (h.grow x1).put hb1 p2 rfl
    have a3 := a2.put p2.this p3 rfl
    exact ⟨rfl, by rw [SecR.failed, if_pos ht]; exact a3, ((x1.mv _).trans p2.mv).trans p3.mv⟩
theorem p_Crash {B : Nat} {w : World} {b : Nat} {s : SecR} (h : SAt B w b s) : Calls Tryz.prog 79 #[.pointer (some ⟨b, 0, none⟩)] w (SecStep B b s.crash w) := by
  obtain ⟨pz, hb, hp, hps, h8, h9, h10, h11, _, _⟩ := h.pts
  go_enter Tryz.func79, Tryz.ntmps79
  (repeat' first | ((with_reducible refine nx0 ?_); go_step) | ((with_reducible refine o_s ?_); first | refine wk1 ?_ | (refine wg0 ?_ ?_ <;> intro hc)) | fail)
  refine wpl_storeF (n := 11) (v := .bool false) hb rfl rfl rfl (by simp [secC, SoaR.cells]) (by decide +kernel) rfl ?_
  intro w2 p2
  rw [secC_take] at p2
  (repeat' first | ((with_reducible refine nx0 ?_); go_step) | ((with_reducible refine o_s ?_); first | refine wk1 ?_ | (refine wg0 ?_ ?_ <;> intro hc)) | fail)
  refine wpl_storeF (n := 9) (v := .int .i64 0) p2.this rfl rfl rfl (by simp [secC, SoaR.cells]) (by decide +kernel) rfl ?_
  intro w3 p3
  rw [secC_next] at p3
  (repeat' first | ((with_reducible refine nx0 ?_); go_step) | ((with_reducible refine o_s ?_); first | refine wk1 ?_ | (refine wg0 ?_ ?_ <;> intro hc)) | fail)
  go_end0
  have a2 := h.put hb p2 rfl
  have a3 := a2.put p2.this p3 rfl
  exact ⟨rfl, a3, p2.mv.trans p3.mv⟩
theorem p_Add0 (n : Int) (w : World) : Calls Tryz.prog 125 #[.int .i64 n, .int .i64 0] w (RetV w (.tuple #[.int .i64 (if okSer n = true then n else 0), .int .i64 (if okSer n = true then 0 else 1)])) := by
  go_enter Tryz.func125, Tryz.ntmps125
  (repeat' first | ((with_reducible refine nx0 ?_); go_step) | ((with_reducible refine o_s ?_); first | refine wk1 ?_ | (refine wg0 ?_ ?_ <;> intro hc)) | fail)
  refine wpl_slice (e := 3) (k := 1) (bytes := 8) (xs := [.int .i64 n]) rfl rfl rfl (by simp [Value.cells]) (by decide +kernel) (by simp) ?_
  intro v1 w1 x1 _ sl1 _
  refine gset ?_
  (repeat' first | ((with_reducible refine nx0 ?_); go_step) | ((with_reducible refine o_s ?_); first | refine wk1 ?_ | (refine wg0 ?_ ?_ <;> intro hc)) | fail)
  refine wpl_callV (enters_of Tryz.func135 rfl rfl) rfl rfl (p_may v1 [n] _ sl1) ?_; intro w2 x2; refine gset ?_
  have hx2 := x1.trans x2
  have hall : [n].all okSer = okSer n := by simp
  rw [hall]
  cases hok : okSer n with
  | false =>
    (repeat' first | ((with_reducible refine nx0 ?_); go_step) | ((with_reducible refine o_s ?_); first | refine wk1 ?_ | (refine wg0 ?_ ?_ <;> intro hc)) | fail)
    go_ret2
    exact ⟨by rw [if_neg (by simp [hok]), if_neg (by simp [hok])]; rfl, hx2⟩
  | true =>
    have hn : 0 ≤ n ∧ n ≤ 4294967295 := by simpa [okSer] using hok
    (repeat' first | ((with_reducible refine nx0 ?_); go_step) | ((with_reducible refine o_s ?_); first | refine wk1 ?_ | (refine wg0 ?_ ?_ <;> intro hc)) | fail)
    all_goals first
      | (exfalso; omega)
      | skip
    refine wpl_run0 (Runs.and32 rfl rfl) ?_
    refine gset ?_
    rw [show (n + 0) % 4294967296 = n by omega]
    (repeat' first | ((with_reducible refine nx0 ?_); go_step) | ((with_reducible refine o_s ?_); first | refine wk1 ?_ | (refine wg0 ?_ ?_ <;> intro hc)) | fail)
    go_ret2
    exact ⟨by rw [if_pos hok, if_pos hok]; rfl, hx2⟩
theorem p_isSerial (n : Int) (w : World) : Calls Tryz.prog 65 #[.int .i64 n] w (RetV w (.bool (okSer n))) := by
  go_enter Tryz.func65, Tryz.ntmps65
  (repeat' first | ((with_reducible refine nx0 ?_); go_step) | ((with_reducible refine o_s ?_); first | refine wk1 ?_ | (refine wg0 ?_ ?_ <;> intro hc)) | fail)
  refine wpl_callV (enters_of Tryz.func125 rfl rfl) rfl rfl (p_Add0 n _) ?_; intro w1 x1; refine gset ?_
  (repeat' first | ((with_reducible refine nx0 ?_); go_step) | ((with_reducible refine o_s ?_); first | refine wk1 ?_ | (refine wg0 ?_ ?_ <;> intro hc)) | fail)
  go_ret
  refine ⟨?_, x1⟩
  cases okSer n <;> rfl
set_option maxHeartbeats 4000000 in
theorem p_Notify {B : Nat} {w : World} {b : Nat} {s : SecR} (h : SAt B w b s) (hs : SecOk s) (n now : Int) : Calls Tryz.prog 20 #[.pointer (some ⟨b, 0, none⟩), .int .i64 n, .int .i64 now] w (SecStep B b (s.notify n now) w) := by
  obtain ⟨pz, hb, hp, hps, h8, h9, h10, h11, _, _⟩ := h.pts
  go_enter Tryz.func20, Tryz.ntmps20
  (repeat' first | ((with_reducible refine nx0 ?_); go_step) | ((with_reducible refine o_s ?_); first | refine wk1 ?_ | (refine wg0 ?_ ?_ <;> intro hc)) | fail)
  refine wpl_callV (enters_of Tryz.func64 rfl rfl) rfl rfl (p_isTime now _) ?_; intro w1 x1; refine gset ?_
  cases ht : okTime now with
  | false =>
    (repeat' first | ((with_reducible refine nx0 ?_); go_step) | ((with_reducible refine o_s ?_); first | refine wk1 ?_ | (refine wg0 ?_ ?_ <;> intro hc)) | fail)
    go_end0
    exact ⟨rfl, by rw [SecR.notify, if_neg (by simp [ht])]; exact h.grow x1, x1.mv _⟩
  | true =>
    (repeat' first | ((with_reducible refine nx0 ?_); go_step) | ((with_reducible refine o_s ?_); first | refine wk1 ?_ | (refine wg0 ?_ ?_ <;> intro hc)) | fail)
    refine wpl_callV (enters_of Tryz.func65 rfl rfl) rfl rfl (p_isSerial n _) ?_; intro w2 x2; refine gset ?_
    have hx2 := x1.trans x2
    cases hk : okSer n with
    | false =>
      (repeat' first | ((with_reducible refine nx0 ?_); go_step) | ((with_reducible refine o_s ?_); first | refine wk1 ?_ | (refine wg0 ?_ ?_ <;> intro hc)) | fail)
      go_end0
      exact ⟨rfl, by rw [SecR.notify, if_neg (by simp [hk])]; exact h.grow hx2, hx2.mv _⟩
    | true =>
      (repeat' first | ((with_reducible refine nx0 ?_); go_step) | ((with_reducible refine o_s ?_); first | refine wk1 ?_ | (refine wg0 ?_ ?_ <;> intro hc)) | fail)
      refine wpl_callV (enters_of Tryz.func66 rfl rfl) rfl rfl (p_news (h.grow hx2) n) ?_; intro w3 x3; refine gset ?_
      have hx3 := hx2.trans x3
      cases hnw : s.news n with
      | false =>
        (repeat' first | ((with_reducible refine nx0 ?_); go_step) | ((with_reducible refine o_s ?_); first | refine wk1 ?_ | (refine wg0 ?_ ?_ <;> intro hc)) | fail)
        go_end0
        exact ⟨rfl, by rw [SecR.notify, if_neg (by simp [hnw])]; exact h.grow hx3, hx3.mv _⟩
      | true =>
        have hb3 := hx3.at hb
        have g9 := h9.ext hx3
        (repeat' first | ((with_reducible refine nx0 ?_); go_step) | ((with_reducible refine o_s ?_); first | refine wk1 ?_ | (refine wg0 ?_ ?_ <;> intro hc)) | fail)
        refine wpl_storeF (n := 9) (v := .int .i64 (min s.next now)) hb3 rfl rfl rfl (by simp [secC, SoaR.cells]) (by decide +kernel) rfl ?_
        intro w4 p4
        rw [secC_next] at p4
        (repeat' first | ((with_reducible refine nx0 ?_); go_step) | ((with_reducible refine o_s ?_); first | refine wk1 ?_ | (refine wg0 ?_ ?_ <;> intro hc)) | fail)
        go_end0
        have a4 := (h.grow hx3).put hb3 p4 rfl
        exact ⟨rfl, by rw [SecR.notify, if_pos (by simp [ht, hk, hnw])]; exact a4, (hx3.mv _).trans p4.mv⟩
set_option maxHeartbeats 4000000 in
theorem p_Heard {B : Nat} {w : World} {b : Nat} {s : SecR} (h : SAt B w b s) (hs : SecOk s) (n now : Int) : Calls Tryz.prog 18 #[.pointer (some ⟨b, 0, none⟩), .int .i64 n, .int .i64 now] w (SecStep B b (s.heard n now) w) := by
  obtain ⟨pz, hb, hp, hps, h8, h9, h10, h11, _, _⟩ := h.pts
  obtain ⟨b1, b2, b3, b4, b5, b6⟩ := hs.soa
  have f4 : Pts w (partPtr (partPtr (.pointer (some ⟨b, 0, none⟩)) 1) 4) [.int .i64 s.soa.retry, .int .i64 s.soa.expire, .int .i64 s.soa.minimum] := hps.part 4
  go_enter Tryz.func18, Tryz.ntmps18
  (repeat' first | ((with_reducible refine nx0 ?_); go_step) | ((with_reducible refine o_s ?_); first | refine wk1 ?_ | (refine wg0 ?_ ?_ <;> intro hc)) | fail)
  refine wpl_callV (enters_of Tryz.func64 rfl rfl) rfl rfl (p_isTime now _) ?_; intro w1 x1; refine gset ?_
  cases ht : okTime now with
  | false =>
    (repeat' first | ((with_reducible refine nx0 ?_); go_step) | ((with_reducible refine o_s ?_); first | refine wk1 ?_ | (refine wg0 ?_ ?_ <;> intro hc)) | fail)
    go_end0
    exact ⟨rfl, by rw [SecR.heard, if_pos ht]; exact h.grow x1, x1.mv _⟩
  | true =>
    have hn' := okTime_iff.1 ht
    have q1 : ¬ okTime now = false := by simp [ht]
    (repeat' first | ((with_reducible refine nx0 ?_); go_step) | ((with_reducible refine o_s ?_); first | refine wk1 ?_ | (refine wg0 ?_ ?_ <;> intro hc)) | fail)
    refine wpl_callV (enters_of Tryz.func65 rfl rfl) rfl rfl (p_isSerial n _) ?_; intro w2 x2; refine gset ?_
    have hx2 := x1.trans x2
    cases hk : okSer n with
    | false =>
      (repeat' first | ((with_reducible refine nx0 ?_); go_step) | ((with_reducible refine o_s ?_); first | refine wk1 ?_ | (refine wg0 ?_ ?_ <;> intro hc)) | fail)
      refine wpl_callG (enters_of Tryz.func19 rfl rfl) rfl rfl (p_Failed (h.grow hx2) hs now) ?_; rintro _ w3 ⟨rfl, o3, m3⟩; refine ⟨_, rfl, ?_⟩; refine gset ?_
      (repeat' first | ((with_reducible refine nx0 ?_); go_step) | ((with_reducible refine o_s ?_); first | refine wk1 ?_ | (refine wg0 ?_ ?_ <;> intro hc)) | fail)
      go_end0
      exact ⟨rfl, by rw [SecR.heard, if_neg q1, if_pos hk]; exact o3, (hx2.mv _).trans m3⟩
    | true =>
      have q2 : ¬ okSer n = false := by simp [hk]
      (repeat' first | ((with_reducible refine nx0 ?_); go_step) | ((with_reducible refine o_s ?_); first | refine wk1 ?_ | (refine wg0 ?_ ?_ <;> intro hc)) | fail)
      refine wpl_callV (enters_of Tryz.func66 rfl rfl) rfl rfl (p_news (h.grow hx2) n) ?_; intro w3 x3; refine gset ?_
      have hx3 := hx2.trans x3
      cases hnw : s.news n with
      | false =>
        (repeat' first | ((with_reducible refine nx0 ?_); go_step) | ((with_reducible refine o_s ?_); first | refine wk1 ?_ | (refine wg0 ?_ ?_ <;> intro hc)) | fail)
        refine wpl_callG (enters_of Tryz.func67 rfl rfl) rfl rfl (p_fresh (h.grow hx3) hs now ht) ?_; rintro _ w4 ⟨rfl, o4, m4⟩; refine ⟨_, rfl, ?_⟩; refine gset ?_
        (repeat' first | ((with_reducible refine nx0 ?_); go_step) | ((with_reducible refine o_s ?_); first | refine wk1 ?_ | (refine wg0 ?_ ?_ <;> intro hc)) | fail)
        go_end0
        exact ⟨rfl, by rw [SecR.heard, if_neg q1, if_neg q2, if_neg (by simp [hnw])]; exact o4, (hx3.mv _).trans m4⟩
      | true =>
        have hb3 := hx3.at hb
        have g4 := f4.ext hx3
        (repeat' first | ((with_reducible refine nx0 ?_); go_step) | ((with_reducible refine o_s ?_); first | refine wk1 ?_ | (refine wg0 ?_ ?_ <;> intro hc)) | fail)
        refine wpl_storeF (n := 11) (v := .bool true) hb3 rfl rfl rfl (by simp [secC, SoaR.cells]) (by decide +kernel) rfl ?_
        intro w4 p4
        rw [secC_take] at p4
        (repeat' first | ((with_reducible refine nx0 ?_); go_step) | ((with_reducible refine o_s ?_); first | refine wk1 ?_ | (refine wg0 ?_ ?_ <;> intro hc)) | fail)
        refine wpl_storeF (n := 9) (v := .int .i64 (now + s.soa.retry)) p4.this rfl rfl rfl (by simp [secC, SoaR.cells]) (by decide +kernel) rfl ?_
        intro w5 p5
        rw [secC_next] at p5
        (repeat' first | ((with_reducible refine nx0 ?_); go_step) | ((with_reducible refine o_s ?_); first | refine wk1 ?_ | (refine wg0 ?_ ?_ <;> intro hc)) | fail)
        go_end0
        have a4 := ((h.grow hx3).put hb3 p4 rfl).put p4.this p5 rfl
        exact ⟨rfl, by rw [SecR.heard, if_neg q1, if_neg q2, if_pos hnw]; exact a4, ((hx3.mv _).trans p4.mv).trans p5.mv⟩
theorem set_take_drop {α : Type} (l : List α) (i : Nat) (x : α) (h : i < l.length) : l.take i ++ [x] ++ l.drop (i + 1) = l.set i x := by
  rw [List.set_eq_take_append_cons_drop, if_pos h, List.append_assoc]
  rfl
section
variable {P : Program} {ops : Array Oper} {Q : Exit → Act → World → Prop} {w : World} {rest : List Oper} {ts : List Value} {df : List Deferred} {ty : TypeId} {ps : String} {af : Array Edge} {g : Option (Nat × Bool)}
theorem Own.slf {B k e : Nat} {w : World} {v : Value} {es : List (List Value)} (h : Own B k e w v es) : v = .slice none 0 0 ∧ es = [] ∨ ∃ g cap, v = .slice (some ⟨g, 0, none⟩) es.length cap := by
  rcases h.row.2 with ⟨h0, h1⟩ | ⟨g', cap', cur, fz, hv, _⟩
  · exact .inl ⟨h0, List.eq_nil_of_length_eq_zero h1⟩
  · exact .inr ⟨g', cap', hv⟩
theorem run_storeEk {B k e : Nat} {v : Value} {es : List (List Value)} {i : Nat} {c : Value} {f : List Value} {t : TypeId} (ho : Own B k e w v es) (hi : i < es.length) (hc : c.cells = f.toArray) (hf : f.length = k) (h1 : ∀ u ∈ f, u.oneCell' = true) (ht : sizeTy P t k = true) :
    ∃ w' b, elemPtr v (i * k) = .pointer (some ⟨b, i * k, none⟩) ∧ (storeVar t ⟨b, i * k, none⟩ c).run P w = .ok () w' ∧ Own B k e w' v (es.set i f) ∧ Mv v.ownBlock w w' := by
  rcases ho.slf with ⟨_, rfl⟩ | ⟨gb, cap, rfl⟩
  · simp at hi
  · obtain ⟨inf, hq, hsz⟩ := info_of (sizeTy_spec ht)
    obtain ⟨cur, fz, hg, hfz, hnc, h3, h4, how, hmv⟩ := ho.over (i := i) (fs := [f]) (by simp; omega) (by intro x hx; rw [List.mem_singleton.1 hx]; exact hf)
    simp only [List.flatten_cons, List.flatten_nil, List.append_nil, List.length_cons, List.length_nil, Nat.zero_add] at h3 how hmv
    rw [set_take_drop _ _ _ hi] at how
    have hr := run_storeCells_G P gb (i * k) e fz f 0 cur w hg (by omega) (by omega) h1
    simp only [Nat.add_zero] at hr
    refine ⟨_, gb, by simp [elemPtr, add_none], ?_, by simpa using how, hmv⟩
    simp [storeVar, sizeOf, typeInfo, hq, hsz, hc, hr, hf]
theorem wpl_storeEk {B k e : Nat} {v c : Value} {es : List (List Value)} {f : List Value} {t ty2 : TypeId} {x y : Operand} {i : Nat} (hw : Region.wanted (Oper.mk none (.store t x y) ty2 ps af g) (yielded ops ts.toArray) = true)
    (hx : (Act.mk ts.toArray df).eval x = elemPtr v (i * k)) (hy : (Act.mk ts.toArray df).eval y = c) (ho : Own B k e w v es) (hi : i < es.length) (hc : c.cells = f.toArray) (hf : f.length = k) (h1 : ∀ u ∈ f, u.oneCell' = true) (ht : sizeTy P t k = true)
    (h : ∀ w', Own B k e w' v (es.set i f) → Mv v.ownBlock w w' → wpList P ops Q rest (Act.mk ts.toArray df) w') : wpList P ops Q (Oper.mk none (.store t x y) ty2 ps af g :: rest) (Act.mk ts.toArray df) w := by
  obtain ⟨w', b, e1, hr, ho', hm⟩ := run_storeEk (P := P) ho hi hc hf h1 ht
  refine wpl_skipper hw (w' := w') ?_ (h w' ho' hm)
  simp [execOp, hx, hy, e1, Instr.storeAt, Instr.sureAddr, hr]
end
end Go.Proofs.X
