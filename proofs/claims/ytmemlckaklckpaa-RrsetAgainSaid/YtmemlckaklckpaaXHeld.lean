/- A part of the proof of a statement on sets of records: what some functions of the program do, walked step by step. -/
import Derived.Test.YtmemlckaklckpaaXApp
import Derived.OrdersHeld
set_option linter.unusedVariables false
set_option linter.unusedSimpArgs false
namespace Go.Proofs.X
open Go.RowKit
section
variable {P : Program} {w : World} {ts : List Value} {df : List Deferred} {d : Option Nat} {ty : TypeId} {ps : String} {af : Array Edge} {g : Option (Nat × Bool)}
theorem Runs.nilP {x : Nat} {a : Addr} (h : ts.getD x undef = .pointer (some a)) : Runs P (Oper.mk d (.nilCheck (.tmp x)) ty ps af g) (Act.mk ts.toArray df) w (ts.getD x undef) := by
  constructor
  simp only [execOp, evalT, h]
  rfl
theorem Runs.nilPts {x : Nat} {vs : List Value} (h : Pts w (ts.getD x undef) vs) : Runs P (Oper.mk d (.nilCheck (.tmp x)) ty ps af g) (Act.mk ts.toArray df) w (ts.getD x undef) := by
  obtain ⟨b, o, h1, _⟩ := h
  exact Runs.nilP h1
theorem Runs.minI {t u : TypeId} {x y : Operand} {m n : Int} (hx : (Act.mk ts.toArray df).eval x = .int .i64 m) (hy : (Act.mk ts.toArray df).eval y = .int .i64 n) :
    Runs P (Oper.mk d (.call ⟨.builtin .min, #[x, y], #[t, u]⟩) ty ps af g) (Act.mk ts.toArray df) w (.int .i64 (min m n)) := by
  constructor
  have e : (if n < m then n else m) = min m n := by rw [Int.min_def]; split <;> split <;> omega
  simp [execOp, resolve, invoke, builtin, hx, hy, run_min_int2, e]
end
section
variable {P : Program} {ops : Array Oper} {Q : Exit → Act → World → Prop} {w w' : World} {rest : List Oper} {ts : List Value} {df : List Deferred} {d : Nat} {op : Op} {ty : TypeId} {ps : String} {af : Array Edge} {g : Option (Nat × Bool)}
/-- an operation whose run is known -/
theorem wpl_val {v : Value} (hw : Region.wanted (Oper.mk (some d) op ty ps af g) (yielded ops ts.toArray) = true) (hr : (execOp (Act.mk ts.toArray df).eval (Oper.mk (some d) op ty ps af g)).run P w = .ok (.value v) w')
    (h : wpList P ops Q rest (Act.mk (ts.set d v).toArray df) w') : wpList P ops Q (Oper.mk (some d) op ty ps af g :: rest) (Act.mk ts.toArray df) w := by
  unfold wpList
  rw [if_pos hw]
  refine .inl ?_
  unfold Oper.wp
  rw [hr]
  simpa [Oper.upon, Act.put] using h
end
section
variable {P : Program} {ops : Array Oper} {Q : Exit → Act → World → Prop} {w : World} {rest : List Oper} {ts : List Value} {df : List Deferred} {d : Nat} {op : Op} {ty : TypeId} {ps : String} {af : Array Edge} {j e : Nat} {want b : Bool}
theorem yielded_at (h1 : (ops[j]?).bind (·.dst) = some e) (h2 : ts.getD e undef = .bool b) : yielded ops ts.toArray j = some b := by
  unfold yielded
  rw [h1]
  have : ts[e]? = some (.bool b) := by
    rw [List.getD_eq_getElem?_getD] at h2
    cases h : ts[e]? with
    | none => rw [h] at h2; cases h2
    | some v => rw [h] at h2; exact congrArg some h2
  simp [this]
theorem wanted_yes {o : Option Nat} (h1 : (ops[j]?).bind (·.dst) = some e) (h2 : ts.getD e undef = .bool b) (h3 : b = want) : Region.wanted (Oper.mk o op ty ps af (some (j, want))) (yielded ops ts.toArray) = true := by
  simp [Region.wanted, yielded_at h1 h2, h3]
theorem wanted_no {o : Option Nat} (h1 : (ops[j]?).bind (·.dst) = some e) (h2 : ts.getD e undef = .bool b) (h3 : b = !want) : Region.wanted (Oper.mk o op ty ps af (some (j, want))) (yielded ops ts.toArray) = false := by
  simp [Region.wanted, yielded_at h1 h2, h3]
theorem wpl_run0 {v : Value} (hr : Runs P (Oper.mk (some d) op ty ps af none) (Act.mk ts.toArray df) w v)
    (h : wpList P ops Q rest (Act.mk (ts.set d v).toArray df) w) : wpList P ops Q (Oper.mk (some d) op ty ps af none :: rest) (Act.mk ts.toArray df) w := wpl_run rfl hr h
theorem wpl_runG {v : Value} (h1 : (ops[j]?).bind (·.dst) = some e) (h2 : ts.getD e undef = .bool b) (h3 : b = want) (hr : Runs P (Oper.mk (some d) op ty ps af (some (j, want))) (Act.mk ts.toArray df) w v)
    (h : wpList P ops Q rest (Act.mk (ts.set d v).toArray df) w) : wpList P ops Q (Oper.mk (some d) op ty ps af (some (j, want)) :: rest) (Act.mk ts.toArray df) w := wpl_run (wanted_yes h1 h2 h3) hr h
theorem wpl_skipG (h1 : (ops[j]?).bind (·.dst) = some e) (h2 : ts.getD e undef = .bool b) (h3 : b = !want)
    (h : wpList P ops Q rest (Act.mk (ts.set d undef).toArray df) w) : wpList P ops Q (Oper.mk (some d) op ty ps af (some (j, want)) :: rest) (Act.mk ts.toArray df) w := wpl_skip (wanted_no h1 h2 h3) h
theorem wpl_guardG {o : Option Nat} (h1 : (ops[j]?).bind (·.dst) = some e) (h2 : ts.getD e undef = .bool b)
    (h3 : b = want → wpList P ops Q (Oper.mk o op ty ps af none :: rest) (Act.mk ts.toArray df) w) (h4 : b = !want → wpList P ops Q rest ((Act.mk ts.toArray df).put o undef) w) :
    wpList P ops Q (Oper.mk o op ty ps af (some (j, want)) :: rest) (Act.mk ts.toArray df) w := wpl_guard (yielded_at h1 h2) h3 h4
/-- some value comes of it, and with that value K -/
inductive RT (P : Program) (o : Oper) (a : Act) (w : World) (K : Value → Prop) : Prop
  | mk {v : Value} (h1 : Runs P o a w v) (h2 : K v) : RT P o a w K
/-- the guard's value -/
inductive GV (ops : Array Oper) (ts : List Value) (j : Nat) (K : Bool → Prop) : Prop
  | mk {e : Nat} {b : Bool} (h1 : (ops[j]?).bind (·.dst) = some e) (h2 : ts.getD e undef = .bool b) (h3 : K b) : GV ops ts j K
theorem wpl_r0 (h : RT P (Oper.mk (some d) op ty ps af none) (Act.mk ts.toArray df) w fun v => wpList P ops Q rest (Act.mk (ts.set d v).toArray df) w) : wpList P ops Q (Oper.mk (some d) op ty ps af none :: rest) (Act.mk ts.toArray df) w := by
  obtain ⟨h1, h2⟩ := h
  exact wpl_run rfl h1 h2
theorem wpl_rG (h : GV ops ts j (· = want)) (h2 : RT P (Oper.mk (some d) op ty ps af (some (j, want))) (Act.mk ts.toArray df) w fun v => wpList P ops Q rest (Act.mk (ts.set d v).toArray df) w) : wpList P ops Q (Oper.mk (some d) op ty ps af (some (j, want)) :: rest) (Act.mk ts.toArray df) w := by
  obtain ⟨g1, g2, g3⟩ := h
  obtain ⟨h1, h2⟩ := h2
  exact wpl_runG g1 g2 g3 h1 h2
theorem wpl_sG (h : GV ops ts j (fun b => b = !want)) (h2 : wpList P ops Q rest (Act.mk (ts.set d undef).toArray df) w) : wpList P ops Q (Oper.mk (some d) op ty ps af (some (j, want)) :: rest) (Act.mk ts.toArray df) w := by
  obtain ⟨g1, g2, g3⟩ := h
  exact wpl_skipG g1 g2 g3 h2
/-- the guard was not come to -/
inductive GU (ops : Array Oper) (ts : List Value) (j : Nat) : Prop
  | mk {e : Nat} (h1 : (ops[j]?).bind (·.dst) = some e) (h2 : ts.getD e undef = undef) : GU ops ts j
theorem wanted_un {o : Option Nat} (h : GU ops ts j) : Region.wanted (Oper.mk o op ty ps af (some (j, want))) (yielded ops ts.toArray) = false := by
  obtain ⟨h1, h2⟩ := h
  rename_i e
  have : yielded ops ts.toArray j = none := by
    unfold yielded
    rw [h1]
    cases h : ts[e]? with
    | none => simp [h]
    | some v =>
      rw [List.getD_eq_getElem?_getD, h] at h2
      have : v = undef := h2
      subst this
      simp [h, undef]
  simp [Region.wanted, this]
theorem wpl_sU (h : GU ops ts j) (h2 : wpList P ops Q rest (Act.mk (ts.set d undef).toArray df) w) : wpList P ops Q (Oper.mk (some d) op ty ps af (some (j, want)) :: rest) (Act.mk ts.toArray df) w :=
  wpl_skip (wanted_un h) h2
theorem wpl_gG (h : GV ops ts j fun b => (b = want → wpList P ops Q (Oper.mk (some d) op ty ps af none :: rest) (Act.mk ts.toArray df) w) ∧ (b = !want → wpList P ops Q rest (Act.mk (ts.set d undef).toArray df) w)) :
    wpList P ops Q (Oper.mk (some d) op ty ps af (some (j, want)) :: rest) (Act.mk ts.toArray df) w := by
  obtain ⟨g1, g2, g3, g4⟩ := h
  exact wpl_guardG g1 g2 g3 (fun h => by simpa [Act.put] using g4 h)
theorem wpl_gN (h : GV ops ts j fun b => (b = want → wpList P ops Q (Oper.mk none op ty ps af none :: rest) (Act.mk ts.toArray df) w) ∧ (b = !want → wpList P ops Q rest (Act.mk ts.toArray df) w)) :
    wpList P ops Q (Oper.mk none op ty ps af (some (j, want)) :: rest) (Act.mk ts.toArray df) w := by
  obtain ⟨g1, g2, g3, g4⟩ := h
  exact wpl_guardG g1 g2 g3 (fun h => by simpa [Act.put] using g4 h)
theorem wpq_run0 {C : World → Prop} {QQ : Act → Prop} {v : Value} (hr : ∀ w, C w → Runs P (Oper.mk (some d) op ty ps af none) (Act.mk ts.toArray df) w v)
    (h : wpQuiet P ops C QQ rest (Act.mk (ts.set d v).toArray df)) : wpQuiet P ops C QQ (Oper.mk (some d) op ty ps af none :: rest) (Act.mk ts.toArray df) := wpq_run rfl hr h
theorem wpq_runG {C : World → Prop} {QQ : Act → Prop} {v : Value} (h1 : (ops[j]?).bind (·.dst) = some e) (h2 : ts.getD e undef = .bool b) (h3 : b = want) (hr : ∀ w, C w → Runs P (Oper.mk (some d) op ty ps af (some (j, want))) (Act.mk ts.toArray df) w v)
    (h : wpQuiet P ops C QQ rest (Act.mk (ts.set d v).toArray df)) : wpQuiet P ops C QQ (Oper.mk (some d) op ty ps af (some (j, want)) :: rest) (Act.mk ts.toArray df) := wpq_run (wanted_yes h1 h2 h3) hr h
theorem wpq_skipG {C : World → Prop} {QQ : Act → Prop} (h1 : (ops[j]?).bind (·.dst) = some e) (h2 : ts.getD e undef = .bool b) (h3 : b = !want)
    (h : wpQuiet P ops C QQ rest (Act.mk (ts.set d undef).toArray df)) : wpQuiet P ops C QQ (Oper.mk (some d) op ty ps af (some (j, want)) :: rest) (Act.mk ts.toArray df) := wpq_skip (wanted_no h1 h2 h3) h
end
/-! ### regions that draw their order: what only reads is taken first; what is left is carried out in each order -/
/-- behind one operation: K; its other exits are the region's -/
def Thn (Q : Exit → Act → World → Prop) (K : Act → World → Prop) : Exit → Act → World → Prop
  | .normal => K
  | e => Q e
section
variable {P : Program} {Q : Exit → Act → World → Prop} {S : World → Prop} {l : List Oper} {ts : List Value} {df : List Deferred} {d : Nat} {ty : TypeId} {ps : String} {af : Array Edge} {g : Option (Nat × Bool)} {w : World} {fuel : Nat} {listed : List Bool} {id : Nat}
theorem thn_lets {Q : Exit → Act → World → Prop} {K : Act → World → Prop} (h : LetsOut (Thn Q K)) : LetsOut Q := h
theorem wph_op {ops : Array Oper} {i : Nat} {o : Oper} {K : Act → World → Prop} {a : Act} (hi : ops[i]? = some o) (h : wpList P ops (Thn Q K) [o] a w) : wpOp P ops Q i K a w := by
  unfold wpOp
  rw [hi]
  unfold wpList at h
  by_cases hw : Region.wanted o (yielded ops a.tmps) = true
  · rw [if_pos hw] at h
    show (if Region.wanted o (yielded ops a.tmps) = true then o.wp P a w K Q ∨ (o.asks P a w ∧ LetsOut Q) else K (a.put o.dst undef) w)
    rw [if_pos hw]
    rcases h with h | h
    · left
      unfold Oper.wp at *
      generalize (execOp a.eval o).run P w = r at *
      cases r with
      | ok n w' =>
        cases n <;> first | exact h | skip
        all_goals simp only [Oper.upon, wpList, Thn] at h ⊢
        all_goals first | exact h | exact h.elim | (refine Calls.mono h ?_; intro e w'' he; cases e <;> exact he) | skip
      | halt x w' => cases x <;> exact h
    · exact .inr h
  · rw [if_neg hw] at h
    show (if Region.wanted o (yielded ops a.tmps) = true then o.wp P a w K Q ∨ (o.asks P a w ∧ LetsOut Q) else K (a.put o.dst undef) w)
    rw [if_neg hw]
    exact h
/-- a region begins: behind its draw -/
theorem wph_region {a : Act} (S : World → Prop) (hm : P.follows .mixedOrders = true)
    (h : ∀ w1, Ext w w1 → w1.heap = w.heap → wpAnyH P .any l.toArray Q S l.length (List.replicate l.length false).toArray a w1) : (Code.region id l.toArray true).wp P Q a w := by
  refine wp_region_held (S := S) hm ?_
  have := h { w with drawn := w.drawn + 1 } (Ext.drew w) rfl
  simpa using this
/-- what yields its value in every world at hand is taken first -/
theorem wph_take {fuel2 : Nat} {i : Nat} {op : Op} {v : Value} (hi : l[i]? = some (Oper.mk (some d) op ty ps af g)) (hfu : fuel2 = fuel + 1) (hs : Region.noSelect l.toArray = true) (hf : Region.free .any l.toArray listed.toArray i = true) (hr : (Region.ready .any l.toArray listed.toArray).contains i = true)
    (hw : Region.wanted (Oper.mk (some d) op ty ps af g) (yielded l.toArray ts.toArray) = true) (hS : S w)
    (hy : ∀ w', S w' → Runs P (Oper.mk (some d) op ty ps af g) (Act.mk ts.toArray df) w' v) (hQ : ∀ c a w, Q (.panic c) (a.put (some d) v) w → Q (.panic c) a w)
    (h : wpAnyH P .any l.toArray Q S fuel (listed.set i true).toArray (Act.mk (ts.set d v).toArray df) w) : wpAnyH P .any l.toArray Q S fuel2 listed.toArray (Act.mk ts.toArray df) w := by
  subst hfu
  refine wpAnyH_take (i := i) (oi := Oper.mk (some d) op ty ps af g) (v := v) (by simpa using hi) hs hf hr hQ (.inl ⟨hw, fun w' hw' => (hy w' hw').run⟩) hS ?_
  simpa [Act.put] using h
/-- what is not wanted is passed by -/
theorem wph_skip {fuel2 : Nat} {i : Nat} {op : Op} (hi : l[i]? = some (Oper.mk (some d) op ty ps af g)) (hfu : fuel2 = fuel + 1) (hs : Region.noSelect l.toArray = true) (hf : Region.free .any l.toArray listed.toArray i = true) (hr : (Region.ready .any l.toArray listed.toArray).contains i = true)
    (hQ : ∀ c a w, Q (.panic c) (a.put (some d) undef) w → Q (.panic c) a w) (hw : Region.wanted (Oper.mk (some d) op ty ps af g) (yielded l.toArray ts.toArray) = false) (hS : S w)
    (h : wpAnyH P .any l.toArray Q S fuel (listed.set i true).toArray (Act.mk (ts.set d undef).toArray df) w) : wpAnyH P .any l.toArray Q S fuel2 listed.toArray (Act.mk ts.toArray df) w := by
  subst hfu
  refine wpAnyH_take (i := i) (oi := Oper.mk (some d) op ty ps af g) (v := undef) (by simpa using hi) hs hf hr hQ (.inr ⟨hw, rfl⟩) hS ?_
  simpa [Act.put] using h
/-- only one may come up -/
theorem wph_one {fuel2 : Nat} {i : Nat} {o : Oper} {a : Act} (hr : Region.ready .any l.toArray listed.toArray = [i]) (hi : l[i]? = some o) (hfu : fuel2 = fuel + 1)
    (h : wpList P l.toArray (Thn Q fun a' w' => S w' ∧ wpAnyH P .any l.toArray Q S fuel (listed.set i true).toArray a' w') [o] a w) : wpAnyH P .any l.toArray Q S fuel2 listed.toArray a w := by
  subst hfu
  refine wpAnyH_all hr (by simp) fun j hj => ?_
  have : j = i := by simpa using hj
  subst this
  refine wph_op (o := o) (by simpa using hi) ?_
  simpa using h
/-- one of two comes up -/
theorem wph_two {fuel2 : Nat} {i j : Nat} {o o' : Oper} {a : Act} (hr : Region.ready .any l.toArray listed.toArray = [i, j]) (hi : l[i]? = some o) (hj : l[j]? = some o') (hfu : fuel2 = fuel + 1)
    (h1 : wpList P l.toArray (Thn Q fun a' w' => S w' ∧ wpAnyH P .any l.toArray Q S fuel (listed.set i true).toArray a' w') [o] a w)
    (h2 : wpList P l.toArray (Thn Q fun a' w' => S w' ∧ wpAnyH P .any l.toArray Q S fuel (listed.set j true).toArray a' w') [o'] a w) : wpAnyH P .any l.toArray Q S fuel2 listed.toArray a w := by
  subst hfu
  refine wpAnyH_all hr (by simp) fun k hk => ?_
  have : k = i ∨ k = j := by simpa using hk
  rcases this with rfl | rfl
  · refine wph_op (o := o) (by simpa using hi) ?_
    simpa using h1
  · refine wph_op (o := o') (by simpa using hj) ?_
    simpa using h2
theorem wph_nil {ops : Array Oper} {K : Act → World → Prop} {a : Act} (h : K a w) : wpList P ops (Thn Q K) [] a w := h
theorem wph_done {a : Act} (hr : Region.ready .any l.toArray listed.toArray = []) (h : Q .normal a w) : wpAnyH P .any l.toArray Q S fuel listed.toArray a w := wpAnyH_done hr h _
end
end Go.Proofs.X
