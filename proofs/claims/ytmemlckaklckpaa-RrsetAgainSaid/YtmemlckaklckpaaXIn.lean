/- A part of the proof of a statement on sets of records: what some functions of the program do, walked step by step. -/
import Derived.Test.YtmemlckaklckpaaXMem
set_option linter.unusedVariables false
set_option linter.unusedSimpArgs false
namespace Go.Proofs.X
open Go.RowKit

/-! ### rounds of a range over a function -/
def FR (r : Option Nat) : Fence := { Fence.wide with round := r }
section
variable {P : Program} {n : Nat} {r : Option Nat} {ops : Array Oper} {Q : Exit → Act → World → Prop}
theorem rowsIn_of {row : String} {args : Array Value} {w : World} {R : Value → World → Prop} {r : Option Nat} (h : Rows P row args w R) : RowsIn (FR r) n P row args w R :=
  fun c cs _ => let ⟨v, w', hr, hs⟩ := h c cs; ⟨v, w', hr, stepsIn_wide.2 hs⟩
theorem callsIn_of {f : FuncId} {args : Array Value} {w : World} {R : Ending → World → Prop} {r : Option Nat} (h : Calls P f args w R) : CallsIn (FR r) n P f args w R :=
  (callsIn_wide (n := n)).2 h
theorem upon_in {o : Oper} {a : Act} {next next' : Act → World → Prop} {Q Q' : Exit → Act → World → Prop} {x : Result Next} (hQ : ∀ a w, ¬ Q .outgrown a w) (hq : ∀ e a w, Q e a w → Q' e a w) (hn : ∀ a w, next a w → next' a w)
    (h : o.upon P a next Q x) : o.uponIn (FR r) n P a next' Q' x := by
  cases x with
  | ok v w =>
    cases v <;> first | exact h.elim | skip
    case value v => exact hn _ _ h
    case skip => exact hn _ _ h
    case defer d => exact hn _ _ h
    case enter f args =>
      refine ⟨fun hd => by simp [FR, Fence.wide] at hd, callsIn_of (Calls.mono h ?_)⟩
      intro e w' he
      cases e with
      | returned v => exact hn _ _ he
      | panicked c => exact hq _ _ _ he
      | outgrown => obtain ⟨a0, w0, h0⟩ := he; exact absurd h0 (hQ _ _)
    case row row args => exact ⟨fun hd => by simp [FR, Fence.wide] at hd, rowsIn_of (h.mono fun _ _ he => hn _ _ he)⟩
  | halt x w => cases x <;> first | exact h.elim | exact hq _ _ _ h
theorem wpListIn_of {l : List Oper} (hd : ∀ o ∈ l, ∀ c, o.op ≠ .defer c) (hQ : ∀ a w, ¬ Q .outgrown a w) : ∀ {a : Act} {w : World}, wpList P ops Q l a w → wpListIn (FR r) n P ops Q l a w := by
  induction l with
  | nil => intro a w h; exact h
  | cons o l ih =>
    intro a w h
    have ih' := fun {a w} => ih (fun o ho => hd o (List.mem_cons_of_mem _ ho)) (a := a) (w := w)
    unfold wpList at h
    unfold wpListIn
    split
    · rename_i hw
      rw [if_pos hw] at h
      rcases h with h | ⟨_, a0, w0, h0⟩
      · refine ⟨fun _ _ => trivial, ?_⟩
        rw [Oper.semAt_eq _ _ _ (hd o (by simp))]
        exact upon_in hQ (fun _ _ _ h => h) (fun _ _ h => ih' h) h
      · exact absurd h0 (hQ _ _)
    · rename_i hw
      rw [if_neg hw] at h
      exact ⟨fun _ _ => trivial, ih' h⟩
def noDefers (l : List Oper) : Bool := l.all fun o => match o.op with | .defer _ => false | _ => true
/-- a region in a round is walked as anywhere -/
theorem wpR_region {id : Nat} {l : List Oper} {a : Act} {w : World} (hd : noDefers l = true) (hQ : ∀ a w, ¬ Q .outgrown a w) (h : wpList P l.toArray Q l a w) : (Code.region id l.toArray false).wpIn (FR r) n P Q a w :=
  wpIn_region_lit (wpListIn_of (fun o ho c hc => by have := List.all_eq_true.1 hd o ho; rw [hc] at this; cases this) hQ h)

variable {w : World} {rest : List Oper} {ts : List Value} {df : List Deferred} {d : Nat} {ty : TypeId} {ps : String} {af : Array Edge} {g : Option (Nat × Bool)} {tys : Array TypeId}
theorem wplI_run {v : Value} {op : Op} (hw : Region.wanted (Oper.mk (some d) op ty ps af g) (yielded ops ts.toArray) = true) (hr : Runs P (Oper.mk (some d) op ty ps af g) (Act.mk ts.toArray df) w v)
    (h : wpListIn (FR r) n P ops Q rest (Act.mk (ts.set d v).toArray df) w) : wpListIn (FR r) n P ops Q (Oper.mk (some d) op ty ps af g :: rest) (Act.mk ts.toArray df) w := by
  unfold wpListIn
  rw [if_pos hw]
  refine ⟨fun _ _ => trivial, ?_⟩
  rw [Oper.semAt_eq _ _ _ (fun c hc => by simp only at hc; subst hc; have hr := hr.run; simp only [execOp, Sem.run_bind] at hr; cases hx : (resolve (Act.mk ts.toArray df).eval c ty).run P w <;> simp [hx, Result.andThen] at hr), hr.run]
  simpa [Oper.uponIn, Act.put] using h
/-- yield is called -/
theorem wplI_yield {l m : Nat} {xs : List Operand} {vs : List Value} {lp : Loop} {R : Ending → World → Prop} (hw : Region.wanted (Oper.mk (some d) (.call ⟨.value (.tmp m), xs.toArray, tys⟩) ty ps af g) (yielded ops ts.toArray) = true)
    (hm : ts.getD m undef = .func (.yield l) #[] #[]) (hxs : xs.map (Act.mk ts.toArray df).eval = vs) (hl : w.heap[l]? = some (.loop lp)) (hs : vs.length = lp.params.size)
    (hc : RoundIn Fence.wide (n - 1) P l lp.fn ((lp.params.zip vs.toArray).foldl (fun tmps (t, a) => tmps.setIfInBounds t a) lp.tmps) lp.assign lp.body w R)
    (h : ∀ e w', R e w' → ∃ v, e = .returned v ∧ wpListIn (FR r) n P ops Q rest (Act.mk (ts.set d v).toArray df) w') :
    wpListIn (FR r) n P ops Q (Oper.mk (some d) (.call ⟨.value (.tmp m), xs.toArray, tys⟩) ty ps af g :: rest) (Act.mk ts.toArray df) w := by
  subst hxs
  unfold wpListIn
  rw [if_pos hw]
  refine ⟨fun _ _ => trivial, ?_⟩
  have e1 : (Act.mk ts.toArray df).eval (.tmp m) = .func (.yield l) #[] #[] := by rw [evalT]; exact hm
  have hr : (execOp (Act.mk ts.toArray df).eval (Oper.mk (some d) (.call ⟨.value (.tmp m), xs.toArray, tys⟩) ty ps af g)).run P w = .ok (.round l lp.fn ((lp.params.zip (xs.map (Act.mk ts.toArray df).eval).toArray).foldl (fun tmps (t, a) => tmps.setIfInBounds t a) lp.tmps) lp.assign lp.body) w := by
    have := run_yield (P := P) (args := (xs.map (Act.mk ts.toArray df).eval).toArray) hl (by simpa using hs)
    simp only [execOp, resolve, e1, Deferred.ofValue, Sem.run_bind, Sem.run_pure, Result.andThen_ok, invoke, List.map_toArray, List.append_toArray, List.nil_append]
    simpa using this
  rw [Oper.semAt_eq _ _ _ (fun c hc => by simp at hc), hr]
  refine ⟨fun hd => by simp [FR, Fence.wide] at hd, ?_⟩
  refine RoundIn.mono (R := R) hc fun e w' he => ?_
  obtain ⟨v, rfl, hk⟩ := h e w' he
  simpa [Act.put] using hk
theorem wp_region_in {id : Nat} {l : List Oper} {a : Act} {w : World} (h : wpListIn (FR none) 1 P l.toArray Q l a w) : (Code.region id l.toArray false).wp P Q a w :=
  (wpIn_wide (n := 1)).1 (wpIn_region_lit h)
theorem wplI_nil {F : Fence} {n : Nat} {a : Act} {w : World} (h : Q .normal a w) : wpListIn F n P ops Q [] a w := h
theorem calls_of_wp_marks {f : FuncId} {fn : Func} {c : Code} {args : Array Value} {w : World} {R : Ending → World → Prop}
    (hf : P.funcs[f]? = some fn) (hb : fn.body = some c)
    (h : c.wp P (bodyPostM Fence.wide 1 P fn R) { tmps := args ++ Array.replicate (fn.ntmps - args.size) undef, defers := [] } w) : Calls P f args w R :=
  (callsIn_wide (n := 1)).1 (callsIn_of_wp_marks hf hb trivial ((wpIn_wide (n := 1)).2 h))
end
/-! ### results that lie in memory -/
theorem run_loadVar_pts {P : Program} {t ty0 : TypeId} {fr0 : Nat × Nat} {b : Nat} {v : Value} {w : World} (h : w.heap[b]? = some (.cells #[v] ty0 fr0)) (hu : plainTy P t = true) : (loadVar t ⟨b, 0, none⟩).run P w = .ok v w := by
  obtain ⟨u, hu, hn⟩ := plainTy_spec hu
  have h0 : w.cell? ⟨b, 0, none⟩ = some v := by rw [cell_of_row w b 0 _ _ _ h]; rfl
  simp [loadVar, Sem.run_bind, isAgg_no hu hn, run_load, h0]
theorem results_cells2 {P : Program} {fn : Func} {p q : Tmp} {t u tv tx : TypeId} {fv fx : Nat × Nat} (h : fn.results = #[.cell p t, .cell q u]) {ts : List Value} {w : World} {b c : Nat} {v x : Value}
    (hp : ts.getD p undef = .pointer (some ⟨b, 0, none⟩)) (hq : ts.getD q undef = .pointer (some ⟨c, 0, none⟩)) (hv : w.heap[b]? = some (.cells #[v] tv fv)) (hx : w.heap[c]? = some (.cells #[x] tx fx)) (ht : plainTy P t = true) (hu : plainTy P u = true) :
    (results fn ts.toArray).run P w = .ok (.tuple #[v, x]) w := by
  have h1 := run_loadVar_pts (P := P) hv ht
  have h2 := run_loadVar_pts (P := P) hx hu
  have hp' : ts[p]?.getD undef = .pointer (some ⟨b, 0, none⟩) := by simpa using hp
  have hq' : ts[q]?.getD undef = .pointer (some ⟨c, 0, none⟩) := by simpa using hq
  simp [results, h, hp', hq', asAddr, Sem.run_bind, Result.andThen, h1, h2]
theorem leaves_nil {P : Program} {n : Nat} {fn : Func} {tmps : Array Value} {R : Ending → World → Prop} {w : World} {v : Value} (h : (results fn tmps).run P w = .ok v w) (hR : R (.returned v) w) :
    LeavesInM Fence.wide n P fn tmps R [] .returning w := ⟨v, h, hR⟩

/-! ### the statement 'for range f' -/
theorem wp_rangeFunc_of {P : Program} {g : Operand} {ps : Array Tmp} {assign body : Code} {Q : Exit → Act → World → Prop} {a : Act} {w : World} {s : Nat} {f : FuncId} {caps : Array Value}
    (hg : a.eval g = .func (.func f) #[] caps) (he : Enters P f) (hs : w.heap.size = s)
    (h : ∀ fn W lp, lp = ({ state := .ready, pending := none, fn := fn, tmps := a.tmps, params := ps, assign := assign, body := body, defers := s } : Loop) → Ext w W → W.heap[s]? = some (.deferred (some [])) → W.heap[s + 1]? = some (.loop lp) → W.heap.size = s + 2 →
      Calls P f (#[.func (.yield (s + 1)) #[] #[]] ++ caps) W fun e W' => (∃ v, e = .returned v) ∧ ∃ r, W'.heap[s + 1]? = some (.loop r) ∧ r.state ≠ .busy ∧ ∀ W2, Put W' W2 (s + 1) (.loop { r with state := .exhausted }) →
        match r.pending with
        | none => Q .normal { a with defers := { target := .collected s, args := #[] } :: a.defers } W2
        | some c => c.wp P Q { a with defers := { target := .collected s, args := #[] } :: a.defers } W2) : (Code.rangeFunc g ps assign body).wp P Q a w := by
  subst hs
  refine (wpIn_wide (n := 1)).1 (wpIn_rangeFunc ?_)
  intro fn _
  have hm := (h fn ((w.alloc (.deferred (some []))).alloc (.loop { state := .ready, pending := none, fn := fn, tmps := a.tmps, params := ps, assign := assign, body := body, defers := w.heap.size })) _ rfl ((Ext.alloc _ _).trans (Ext.alloc _ _))
    (((Ext.alloc _ _).at (heap_alloc_new _ _))) (by have := heap_alloc_new (w.alloc (.deferred (some []))) (.loop { state := .ready, pending := none, fn := fn, tmps := a.tmps, params := ps, assign := assign, body := body, defers := w.heap.size }); rwa [World.size_alloc] at this) (by simp))
  have hE := run_enterLoop_outer (P := P) (w := w) fn a.tmps ps assign body
  generalize ((w.alloc (.deferred (some []))).alloc (.loop { state := .ready, pending := none, fn := fn, tmps := a.tmps, params := ps, assign := assign, body := body, defers := w.heap.size })) = W1 at hm hE
  refine ⟨_, _, W1, { target := .fn (.func f) caps, args := #[.func (.yield (w.heap.size + 1)) #[] #[]] }, W1, f, #[.func (.yield (w.heap.size + 1)) #[] #[]] ++ caps, W1, hE, ?_, fun _ _ => trivial, ?_, fun hd => by simp [Fence.wide] at hd, ?_⟩
  · have e1 : a.eval (.const (.func (.yield (w.heap.size + 1)) #[] #[])) = .func (.yield (w.heap.size + 1)) #[] #[] := rfl
    simp [resolve, hg, e1, Deferred.ofValue]
  · have := he (#[.func (.yield (w.heap.size + 1)) #[] #[]] ++ caps) W1
    simpa [invoke] using this
  · refine callsIn_wide.2 (hm.mono ?_)
    rintro e W' ⟨⟨v, rfl⟩, r, hr, hb, hk⟩
    refine ⟨r.pending, _, run_endLoop hr hb, ?_⟩
    have := hk _ (put_putObj hr)
    cases hp : r.pending with
    | none => rw [hp] at this; exact this
    | some c => rw [hp] at this; exact (wpIn_wide (n := 1)).2 this
/-- a round, of a record that is ready -/
theorem round_of {P : Program} {n l : Nat} {fn : FuncId} {tmps : Array Value} {assign body : Code} {W : World} {R : Ending → World → Prop}
    (h : assign.wpIn (FR (some l)) n P (Exit.then (fun a₁ w₁ => ∃ lp, w₁.heap[l]? = some (.loop lp) ∧ lp.state = .ready ∧ ∀ w₂, Put w₁ w₂ l (.loop { lp with state := .busy }) → body.wpIn (FR (some l)) n P (roundPost P l R) a₁ w₂) (fun _ _ _ => False)) { tmps := tmps, defers := [] } W) :
    RoundIn Fence.wide n P l fn tmps assign body W R := by
  refine roundIn_of_wpIn trivial (wpIn_mono h ?_)
  intro e a w hq
  cases e with
  | normal =>
    obtain ⟨lp, h1, h2, h3⟩ := hq
    exact ⟨_, run_beginRound h1 h2, h3 _ (put_putObj h1)⟩
  | _ => exact hq
theorem round_normal {P : Program} {l : Nat} {R : Ending → World → Prop} {a : Act} {w : World} {lp : Loop} (h : w.heap[l]? = some (.loop lp)) (hR : ∀ w', Put w w' l (.loop { lp with state := .ready, pending := none }) → R (.returned (.bool true)) w') : roundPost P l R .normal a w :=
  ⟨_, _, run_endRound none h, hR _ (put_putObj h)⟩
theorem round_ret {P : Program} {l : Nat} {R : Ending → World → Prop} {a : Act} {w : World} {lp : Loop} (h : w.heap[l]? = some (.loop lp)) (hR : ∀ w', Put w w' l (.loop { lp with state := .done, pending := some .ret }) → R (.returned (.bool false)) w') : roundPost P l R .ret a w :=
  ⟨_, _, run_endRound (some .ret) h, hR _ (put_putObj h)⟩

theorem leaves_mark {P : Program} {n b : Nat} {fn : Func} {tmps : Array Value} {R : Ending → World → Prop} {w : World} (hd : w.heap[b]? = some (.deferred (some [])))
    (h : ∀ w', Put w w' b (.deferred none) → ∃ v, (results fn tmps).run P w' = .ok v w' ∧ R (.returned v) w') : LeavesInM Fence.wide n P fn tmps R [{ target := .collected b, args := #[] }] .returning w :=
  ⟨by simp, .inl ⟨_, _, rfl, run_takeDeferred hd, let ⟨v, h1, h2⟩ := h _ (put_putObj hd); leaves_nil h1 h2⟩⟩
theorem Own.weaken {B C k e : Nat} {w : World} {v : Value} {es : List (List Value)} (h : Own B k e w v es) (hBC : C ≤ B) : Own C k e w v es :=
  ⟨⟨h.row.1, h.row.2.imp id fun ⟨gg, cap, cur, fz, a, b, r⟩ => ⟨gg, cap, cur, fz, a, Nat.le_trans hBC b, r⟩⟩, h.2⟩
theorem Own.put {B k e b : Nat} {w w' : World} {v : Value} {es : List (List Value)} {o : Obj} (h : Own B k e w v es) (hp : Put w w' b o) (hb : b < B) : Own B k e w' v es :=
  h.mv hp.mv (by
    cases hv : v.ownBlock with
    | none => exact .inl rfl
    | some r => have := h.block r hv; exact .inr (fun e => by have := Option.some.inj e; omega))
theorem Put.at {w w' : World} {b k : Nat} {o o' : Obj} (hp : Put w w' b o) (h : w.heap[k]? = some o') (hk : k ≠ b) : w'.heap[k]? = some o' := (hp.other k hk).trans h
theorem Own.one {B k e : Nat} {w : World} {v : Value} {es : List (List Value)} (h : Own B k e w v es) : v.oneCell' = true := by
  rcases h.row.2 with ⟨rfl, _⟩ | ⟨_, _, _, _, rfl, _⟩ <;> rfl

/-- a block below what is the slice's stands when the slice's own block is written -/
theorem Own.mvs {B k e b : Nat} {w w1 w' : World} {v : Value} {es : List (List Value)} {o : Obj} (h : Own B k e w1 v es) (hm : Mv v.ownBlock w w') (hw : w.heap[b]? = some o) (hb : b < B) : w'.heap[b]? = some o :=
  hm.at hw (fun e => by have := h.block b e.symm; omega)
theorem Own.mvx {B k e : Nat} {w0 w w1 w' : World} {v : Value} {es : List (List Value)} (h : Own B k e w1 v es) (hm : Mv v.ownBlock w w') (hx : Ext w0 w) (hB : w0.heap.size ≤ B) : Ext w0 w' :=
  hx.move hm (fun k hk => by have := h.block k hk; omega)

end Go.Proofs.X
