/- Laws and walks that the proof of the statement is made of (part 2). -/
import Derived.Test.YtcabalnocddidaaGreatP1
set_option linter.unusedVariables false
set_option linter.unusedSimpArgs false
namespace Go.Proofs.X
open Go.RowKit
set_option maxRecDepth 100000
theorem aA {G G' : Prop} (h : G') (e : G = G' := by ((simp only [List.set_cons_succ, List.set_cons_zero, List.getD_cons_succ, List.getD_cons_zero, List.length_map, if_true, Bool.false_eq_true, if_false, Int.toNat_natCast, Int.toNat_zero, Int.toNat_one, Nat.zero_mul, Bool.not_true, Bool.not_false, decide_true, decide_false]); (with_reducible exact rfl))) : G := e.mpr h
theorem eN {w w' : World} (h : Ext w w' := by (repeat (first | (with_reducible assumption) | exact Ext.refl _ | (refine Ext.trans ?_ (by with_reducible assumption))))) : Ext w w' := h
theorem rn {P : Program} {o : Oper} {a : Act} {w : World} {v : Value} (h : Runs P o a w v := by (first | exact Runs.moveT _ | exact Runs.assignT _ | exact Runs.moveC _ | exact Runs.assignC _ | ((apply Runs.pickTC); (rfl)) | ((apply Runs.pickCT); (rfl)) | ((apply Runs.pickT); (rfl)) | ((apply Runs.len); ((first | assumption | (apply Sl.ext; (assumption); (repeat (first | (with_reducible assumption) | exact Ext.refl _ | (refine Ext.trans ?_ (by with_reducible assumption))))))); (decide +kernel)) | ((apply Runs.lenS); (rfl); (decide +kernel)) | ((apply Runs.idxT); (rfl); ((first | assumption | (apply Sl.ext; (assumption); (repeat (first | (with_reducible assumption) | exact Ext.refl _ | (refine Ext.trans ?_ (by with_reducible assumption))))))); ((first | assumption | omega | (simp only [List.length_map, List.length_cons, Int.toNat_natCast, Int.toNat_zero, Int.toNat_one]; omega))); (decide +kernel)) | ((apply Runs.fieldLit); (rfl); (decide +kernel)) | ((apply Runs.fieldTn); ((first | assumption | (apply Pts.ext; (assumption); (repeat (first | (with_reducible assumption) | exact Ext.refl _ | (refine Ext.trans ?_ (by with_reducible assumption))))))); (decide +kernel)) | ((apply Runs.loadP); ((first | rfl | (simp only [List.getD_cons_succ, List.getD_cons_zero]; with_reducible rfl))); ((first | assumption | (apply Pts.ext; (assumption); (repeat (first | (with_reducible assumption) | exact Ext.refl _ | (refine Ext.trans ?_ (by with_reducible assumption))))))); (rfl); (decide +kernel)) | ((apply Runs.load); ((first | assumption | (apply Pts.ext; (assumption); (repeat (first | (with_reducible assumption) | exact Ext.refl _ | (refine Ext.trans ?_ (by with_reducible assumption))))))); (decide +kernel)) | ((apply Runs.loadN); ((first | assumption | (apply Pts.ext; (assumption); (repeat (first | (with_reducible assumption) | exact Ext.refl _ | (refine Ext.trans ?_ (by with_reducible assumption))))))); ((first | (simp only [List.length_cons, List.length_nil, Nat.zero_add, Nat.reduceAdd]; done) | (simp only [List.length_cons, List.length_nil, Nat.zero_add, Nat.reduceAdd]; rfl))); (decide +kernel)) | ((apply Runs.extract); (rfl); (rfl)) | ((apply Runs.not); (rfl)) | ((apply Runs.lss); (rfl); (rfl)) | ((apply Runs.leq); (rfl); (rfl)) | ((apply Runs.gtr); (rfl); (rfl)) | ((apply Runs.geq); (rfl); (rfl)) | ((apply Runs.eql); (rfl); (rfl)) | ((apply Runs.neq); (rfl); (rfl)) | ((apply Runs.inc); (rfl); (rfl); ((first | assumption | omega | (simp only [List.length_map, List.length_cons, Int.toNat_natCast, Int.toNat_zero, Int.toNat_one]; omega)))) | ((apply Runs.add); (rfl); (rfl); ((first | assumption | omega | (simp only [List.length_map, List.length_cons, Int.toNat_natCast, Int.toNat_zero, Int.toNat_one]; omega)))) | ((apply Runs.sub); (rfl); (rfl); ((first | assumption | omega | (simp only [List.length_map, List.length_cons, Int.toNat_natCast, Int.toNat_zero, Int.toNat_one]; omega)))) | ((apply Runs.addU); (rfl); (rfl)) | ((apply Runs.subU); (rfl); (rfl)) | ((apply Runs.eqlS); (rfl); (rfl)) | ((apply Runs.neqS); (rfl); (rfl)) | ((apply Runs.lssS); (rfl); (rfl)) | ((apply Runs.geqS); (rfl); (rfl)) | ((apply Runs.gtrS); (rfl); (rfl)) | ((apply Runs.idxS); (rfl); (rfl); ((first | assumption | omega | (simp only [List.length_map, List.length_cons, Int.toNat_natCast, Int.toNat_zero, Int.toNat_one]; omega))); (decide +kernel)) | ((apply Runs.idxTI); (rfl); ((first | assumption | (apply Sl.ext; (assumption); (repeat (first | (with_reducible assumption) | exact Ext.refl _ | (refine Ext.trans ?_ (by with_reducible assumption))))))); ((first | assumption | omega | (simp only [List.length_map, List.length_cons, Int.toNat_natCast, Int.toNat_zero, Int.toNat_one]; omega))); ((first | assumption | omega | (simp only [List.length_map, List.length_cons, Int.toNat_natCast, Int.toNat_zero, Int.toNat_one]; omega))); (decide +kernel)) | ((apply Runs.idxSI); (rfl); (rfl); ((first | assumption | omega | (simp only [List.length_map, List.length_cons, Int.toNat_natCast, Int.toNat_zero, Int.toNat_one]; omega))); ((first | assumption | omega | (simp only [List.length_map, List.length_cons, Int.toNat_natCast, Int.toNat_zero, Int.toNat_one]; omega))); (decide +kernel)) | ((apply Runs.convB); (rfl); (decide +kernel); (decide +kernel)) | ((apply Runs.cutSI); (rfl); (rfl); (rfl); ((first | assumption | omega | (simp only [List.length_map, List.length_cons, Int.toNat_natCast, Int.toNat_zero, Int.toNat_one]; omega))); ((first | assumption | omega | (simp only [List.length_map, List.length_cons, Int.toNat_natCast, Int.toNat_zero, Int.toNat_one]; omega))); ((first | assumption | omega | (simp only [List.length_map, List.length_cons, Int.toNat_natCast, Int.toNat_zero, Int.toNat_one]; omega))); (decide +kernel)) | ((apply Runs.dropSI); (rfl); (rfl); ((first | assumption | omega | (simp only [List.length_map, List.length_cons, Int.toNat_natCast, Int.toNat_zero, Int.toNat_one]; omega))); ((first | assumption | omega | (simp only [List.length_map, List.length_cons, Int.toNat_natCast, Int.toNat_zero, Int.toNat_one]; omega))); (decide +kernel)) | ((apply Runs.takeSI); (rfl); (rfl); ((first | assumption | omega | (simp only [List.length_map, List.length_cons, Int.toNat_natCast, Int.toNat_zero, Int.toNat_one]; omega))); ((first | assumption | omega | (simp only [List.length_map, List.length_cons, Int.toNat_natCast, Int.toNat_zero, Int.toNat_one]; omega))); (decide +kernel)) | ((apply Runs.cutTI); (rfl); (rfl); ((first | assumption | (apply Sl.ext; (assumption); (repeat (first | (with_reducible assumption) | exact Ext.refl _ | (refine Ext.trans ?_ (by with_reducible assumption))))))); ((first | assumption | omega | (simp only [List.length_map, List.length_cons, Int.toNat_natCast, Int.toNat_zero, Int.toNat_one]; omega))); ((first | assumption | omega | (simp only [List.length_map, List.length_cons, Int.toNat_natCast, Int.toNat_zero, Int.toNat_one]; omega))); ((first | assumption | omega | (simp only [List.length_map, List.length_cons, Int.toNat_natCast, Int.toNat_zero, Int.toNat_one]; omega))); (decide +kernel)) | ((apply Runs.dropTI); (rfl); ((first | assumption | (apply Sl.ext; (assumption); (repeat (first | (with_reducible assumption) | exact Ext.refl _ | (refine Ext.trans ?_ (by with_reducible assumption))))))); ((first | assumption | omega | (simp only [List.length_map, List.length_cons, Int.toNat_natCast, Int.toNat_zero, Int.toNat_one]; omega))); ((first | assumption | omega | (simp only [List.length_map, List.length_cons, Int.toNat_natCast, Int.toNat_zero, Int.toNat_one]; omega))); (decide +kernel)) | ((apply Runs.takeTI); (rfl); ((first | assumption | (apply Sl.ext; (assumption); (repeat (first | (with_reducible assumption) | exact Ext.refl _ | (refine Ext.trans ?_ (by with_reducible assumption))))))); ((first | assumption | omega | (simp only [List.length_map, List.length_cons, Int.toNat_natCast, Int.toNat_zero, Int.toNat_one]; omega))); ((first | assumption | omega | (simp only [List.length_map, List.length_cons, Int.toNat_natCast, Int.toNat_zero, Int.toNat_one]; omega))); (decide +kernel)) | ((apply Runs.shr); (rfl); (rfl); (decide +kernel); (decide +kernel)) | ((apply Runs.shl8); (rfl); (rfl); ((first | assumption | omega | (simp only [List.length_map, List.length_cons, Int.toNat_natCast, Int.toNat_zero, Int.toNat_one]; omega)))) | ((apply Runs.or8); (rfl); (rfl); ((first | assumption | omega | (simp only [List.length_map, List.length_cons, Int.toNat_natCast, Int.toNat_zero, Int.toNat_one]; omega))); ((first | assumption | omega | (simp only [List.length_map, List.length_cons, Int.toNat_natCast, Int.toNat_zero, Int.toNat_one]; omega)))) | ((apply Runs.mul); (rfl); (rfl); ((first | assumption | omega | (simp only [List.length_map, List.length_cons, Int.toNat_natCast, Int.toNat_zero, Int.toNat_one]; omega)))) | exact Runs.func1 | exact Runs.func0 | exact Runs.func2 | exact Runs.func3 | ((apply Runs.nilS); ((first | assumption | (apply Sl.ext; (assumption); (repeat (first | (with_reducible assumption) | exact Ext.refl _ | (refine Ext.trans ?_ (by with_reducible assumption))))))); (decide +kernel)) | ((apply Runs.nilP); (rfl)) | ((apply Runs.nilPts); ((first | assumption | (apply Pts.ext; (assumption); (repeat (first | (with_reducible assumption) | exact Ext.refl _ | (refine Ext.trans ?_ (by with_reducible assumption)))))))) | ((apply Runs.minI); (rfl); (rfl)) | ((apply Runs.strOf (e := 5)); ((first | assumption | (apply Sl.ext; (assumption); (repeat (first | (with_reducible assumption) | exact Ext.refl _ | (refine Ext.trans ?_ (by with_reducible assumption))))))); (decide +kernel); (decide +kernel)) | ((apply Runs.addS); (rfl); (rfl); ((first | omega | (simp only [List.length_append, List.length_cons, List.length_nil]; omega)))) | ((apply Runs.convU); (rfl); (decide +kernel); (decide +kernel)) | ((apply Runs.convS); (rfl); (decide +kernel); (decide +kernel)))) : Runs P o a w v := h
structure St (P : Program) (ops : Array Oper) (Q : Exit → Act → World → Prop) (rest : List Oper) (o : Oper) (ts : List Value) (df : List Deferred) (w : World) : Prop where
 out : wpList P ops Q (o :: rest) (Act.mk ts.toArray df) w
section
variable {P : Program} {ops : Array Oper} {Q : Exit → Act → World → Prop} {rest : List Oper} {o : Oper} {ts ts' t1 t0 : List Value} {df : List Deferred} {w : World} {d e j : Nat} {op : Op} {ty : TypeId} {ps : String} {af : Array Edge} {b want : Bool} {v : Value} {p1 p0 : Prop}
theorem aG (h : St P ops Q rest o ts df w) : wpList P ops Q (o :: rest) (Act.mk ts.toArray df) w := h.out
inductive SR (P : Program) (o : Oper) (ts : List Value) (df : List Deferred) (w : World) (d : Nat) (ts' : List Value) : Prop
 | mk {v : Value} (h1 : Runs P o (Act.mk ts.toArray df) w v) (h2 : ts.set d v = ts') : SR P o ts df w d ts'
structure S1 (P : Program) (ops : Array Oper) (Q : Exit → Act → World → Prop) (rest : List Oper) (d : Nat) (op : Op) (ty : TypeId) (ps : String) (af : Array Edge) (ts : List Value) (df : List Deferred) (w : World) : Prop where
 out : St P ops Q rest (Oper.mk (some d) op ty ps af none) ts df w
structure G1 (P : Program) (ops : Array Oper) (Q : Exit → Act → World → Prop) (rest : List Oper) (dd : Option Nat) (op : Op) (ty : TypeId) (ps : String) (af : Array Edge) (j : Nat) (want : Bool) (ts : List Value) (df : List Deferred) (w : World) : Prop where
 out : St P ops Q rest (Oper.mk dd op ty ps af (some (j, want))) ts df w
theorem kW (h : S1 P ops Q rest d op ty ps af ts df w) : St P ops Q rest (Oper.mk (some d) op ty ps af none) ts df w := h.out
theorem mL {dd : Option Nat} (h : G1 P ops Q rest dd op ty ps af j want ts df w) : St P ops Q rest (Oper.mk dd op ty ps af (some (j, want))) ts df w := h.out
theorem wU (h : wpList P ops Q rest (Act.mk ts'.toArray df) w) (hr : SR P (Oper.mk (some d) op ty ps af none) ts df w d ts' := by (apply SR.mk; (exact rn); (((simp only [List.set_cons_succ, List.set_cons_zero, List.getD_cons_succ, List.getD_cons_zero, List.length_map, if_true, Bool.false_eq_true, if_false, Int.toNat_natCast, Int.toNat_zero, Int.toNat_one, Nat.zero_mul, Bool.not_true, Bool.not_false, decide_true, decide_false]); (with_reducible exact rfl))))) :
 S1 P ops Q rest d op ty ps af ts df w := by obtain ⟨hr, e⟩ := hr; exact ⟨⟨bB hr (e ▸ h)⟩⟩
theorem pB {dd : Option Nat} (h : wpList P ops Q (Oper.mk dd op ty ps af none :: rest) (Act.mk ts.toArray df) w) (h1 : (ops[j]?).bind (·.dst) = some e := by rfl) (h2 : ts.getD e undef = .bool b := by rfl) (h3 : b = want := by (with_reducible rfl)) :
 G1 P ops Q rest dd op ty ps af j want ts df w := ⟨⟨jC h1 h2 (fun _ => h) (fun h' => (by rw [h3] at h'; cases want <;> cases h'))⟩⟩
theorem uY (h : wpList P ops Q rest (Act.mk ts'.toArray df) w) (h1 : (ops[j]?).bind (·.dst) = some e := by rfl) (h2 : ts.getD e undef = .bool b := by rfl) (h3 : b = !want := by (first | (with_reducible exact (rfl : true = !false)) | (with_reducible exact (rfl : false = !true)) | (exact Bool.not_false.symm) | (exact Bool.not_true.symm))) (e : ts.set d undef = ts' := by ((simp only [List.set_cons_succ, List.set_cons_zero, List.getD_cons_succ, List.getD_cons_zero, List.length_map, if_true, Bool.false_eq_true, if_false, Int.toNat_natCast, Int.toNat_zero, Int.toNat_one, Nat.zero_mul, Bool.not_true, Bool.not_false, decide_true, decide_false]); (with_reducible exact rfl))) :
 G1 P ops Q rest (some d) op ty ps af j want ts df w := ⟨⟨uX h1 h2 h3 (e ▸ h)⟩⟩
theorem uZ (h : wpList P ops Q rest (Act.mk ts'.toArray df) w) (h1 : (ops[j]?).bind (·.dst) = some e := by rfl) (h2 : ts.getD e undef = undef := by rfl) (e : ts.set d undef = ts' := by ((simp only [List.set_cons_succ, List.set_cons_zero, List.getD_cons_succ, List.getD_cons_zero, List.length_map, if_true, Bool.false_eq_true, if_false, Int.toNat_natCast, Int.toNat_zero, Int.toNat_one, Nat.zero_mul, Bool.not_true, Bool.not_false, decide_true, decide_false]); (with_reducible exact rfl))) :
 G1 P ops Q rest (some d) op ty ps af j want ts df w := ⟨⟨AV ⟨h1, h2⟩ (e ▸ h)⟩⟩
theorem vB (h : wpList P ops Q rest (Act.mk ts.toArray df) w) (h1 : (ops[j]?).bind (·.dst) = some e := by rfl) (h2 : ts.getD e undef = .bool b := by rfl) (h3 : b = !want := by (first | (with_reducible exact (rfl : true = !false)) | (with_reducible exact (rfl : false = !true)) | (exact Bool.not_false.symm) | (exact Bool.not_true.symm))) :
 G1 P ops Q rest none op ty ps af j want ts df w := ⟨⟨wR (GV.mk h1 h2 ⟨fun h' => (by rw [h3] at h'; cases want <;> cases h'), fun _ => h⟩)⟩⟩
theorem uD (k1 : p1 → wpList P ops Q (Oper.mk (some d) op ty ps af none :: rest) (Act.mk t1.toArray df) w) (k0 : p0 → wpList P ops Q rest (Act.mk t0.toArray df) w)
 (h1 : (ops[j]?).bind (·.dst) = some e := by rfl) (h2 : ts.getD e undef = .bool b := by rfl) (hp1 : (b = want) = p1 := by ((first | (simp only [decide_eq_true_eq, decide_eq_false_iff_not, Bool.not_true, Bool.not_false]; (with_reducible exact rfl)) | (with_reducible exact rfl)))) (hp0 : (b = !want) = p0 := by ((first | (simp only [decide_eq_true_eq, decide_eq_false_iff_not, Bool.not_true, Bool.not_false]; (with_reducible exact rfl)) | (with_reducible exact rfl))))
 (e1 : b = want → ts = t1 := by (intro hcW; (try simp only [hcW, Bool.not_true, Bool.not_false]); (try simp only [List.set_cons_succ, List.set_cons_zero, List.getD_cons_succ, List.getD_cons_zero, List.length_map, if_true, Bool.false_eq_true, if_false, Int.toNat_natCast, Int.toNat_zero, Int.toNat_one, Nat.zero_mul, Bool.not_true, Bool.not_false, decide_true, decide_false]); (with_reducible exact rfl))) (e0 : b = !want → ts.set d undef = t0 := by (intro hcW; (try simp only [hcW, Bool.not_true, Bool.not_false]); (try simp only [List.set_cons_succ, List.set_cons_zero, List.getD_cons_succ, List.getD_cons_zero, List.length_map, if_true, Bool.false_eq_true, if_false, Int.toNat_natCast, Int.toNat_zero, Int.toNat_one, Nat.zero_mul, Bool.not_true, Bool.not_false, decide_true, decide_false]); (with_reducible exact rfl))) : G1 P ops Q rest (some d) op ty ps af j want ts df w :=
 ⟨⟨AW ⟨h1, h2, fun h => e1 h ▸ k1 (hp1 ▸ h), fun h => e0 h ▸ k0 (hp0 ▸ h)⟩⟩⟩
theorem uE (k1 : p1 → wpList P ops Q (Oper.mk none op ty ps af none :: rest) (Act.mk t1.toArray df) w) (k0 : p0 → wpList P ops Q rest (Act.mk t0.toArray df) w)
 (h1 : (ops[j]?).bind (·.dst) = some e := by rfl) (h2 : ts.getD e undef = .bool b := by rfl) (hp1 : (b = want) = p1 := by ((first | (simp only [decide_eq_true_eq, decide_eq_false_iff_not, Bool.not_true, Bool.not_false]; (with_reducible exact rfl)) | (with_reducible exact rfl)))) (hp0 : (b = !want) = p0 := by ((first | (simp only [decide_eq_true_eq, decide_eq_false_iff_not, Bool.not_true, Bool.not_false]; (with_reducible exact rfl)) | (with_reducible exact rfl))))
 (e1 : b = want → ts = t1 := by (intro hcW; (try simp only [hcW, Bool.not_true, Bool.not_false]); (try simp only [List.set_cons_succ, List.set_cons_zero, List.getD_cons_succ, List.getD_cons_zero, List.length_map, if_true, Bool.false_eq_true, if_false, Int.toNat_natCast, Int.toNat_zero, Int.toNat_one, Nat.zero_mul, Bool.not_true, Bool.not_false, decide_true, decide_false]); (with_reducible exact rfl))) (e0 : b = !want → ts = t0 := by (intro hcW; (try simp only [hcW, Bool.not_true, Bool.not_false]); (try simp only [List.set_cons_succ, List.set_cons_zero, List.getD_cons_succ, List.getD_cons_zero, List.length_map, if_true, Bool.false_eq_true, if_false, Int.toNat_natCast, Int.toNat_zero, Int.toNat_one, Nat.zero_mul, Bool.not_true, Bool.not_false, decide_true, decide_false]); (with_reducible exact rfl))) : G1 P ops Q rest none op ty ps af j want ts df w :=
 ⟨⟨wR ⟨h1, h2, fun h => e1 h ▸ k1 (hp1 ▸ h), fun h => e0 h ▸ k0 (hp0 ▸ h)⟩⟩⟩
structure Sq (P : Program) (ops : Array Oper) (C : World → Prop) (QQ : Act → Prop) (rest : List Oper) (o : Oper) (ts : List Value) (df : List Deferred) : Prop where
 out : wpQuiet P ops C QQ (o :: rest) (Act.mk ts.toArray df)
structure Q1 (P : Program) (ops : Array Oper) (C : World → Prop) (QQ : Act → Prop) (rest : List Oper) (d : Nat) (op : Op) (ty : TypeId) (ps : String) (af : Array Edge) (ts : List Value) (df : List Deferred) : Prop where
 out : Sq P ops C QQ rest (Oper.mk (some d) op ty ps af none) ts df
structure QG (P : Program) (ops : Array Oper) (C : World → Prop) (QQ : Act → Prop) (rest : List Oper) (d : Nat) (op : Op) (ty : TypeId) (ps : String) (af : Array Edge) (j : Nat) (want : Bool) (ts : List Value) (df : List Deferred) : Prop where
 out : Sq P ops C QQ rest (Oper.mk (some d) op ty ps af (some (j, want))) ts df
inductive SRq (P : Program) (o : Oper) (ts : List Value) (df : List Deferred) (C : World → Prop) (d : Nat) (ts' : List Value) : Prop
 | mk {v : Value} (h1 : ∀ w, C w → Runs P o (Act.mk ts.toArray df) w v) (h2 : ts.set d v = ts') : SRq P o ts df C d ts'
variable {C : World → Prop} {QQ : Act → Prop}
theorem EW (h : Sq P ops C QQ rest o ts df) : wpQuiet P ops C QQ (o :: rest) (Act.mk ts.toArray df) := h.out
theorem EX (h : Q1 P ops C QQ rest d op ty ps af ts df) : Sq P ops C QQ rest (Oper.mk (some d) op ty ps af none) ts df := h.out
theorem EY (h : QG P ops C QQ rest d op ty ps af j want ts df) : Sq P ops C QQ rest (Oper.mk (some d) op ty ps af (some (j, want))) ts df := h.out
theorem EZ (h : wpQuiet P ops C QQ (Oper.mk (some d) op ty ps af none :: rest) (Act.mk ts.toArray df)) (h1 : (ops[j]?).bind (·.dst) = some e := by rfl) (h2 : ts.getD e undef = .bool b := by rfl) (h3 : b = want := by (with_reducible rfl)) : QG P ops C QQ rest d op ty ps af j want ts df := by
 refine ⟨⟨?_⟩⟩
 have hw := nE (op := op) (ty := ty) (ps := ps) (af := af) (o := some d) h1 h2 h3
 unfold wpQuiet at h ⊢
 rw [if_pos hw]
 rw [if_pos (by simp [Region.wanted])] at h
 exact h
theorem FA (h : wpQuiet P ops C QQ rest (Act.mk ts'.toArray df)) (h1 : (ops[j]?).bind (·.dst) = some e := by rfl) (h2 : ts.getD e undef = .bool b := by rfl) (h3 : b = !want := by (first | (with_reducible exact (rfl : true = !false)) | (with_reducible exact (rfl : false = !true)) | (exact Bool.not_false.symm) | (exact Bool.not_true.symm))) (e : ts.set d undef = ts' := by ((simp only [List.set_cons_succ, List.set_cons_zero, List.getD_cons_succ, List.getD_cons_zero, List.length_map, if_true, Bool.false_eq_true, if_false, Int.toNat_natCast, Int.toNat_zero, Int.toNat_one, Nat.zero_mul, Bool.not_true, Bool.not_false, decide_true, decide_false]); (with_reducible exact rfl))) : QG P ops C QQ rest d op ty ps af j want ts df :=
 ⟨⟨pA h1 h2 h3 (e ▸ h)⟩⟩
theorem FB (h : wpQuiet P ops C QQ rest (Act.mk ts'.toArray df)) (h1 : (ops[j]?).bind (·.dst) = some e := by rfl) (h2 : ts.getD e undef = undef := by rfl) (e : ts.set d undef = ts' := by ((simp only [List.set_cons_succ, List.set_cons_zero, List.getD_cons_succ, List.getD_cons_zero, List.length_map, if_true, Bool.false_eq_true, if_false, Int.toNat_natCast, Int.toNat_zero, Int.toNat_one, Nat.zero_mul, Bool.not_true, Bool.not_false, decide_true, decide_false]); (with_reducible exact rfl))) : QG P ops C QQ rest d op ty ps af j want ts df :=
 ⟨⟨rD (oZ ⟨h1, h2⟩) (e ▸ h)⟩⟩
theorem FC {a : Act} (h : QQ a) : wpQuiet P ops C QQ [] a := uA h
end
section
variable {P : Program} {Q : Exit → Act → World → Prop} {S : World → Prop} {l : List Oper} {ts : List Value} {df : List Deferred} {d : Nat} {ty : TypeId} {ps : String} {af : Array Edge} {g : Option (Nat × Bool)} {w : World} {fuel : Nat} {listed : List Bool}
theorem tk (i : Nat) {fuel2 : Nat} {op : Op} {v : Value} (h : wpAnyH P .any l.toArray Q S fuel (listed.set i true).toArray (Act.mk (ts.set d v).toArray df) w)
 (hi : l[i]? = some (Oper.mk (some d) op ty ps af g) := by rfl) (hfu : fuel2 = fuel + 1 := by rfl) (hs : Region.noSelect l.toArray = true := by decide +kernel) (hf : Region.free .any l.toArray listed.toArray i = true := by decide +kernel) (hr : (Region.ready .any l.toArray listed.toArray).contains i = true := by decide +kernel)
 (hw : Region.wanted (Oper.mk (some d) op ty ps af g) (yielded l.toArray ts.toArray) = true := by rfl) (hS : S w := by (repeat (first | (with_reducible assumption) | exact Ext.refl _ | (refine Ext.trans ?_ (by with_reducible assumption)))))
 (hy : ∀ w', S w' → Runs P (Oper.mk (some d) op ty ps af g) (Act.mk ts.toArray df) w' v := by (intro _ _; exact rn)) (hQ : ∀ c a w, Q (.panic c) (a.put (some d) v) w → Q (.panic c) a w := by exact fun _ _ _ h => h) : wpAnyH P .any l.toArray Q S fuel2 listed.toArray (Act.mk ts.toArray df) w :=
 bI hi hfu hs hf hr hw hS hy hQ h
theorem tsk (i : Nat) {fuel2 : Nat} {op : Op} (h : wpAnyH P .any l.toArray Q S fuel (listed.set i true).toArray (Act.mk (ts.set d undef).toArray df) w)
 (hi : l[i]? = some (Oper.mk (some d) op ty ps af g) := by rfl) (hfu : fuel2 = fuel + 1 := by rfl) (hs : Region.noSelect l.toArray = true := by decide +kernel) (hf : Region.free .any l.toArray listed.toArray i = true := by decide +kernel) (hr : (Region.ready .any l.toArray listed.toArray).contains i = true := by decide +kernel)
 (hQ : ∀ c a w, Q (.panic c) (a.put (some d) undef) w → Q (.panic c) a w := by exact fun _ _ _ h => h) (hw : Region.wanted (Oper.mk (some d) op ty ps af g) (yielded l.toArray ts.toArray) = false := by rfl) (hS : S w := by (repeat (first | (with_reducible assumption) | exact Ext.refl _ | (refine Ext.trans ?_ (by with_reducible assumption))))) : wpAnyH P .any l.toArray Q S fuel2 listed.toArray (Act.mk ts.toArray df) w :=
 wT hi hfu hs hf hr hQ hw hS h
end
structure Hid (G : Prop) : Prop where
 out : G
section
variable {P : Program} {ops : Array Oper} {Q : Exit → Act → World → Prop} {rest : List Oper} {o : Oper} {ts : List Value} {df : List Deferred} {w : World} {C : World → Prop} {QQ : Act → Prop} {l : List Oper} {a : Act}
theorem gE {G' : Prop} (h : G') (e : Hid G' → St P ops Q rest o ts df w := by (intro hk; (first | (refine kW ?_; refine wU ?_) | (refine mL ?_; first | refine pB ?_ | refine uY ?_ | refine vB ?_ | refine uZ ?_)); (repeat ((with_reducible refine aG ?_); (first | (refine kW ?_; refine wU ?_) | (refine mL ?_; first | refine pB ?_ | refine uY ?_ | refine vB ?_ | refine uZ ?_)))); exact hk.out)) : St P ops Q rest o ts df w := e ⟨h⟩
structure Qh (P : Program) (ops : Array Oper) (C : World → Prop) (QQ : Act → Prop) (l : List Oper) (a : Act) : Prop where
 out : wpQuiet P ops C QQ l a
theorem yW (h : Qh P ops C QQ l a) : wpQuiet P ops C QQ l a := h.out
theorem aK {G1 G0 p1 p0 : Prop} (h1 : p1 → G1) (h0 : p0 → G0) (e : (p1 → G1) → (p0 → G0) → St P ops Q rest o ts df w := by (intro hk1 hk0; refine mL ?_; first | exact uD hk1 hk0 | exact uE hk1 hk0)) : St P ops Q rest o ts df w := e h1 h0
structure NoOp (G G' : Prop) : Prop where
 out : G = G'
theorem wV : NoOp (wpList P ops Q (o :: rest) (Act.mk ts.toArray df) w) (wpList P ops Q (o :: rest) (Act.mk ts.toArray df) w) := ⟨rfl⟩
end
theorem aJ {G G' : Prop} (h : G') (e : NoOp G G' := by ((fail_if_success (with_reducible exact wV)); exact ⟨rfl⟩)) : G := e.out.mpr h
end Go.Proofs.X
set_option linter.unusedVariables false
set_option linter.unusedSimpArgs false
namespace Go.Proofs.X
open Go.RowKit
set_option maxRecDepth 100000
section
variable {P : Program} {w : World} {ts : List Value} {df : List Deferred} {d : Option Nat} {ty : TypeId} {ps : String} {af : Array Edge} {g : Option (Nat × Bool)}
theorem Runs.fieldLitK {s : TypeId} {m n b o : Nat} (k : Nat) (h : ts.getD m undef = .pointer (some ⟨b, o, none⟩)) (hf : eK P s n (n + k) = true) :
 Runs P (Oper.mk d (.fieldAddr s (.tmp m) n) ty ps af g) (Act.mk ts.toArray df) w (aW (ts.getD m undef) (n + k)) := by
 obtain ⟨fs, f, i, ht, hf, ho, hie, hz⟩ := eL hf
 have e1 : (Act.mk ts.toArray df).eval (.tmp m) = .pointer (some ⟨b, o, none⟩) := by rw [cT]; exact h
 constructor
 rw [h]
 simp [execOp, e1, Instr.fieldAt, Instr.sureAddr, run_underlying ht, hf, fieldPlace, sizeOf, typeInfo, hie, hz, aW, ho]
theorem Runs.isNilN {t u : TypeId} {x y : Operand} {a : Act} (hx : a.eval x = .pointer none) (hy : a.eval y = .pointer none) (ht : P.underlying t = some (.pointer (P.pointee t))) :
 Runs P (Oper.mk d (.binOp .eql t x y u) ty ps af g) a w (.bool true) := by
 constructor
 simp [execOp, hx, hy, eqGuard, run_eql_pointer_nil w t none ht]
theorem Runs.isNilS {t u : TypeId} {x y : Operand} {a : Act} {p : Addr} (hx : a.eval x = .pointer (some p)) (hy : a.eval y = .pointer none) (ht : P.underlying t = some (.pointer (P.pointee t))) :
 Runs P (Oper.mk d (.binOp .eql t x y u) ty ps af g) a w (.bool false) := by
 constructor
 simp [execOp, hx, hy, eqGuard, run_eql_pointer_nil w t (some p) ht]
theorem Runs.notNilN {t u : TypeId} {x y : Operand} {a : Act} (hx : a.eval x = .pointer none) (hy : a.eval y = .pointer none) (ht : P.underlying t = some (.pointer (P.pointee t))) :
 Runs P (Oper.mk d (.binOp .neq t x y u) ty ps af g) a w (.bool false) := by
 constructor
 simp [execOp, hx, hy, eqGuard, run_neq_pointer_nil w t none ht]
theorem Runs.notNilS {t u : TypeId} {x y : Operand} {a : Act} {p : Addr} (hx : a.eval x = .pointer (some p)) (hy : a.eval y = .pointer none) (ht : P.underlying t = some (.pointer (P.pointee t))) :
 Runs P (Oper.mk d (.binOp .neq t x y u) ty ps af g) a w (.bool true) := by
 constructor
 simp [execOp, hx, hy, eqGuard, run_neq_pointer_nil w t (some p) ht]
end
theorem DD {P : Program} {o : Oper} {a : Act} {w : World} {v : Value} (h : Runs P o a w v := by (first | exact rn | ((apply Runs.fieldLitK (k := 1)); (rfl); (decide +kernel)) | ((apply Runs.fieldLitK (k := 6)); (rfl); (decide +kernel)) | ((apply Runs.fieldLitK (k := 4)); (rfl); (decide +kernel)) | ((apply Runs.fieldLitK (k := 3)); (rfl); (decide +kernel)) | ((apply Runs.isNilN); (rfl); (rfl); (kernel_rfl)) | ((apply Runs.isNilS); (rfl); (rfl); (kernel_rfl)) | ((apply Runs.notNilN); (rfl); (rfl); (kernel_rfl)) | ((apply Runs.notNilS); (rfl); (rfl); (kernel_rfl)))) : Runs P o a w v := h
section
variable {P : Program} {ops : Array Oper} {Q : Exit → Act → World → Prop} {rest : List Oper} {o : Oper} {ts ts' t1 t0 : List Value} {df : List Deferred} {w : World} {d e j : Nat} {op : Op} {ty : TypeId} {ps : String} {af : Array Edge} {b want : Bool} {v : Value} {p1 p0 : Prop} {C : World → Prop} {QQ : Act → Prop} {l : List Oper} {a : Act}
theorem iN (h : wpList P ops Q rest (Act.mk ts'.toArray df) w) (hr : SR P (Oper.mk (some d) op ty ps af none) ts df w d ts' := by (apply SR.mk; (exact DD); (((simp only [List.set_cons_succ, List.set_cons_zero, List.getD_cons_succ, List.getD_cons_zero, List.length_map, if_true, Bool.false_eq_true, if_false, Int.toNat_natCast, Int.toNat_zero, Int.toNat_one, Nat.zero_mul, Bool.not_true, Bool.not_false, decide_true, decide_false]); (with_reducible exact rfl))))) :
 S1 P ops Q rest d op ty ps af ts df w := by obtain ⟨hr, e⟩ := hr; exact ⟨⟨bB hr (e ▸ h)⟩⟩
theorem DN (h : wpQuiet P ops C QQ rest (Act.mk ts'.toArray df)) (hr : SRq P (Oper.mk (some d) op ty ps af none) ts df C d ts' := by (apply SRq.mk; (intro _ _; exact DD); (((simp only [List.set_cons_succ, List.set_cons_zero, List.getD_cons_succ, List.getD_cons_zero, List.length_map, if_true, Bool.false_eq_true, if_false, Int.toNat_natCast, Int.toNat_zero, Int.toNat_one, Nat.zero_mul, Bool.not_true, Bool.not_false, decide_true, decide_false]); (with_reducible exact rfl))))) : Q1 P ops C QQ rest d op ty ps af ts df := by
 obtain ⟨hr, e⟩ := hr; exact ⟨⟨rK hr (e ▸ h)⟩⟩
theorem aL {G' : Prop} (h : G') (e : Hid G' → St P ops Q rest o ts df w := by (intro hk; (first | (refine kW ?_; refine iN ?_) | (refine mL ?_; first | refine pB ?_ | refine uY ?_ | refine vB ?_ | refine uZ ?_)); (repeat ((with_reducible refine aG ?_); (first | (refine kW ?_; refine iN ?_) | (refine mL ?_; first | refine pB ?_ | refine uY ?_ | refine vB ?_ | refine uZ ?_)))); exact hk.out)) : St P ops Q rest o ts df w := e ⟨h⟩
theorem yX {G' : Prop} (h : G') (e : Hid G' → wpQuiet P ops C QQ l a := by (intro hk; (repeat (first | ((with_reducible refine EW ?_); (first | (refine EX ?_; refine DN ?_) | (refine EY ?_; first | refine EZ ?_ | refine FA ?_ | refine FB ?_))) | (with_reducible refine FC ?_))); exact hk.out)) : Qh P ops C QQ l a := ⟨e ⟨h⟩⟩
end
inductive TkI1 (P : Program) (Q : Exit → Act → World → Prop) (k : Nat) (F : World → Prop) (l : List Oper) (ts : List Value) (df : List Deferred) (listed : List Bool) (fuel2 i fuel : Nat) (ts' : List Value) : Prop
 | mk {d op ty ps af g v} (hi : l[i]? = some (Oper.mk (some d) op ty ps af g)) (hfu : fuel2 = fuel + 1) (hik : decide (i ≠ k) = true) (hk : qJ .any l.toArray l.length k i = true) (hs : Region.noSelect l.toArray = true) (hf : Region.free .any l.toArray listed.toArray i = true) (hr : (Region.ready .any l.toArray listed.toArray).contains i = true)
   (hw : Region.wanted (Oper.mk (some d) op ty ps af g) (yielded l.toArray ts.toArray) = true) (hy : ∀ w', F w' → Runs P (Oper.mk (some d) op ty ps af g) (Act.mk ts.toArray df) w' v) (hQ : ∀ c a w, Q (.panic c) (a.put (some d) v) w → Q (.panic c) a w) (e : ts.set d v = ts') : TkI1 P Q k F l ts df listed fuel2 i fuel ts'
theorem iQ (i : Nat) {P : Program} {Q : Exit → Act → World → Prop} {k : Nat} {F : World → Prop} {l : List Oper} {ts ts' : List Value} {df : List Deferred} {listed : List Bool} {fuel2 fuel : Nat} {w : World} (h : yS P Q k F l fuel (listed.set i true) (Act.mk ts'.toArray df) w)
 (e : TkI1 P Q k F l ts df listed fuel2 i fuel ts' := by refine TkI1.mk (by rfl) (by rfl) (by decide +kernel) (by decide +kernel) (by decide +kernel) (by decide +kernel) (by decide +kernel) (by rfl) (by (intro _ _; exact DD)) (fun _ _ _ h => h) (by ((simp only [List.set_cons_succ, List.set_cons_zero, List.getD_cons_succ, List.getD_cons_zero, List.length_map, if_true, Bool.false_eq_true, if_false, Int.toNat_natCast, Int.toNat_zero, Int.toNat_one, Nat.zero_mul, Bool.not_true, Bool.not_false, decide_true, decide_false]); (with_reducible exact rfl)))) : yS P Q k F l fuel2 listed (Act.mk ts.toArray df) w := by
 obtain ⟨hi, hfu, hik, hk, hs, hf, hr, hw, hy, hQ, e⟩ := e
 exact aV hi hfu hik hk hs hf hr hw hy hQ (e ▸ h)
section
variable {P : Program} {Q : Exit → Act → World → Prop} {S : World → Prop} {l : List Oper} {ts : List Value} {df : List Deferred} {d : Nat} {ty : TypeId} {ps : String} {af : Array Edge} {g : Option (Nat × Bool)} {w : World} {fuel : Nat} {listed : List Bool}
theorem fK (i : Nat) {fuel2 : Nat} {op : Op} {v : Value} (h : wpAnyH P .any l.toArray Q S fuel (listed.set i true).toArray (Act.mk (ts.set d v).toArray df) w)
 (hi : l[i]? = some (Oper.mk (some d) op ty ps af g) := by rfl) (hfu : fuel2 = fuel + 1 := by rfl) (hs : Region.noSelect l.toArray = true := by decide +kernel) (hf : Region.free .any l.toArray listed.toArray i = true := by decide +kernel) (hr : (Region.ready .any l.toArray listed.toArray).contains i = true := by decide +kernel)
 (hw : Region.wanted (Oper.mk (some d) op ty ps af g) (yielded l.toArray ts.toArray) = true := by rfl) (hS : S w := by (repeat (first | (with_reducible assumption) | exact Ext.refl _ | (refine Ext.trans ?_ (by with_reducible assumption)))))
 (hy : ∀ w', S w' → Runs P (Oper.mk (some d) op ty ps af g) (Act.mk ts.toArray df) w' v := by (intro _ _; exact DD)) (hQ : ∀ c a w, Q (.panic c) (a.put (some d) v) w → Q (.panic c) a w := by exact fun _ _ _ h => h) : wpAnyH P .any l.toArray Q S fuel2 listed.toArray (Act.mk ts.toArray df) w :=
 bI hi hfu hs hf hr hw hS hy hQ h
end
end Go.Proofs.X
set_option linter.unusedVariables false
set_option linter.unusedSimpArgs false
namespace Go.Proofs.X
open Go.RowKit
def vD (b : Bool) : Nat := if b = true then 0 else 1
section
variable {P : Program} {Q : Exit → Act → World → Prop} {S : World → Prop} {l : List Oper} {ts : List Value} {df : List Deferred} {w : World} {fuel : Nat} {listed : List Bool}
theorem yY {ops : Array Oper} {Inv : Nat → List Bool → Act → World → Prop}
 (hs : ∀ m L a w, Inv (m + 1) L a w → 0 < (Region.ready .any ops L.toArray).length ∧ ∀ i ∈ Region.ready .any ops L.toArray, wpOp P ops Q i (fun a' w' => S w' ∧ Inv m (L.set i true) a' w') a w)
 (he : ∀ L a w, Inv 0 L a w → wpAnyH P .any ops Q S fuel L.toArray a w) : ∀ m L a w, Inv m L a w → wpAnyH P .any ops Q S (fuel + m) L.toArray a w := by
 intro m
 induction m with
 | zero => exact he
 | succ m ih =>
  intro L a w h
  obtain ⟨h1, h2⟩ := hs m L a w h
  refine ⟨fun e => by rw [e] at h1; simp at h1, fun i hi => wpOp_mono (fun a' w' hh => ⟨hh.1, ?_⟩) (h2 i hi)⟩
  have := ih _ _ _ hh.2
  simpa using this
theorem hO {b : Bool} (h : vD b = 0) : b = true := by
 cases b with
 | true => rfl
 | false => simp [vD] at h
theorem yZ (i1 i2 i3 i4 i5 : Nat) (d1 d2 d3 d4 : Nat) (c q1 q2 q3 q4 q5 : Bool → Bool → Bool → Bool → Bool → Bool) (F : Bool → Bool → Bool → Bool → Bool → Value → Value → Value → Value → World → Prop)
 {fuel2 : Nat} {o1 o2 o3 o4 o5 : Oper}
 (hF : F false false false false false (List.getD ts d1 undef) (List.getD ts d2 undef) (List.getD ts d3 undef) (List.getD ts d4 undef) w)
 (h1 : ∀ b1 b2 b3 b4 b5 : Bool, ∀ v1 v2 v3 v4 : Value, ∀ w1 : World, (q1 false b2 b3 b4 b5 && c false b2 b3 b4 b5) = true → F false b2 b3 b4 b5 v1 v2 v3 v4 w1 → wpList P l.toArray (wM Q fun a w2 => S w2 ∧ ∃ u, a = Act.mk (List.set (List.set (List.set (List.set ts d1 u) d2 v2) d3 v3) d4 v4).toArray df ∧ F true b2 b3 b4 b5 u v2 v3 v4 w2) [o1] (Act.mk (List.set (List.set (List.set (List.set ts d1 v1) d2 v2) d3 v3) d4 v4).toArray df) w1)
 (h2 : ∀ b1 b2 b3 b4 b5 : Bool, ∀ v1 v2 v3 v4 : Value, ∀ w1 : World, (q2 b1 false b3 b4 b5 && c b1 false b3 b4 b5) = true → F b1 false b3 b4 b5 v1 v2 v3 v4 w1 → wpList P l.toArray (wM Q fun a w2 => S w2 ∧ ∃ u, a = Act.mk (List.set (List.set (List.set (List.set ts d1 v1) d2 u) d3 v3) d4 v4).toArray df ∧ F b1 true b3 b4 b5 v1 u v3 v4 w2) [o2] (Act.mk (List.set (List.set (List.set (List.set ts d1 v1) d2 v2) d3 v3) d4 v4).toArray df) w1)
 (h3 : ∀ b1 b2 b3 b4 b5 : Bool, ∀ v1 v2 v3 v4 : Value, ∀ w1 : World, (q3 b1 b2 false b4 b5 && c b1 b2 false b4 b5) = true → F b1 b2 false b4 b5 v1 v2 v3 v4 w1 → wpList P l.toArray (wM Q fun a w2 => S w2 ∧ ∃ u, a = Act.mk (List.set (List.set (List.set (List.set ts d1 v1) d2 v2) d3 u) d4 v4).toArray df ∧ F b1 b2 true b4 b5 v1 v2 u v4 w2) [o3] (Act.mk (List.set (List.set (List.set (List.set ts d1 v1) d2 v2) d3 v3) d4 v4).toArray df) w1)
 (h4 : ∀ b1 b2 b3 b4 b5 : Bool, ∀ v1 v2 v3 v4 : Value, ∀ w1 : World, (q4 b1 b2 b3 false b5 && c b1 b2 b3 false b5) = true → F b1 b2 b3 false b5 v1 v2 v3 v4 w1 → wpList P l.toArray (wM Q fun a w2 => S w2 ∧ ∃ u, a = Act.mk (List.set (List.set (List.set (List.set ts d1 v1) d2 v2) d3 v3) d4 u).toArray df ∧ F b1 b2 b3 true b5 v1 v2 v3 u w2) [o4] (Act.mk (List.set (List.set (List.set (List.set ts d1 v1) d2 v2) d3 v3) d4 v4).toArray df) w1)
 (h5 : ∀ b1 b2 b3 b4 b5 : Bool, ∀ v1 v2 v3 v4 : Value, ∀ w1 : World, (q5 b1 b2 b3 b4 false && c b1 b2 b3 b4 false) = true → F b1 b2 b3 b4 false v1 v2 v3 v4 w1 → wpList P l.toArray (wM Q fun a w2 => S w2 ∧ a = Act.mk (List.set (List.set (List.set (List.set ts d1 v1) d2 v2) d3 v3) d4 v4).toArray df ∧ F b1 b2 b3 b4 true v1 v2 v3 v4 w2) [o5] (Act.mk (List.set (List.set (List.set (List.set ts d1 v1) d2 v2) d3 v3) d4 v4).toArray df) w1)
 (hG : ∀ v1 v2 v3 v4 : Value, ∀ w1 : World, F true true true true true v1 v2 v3 v4 w1 → wpAnyH P .any l.toArray Q S fuel (List.set (List.set (List.set (List.set (List.set listed i1 true) i2 true) i3 true) i4 true) i5 true).toArray (Act.mk (List.set (List.set (List.set (List.set ts d1 v1) d2 v2) d3 v3) d4 v4).toArray df) w1)
 (hi : l[i1]? = some o1 ∧ l[i2]? = some o2 ∧ l[i3]? = some o3 ∧ l[i4]? = some o4 ∧ l[i5]? = some o5 := by refine ⟨rfl, rfl, rfl, rfl, rfl⟩)
 (hr : (∀ b1 b2 b3 b4 b5 : Bool, c b1 b2 b3 b4 b5 = true → (b1 && b2 && b3 && b4 && b5) = false → (decide (0 < (Region.ready .any l.toArray (List.set (List.set (List.set (List.set (List.set listed i1 b1) i2 b2) i3 b3) i4 b4) i5 b5).toArray).length) && (Region.ready .any l.toArray (List.set (List.set (List.set (List.set (List.set listed i1 b1) i2 b2) i3 b3) i4 b4) i5 b5).toArray).all fun i => (i == i1 && (!b1 && ((q1 false b2 b3 b4 b5 && c false b2 b3 b4 b5) && c true b2 b3 b4 b5))) || (i == i2 && (!b2 && ((q2 b1 false b3 b4 b5 && c b1 false b3 b4 b5) && c b1 true b3 b4 b5))) || (i == i3 && (!b3 && ((q3 b1 b2 false b4 b5 && c b1 b2 false b4 b5) && c b1 b2 true b4 b5))) || (i == i4 && (!b4 && ((q4 b1 b2 b3 false b5 && c b1 b2 b3 false b5) && c b1 b2 b3 true b5))) || (i == i5 && (!b5 && ((q5 b1 b2 b3 b4 false && c b1 b2 b3 b4 false) && c b1 b2 b3 b4 true)))) = true) := by decide +kernel) (hc0 : c false false false false false = true := by rfl)
 (hf : fuel2 = fuel + 5 := by rfl) (hn : i1 ≠ i2 ∧ i1 ≠ i3 ∧ i1 ≠ i4 ∧ i1 ≠ i5 ∧ i2 ≠ i3 ∧ i2 ≠ i4 ∧ i2 ≠ i5 ∧ i3 ≠ i4 ∧ i3 ≠ i5 ∧ i4 ≠ i5 := by decide) (hl0 : (List.set (List.set (List.set (List.set (List.set listed i1 false) i2 false) i3 false) i4 false) i5 false) = listed := by rfl) (ht0 : (List.set (List.set (List.set (List.set ts d1 (List.getD ts d1 undef)) d2 (List.getD ts d2 undef)) d3 (List.getD ts d3 undef)) d4 (List.getD ts d4 undef)) = ts := by rfl)
 : wpAnyH P .any l.toArray Q S fuel2 listed.toArray (Act.mk ts.toArray df) w := by
 obtain ⟨e1, e2, e3, e4, e5⟩ := hi
 obtain ⟨n1_2, n1_3, n1_4, n1_5, n2_3, n2_4, n2_5, n3_4, n3_5, n4_5⟩ := hn
 rw [hf]
 refine yY (Inv := fun m L a w => ∃ b1 b2 b3 b4 b5 : Bool, ∃ v1 v2 v3 v4 : Value, c b1 b2 b3 b4 b5 = true ∧ m = vD b1 + vD b2 + vD b3 + vD b4 + vD b5 ∧ L = (List.set (List.set (List.set (List.set (List.set listed i1 b1) i2 b2) i3 b3) i4 b4) i5 b5) ∧ a = Act.mk (List.set (List.set (List.set (List.set ts d1 v1) d2 v2) d3 v3) d4 v4).toArray df ∧ F b1 b2 b3 b4 b5 v1 v2 v3 v4 w) ?_ ?_ 5 listed _ w ⟨false, false, false, false, false, (List.getD ts d1 undef), (List.getD ts d2 undef), (List.getD ts d3 undef), (List.getD ts d4 undef), hc0, by rfl, hl0.symm, by rw [ht0], hF⟩
 ·rintro m L a w ⟨b1, b2, b3, b4, b5, v1, v2, v3, v4, hcc, hm, rfl, rfl, hf⟩
  have hb : (b1 && b2 && b3 && b4 && b5) = false := by
   cases hq : (b1 && b2 && b3 && b4 && b5) with
   | false => rfl
   | true =>
    exfalso
    simp only [Bool.and_eq_true] at hq
    obtain ⟨⟨⟨⟨p1, p2⟩, p3⟩, p4⟩, p5⟩ := hq
    subst p1 p2 p3 p4 p5
    simp [vD] at hm
  have hr := hr b1 b2 b3 b4 b5 hcc hb
  simp only [Bool.and_eq_true, decide_eq_true_eq, List.all_eq_true, Bool.or_eq_true, beq_iff_eq, Bool.not_eq_true'] at hr
  refine ⟨hr.1, fun i hi => ?_⟩
  rcases hr.2 i hi with ((((⟨rfl, rfl, c1, cc1⟩ | ⟨rfl, rfl, c2, cc2⟩) | ⟨rfl, rfl, c3, cc3⟩) | ⟨rfl, rfl, c4, cc4⟩) | ⟨rfl, rfl, c5, cc5⟩)
  ·refine wpOp_mono ?_ (gI (by simpa using e1) (h1 true b2 b3 b4 b5 v1 v2 v3 v4 w (Bool.and_eq_true_iff.2 c1) hf))
   rintro a w2 ⟨hS, u, rfl, hf2⟩
   refine ⟨hS, true, b2, b3, b4, b5, u, v2, v3, v4, cc1, ?_, ?_, rfl, hf2⟩
   ·simp only [vD, Bool.false_eq_true, if_true, if_false] at hm ⊢; omega
   ·rw [List.set_comm _ _ n1_5.symm, List.set_comm _ _ n1_4.symm, List.set_comm _ _ n1_3.symm, List.set_comm _ _ n1_2.symm, List.set_set]
  ·refine wpOp_mono ?_ (gI (by simpa using e2) (h2 b1 true b3 b4 b5 v1 v2 v3 v4 w (Bool.and_eq_true_iff.2 c2) hf))
   rintro a w2 ⟨hS, u, rfl, hf2⟩
   refine ⟨hS, b1, true, b3, b4, b5, v1, u, v3, v4, cc2, ?_, ?_, rfl, hf2⟩
   ·simp only [vD, Bool.false_eq_true, if_true, if_false] at hm ⊢; omega
   ·rw [List.set_comm _ _ n2_5.symm, List.set_comm _ _ n2_4.symm, List.set_comm _ _ n2_3.symm, List.set_set]
  ·refine wpOp_mono ?_ (gI (by simpa using e3) (h3 b1 b2 true b4 b5 v1 v2 v3 v4 w (Bool.and_eq_true_iff.2 c3) hf))
   rintro a w2 ⟨hS, u, rfl, hf2⟩
   refine ⟨hS, b1, b2, true, b4, b5, v1, v2, u, v4, cc3, ?_, ?_, rfl, hf2⟩
   ·simp only [vD, Bool.false_eq_true, if_true, if_false] at hm ⊢; omega
   ·rw [List.set_comm _ _ n3_5.symm, List.set_comm _ _ n3_4.symm, List.set_set]
  ·refine wpOp_mono ?_ (gI (by simpa using e4) (h4 b1 b2 b3 true b5 v1 v2 v3 v4 w (Bool.and_eq_true_iff.2 c4) hf))
   rintro a w2 ⟨hS, u, rfl, hf2⟩
   refine ⟨hS, b1, b2, b3, true, b5, v1, v2, v3, u, cc4, ?_, ?_, rfl, hf2⟩
   ·simp only [vD, Bool.false_eq_true, if_true, if_false] at hm ⊢; omega
   ·rw [List.set_comm _ _ n4_5.symm, List.set_set]
  ·refine wpOp_mono ?_ (gI (by simpa using e5) (h5 b1 b2 b3 b4 true v1 v2 v3 v4 w (Bool.and_eq_true_iff.2 c5) hf))
   rintro a w2 ⟨hS, rfl, hf2⟩
   refine ⟨hS, b1, b2, b3, b4, true, v1, v2, v3, v4, cc5, ?_, ?_, rfl, hf2⟩
   ·simp only [vD, Bool.false_eq_true, if_true, if_false] at hm ⊢; omega
   ·rw [List.set_set]
 ·rintro L a w ⟨b1, b2, b3, b4, b5, v1, v2, v3, v4, hcc, hm, rfl, rfl, hf⟩
  have p1 : b1 = true := hO (by omega)
  have p2 : b2 = true := hO (by omega)
  have p3 : b3 = true := hO (by omega)
  have p4 : b4 = true := hO (by omega)
  have p5 : b5 = true := hO (by omega)
  subst p1 p2 p3 p4 p5
  exact hG v1 v2 v3 v4 w hf
end
end Go.Proofs.X
set_option linter.unusedVariables false
set_option linter.unusedSimpArgs false
namespace Go.Proofs.X
open Go.RowKit
theorem kE {α : Type} [Inhabited α] (enc : α → List Value) (k : Nat) (hk : ∀ x, (enc x).length = k) (l : List α) : (Sort.flatK enc k l.toArray).toList = (l.map enc).flatten := by
 have hall : ∀ x ∈ l.map enc, x.length = k := by
  intro x hx
  obtain ⟨y, _, rfl⟩ := List.mem_map.1 hx
  exact hk y
 have hfl := aS hall
 have h : Sort.flatK enc k l.toArray = ((l.map enc).flatten).toArray := by
  refine Sort.ext_get! (by simp [hfl]) fun t ht => ?_
  have ht' : t < l.length * k := by simpa using ht
  rw [Sort.get_flatK _ _ _ t (by simpa using ht')]
  have k0 : 0 < k := by
   rcases Nat.eq_zero_or_pos k with h | h
   ·subst h; simp at ht'
   ·exact h
  have hd : t / k < l.length := Nat.div_lt_of_lt_mul (by rw [Nat.mul_comm]; exact ht')
  have hm : t % k < k := Nat.mod_lt _ k0
  have e1 : l.toArray[t / k]! = l[t / k] := by rw [getElem!_pos _ _ (by simpa using hd)]; simp
  rw [e1]
  have h1 := dZ hall (i := t / k) (j := t % k) (e := enc l[t / k]) (x := (enc l[t / k])[t % k]'(by rw [hk]; exact hm)) (by simp [hd]) (List.getElem?_eq_getElem (by rw [hk]; exact hm))
  rw [show t / k * k + t % k = t by rw [Nat.mul_comm]; exact Nat.div_add_mod t k] at h1
  have h2 : t < (l.map enc).flatten.length := (List.getElem?_eq_some_iff.1 h1).1
  rw [getElem!_pos _ t (by simpa using h2)]
  have h3 := (List.getElem?_eq_some_iff.1 h1).2
  simp only [List.getElem_toArray]
  rw [h3, getElem!_pos _ _ (by rw [hk]; exact hm)]
 rw [h]
theorem Own.holdsF {B k e g cap n : Nat} {w : World} {es : List (List Value)} (h : Own B k e w (.slice (some ⟨g, 0, none⟩) n cap) es) : Sort.Holds id w g 0 es.flatten.toArray := by
 rcases h.row.2 with ⟨h0, _⟩ | ⟨g', cap', cur, fz, hv, hb, hg, hfz, hnc, hcm, hcs, htake⟩
 ·cases h0
 ·simp only [Value.slice.injEq, Option.some.injEq, Addr.mk.injEq, and_true, true_and] at hv
  obtain ⟨rfl, _, rfl⟩ := hv
  have hlen := aS h.each
  have hck : es.length * k ≤ cap * k := Nat.mul_le_mul_right k hnc
  intro j hj
  have hj' : j < es.flatten.length := by simpa using hj
  have hjc : j < cur.size := by omega
  constructor
  ·rw [Nat.zero_add, cell_of_row w g j cur e fz hg]
   have := congrArg (·[j]?) htake
   simp only [List.getElem?_take, if_pos (show j < es.length * k by omega), List.getElem?_eq_getElem hj'] at this
   rw [← Array.getElem?_toList, this]
   rw [getElem!_pos _ j hj]
   simp
  ·rw [Nat.zero_add]; exact iY hg hfz hjc
theorem Own.putRowF {B k e g cap : Nat} {w : World} {es fs : List (List Value)} (h : Own B k e w (.slice (some ⟨g, 0, none⟩) es.length cap) es) (hl : fs.length = es.length) (hf : ∀ x ∈ fs, x.length = k) (n : Nat) (os : Array Obj) :
 Own B k e (Sort.grow (Sort.putRow id (Sort.ahead w n) g 0 fs.flatten.toArray) os) (.slice (some ⟨g, 0, none⟩) es.length cap) fs ∧ Mv (some g) w (Sort.grow (Sort.putRow id (Sort.ahead w n) g 0 fs.flatten.toArray) os) := by
 rcases h.row.2 with ⟨h0, _⟩ | ⟨g', cap', cur, fz, hv, hb, hg, hfz, hnc, hcm, hcs, htake⟩
 ·cases h0
 ·simp only [Value.slice.injEq, Option.some.injEq, Addr.mk.injEq, and_true, true_and] at hv
  obtain ⟨rfl, rfl⟩ := hv
  have hgs : g < w.heap.size := (Array.getElem?_eq_some_iff.1 hg).1
  have hg2 : (Sort.grow (Sort.putRow id (Sort.ahead w n) g 0 fs.flatten.toArray) os).heap[g]? = some (.cells (Sort.putCells id 0 fs.flatten.toArray cur) e fz) := by
   simp only [Sort.grow, Sort.putRow, Sort.mapBlock, Sort.ahead]
   rw [Array.getElem?_append_left (by simpa using hgs), Array.getElem?_modify, if_pos rfl, hg]
   rfl
  have hsz : (Sort.putCells id 0 fs.flatten.toArray cur).size = cur.size := by simp [Sort.putCells]
  have hlen := aS hf
  have hck : es.length * k ≤ cap * k := Nat.mul_le_mul_right k hnc
  refine ⟨⟨⟨hlen, .inr ⟨g, cap, _, fz, by rw [hl], hb, hg2, by rw [hsz]; exact hfz, by omega, hcm, by rw [hsz]; exact hcs, ?_⟩⟩, hf⟩, ⟨rfl, rfl, rfl, ?_, ?_, Nat.le_add_right _ _⟩⟩
  ·apply List.ext_getElem?
   intro j
   simp only [List.getElem?_take]
   by_cases hj : j < fs.length * k
   ·have hpk : fs.length * k = es.length * k := by rw [hl]
    have hjf : j < fs.flatten.length := by omega
    have hjc : j < cur.toList.length := by rw [Array.length_toList]; omega
    rw [if_pos hj, List.getElem?_eq_getElem hjf]
    simp only [Sort.putCells, Array.toList_mapIdx, List.getElem?_mapIdx]
    rw [List.getElem?_eq_getElem hjc, Option.map_some]
    have hc : (0 ≤ j ∧ j < 0 + fs.flatten.toArray.size) := by constructor; omega; simp only [List.size_toArray]; omega
    rw [if_pos hc]
    simp only [Nat.sub_zero, id]
    rw [getElem!_pos _ j (by simpa only [List.size_toArray] using hjf), List.getElem_toArray]
   ·rw [if_neg hj, List.getElem?_eq_none (by omega)]
  ·simp only [Sort.grow, Sort.putRow, Sort.mapBlock, Sort.ahead, Array.size_append, Array.size_modify]; omega
  ·intro k hk hne
   simp only [Sort.grow, Sort.putRow, Sort.mapBlock, Sort.ahead]
   rw [Array.getElem?_append_left (by simpa using hk), Array.getElem?_modify, if_neg (fun e => hne (by rw [e]))]
end Go.Proofs.X
namespace Go.Proofs.X
open Go
def vE : Nat → List UInt8 → Option (List (List UInt8))
 | _, [] => some []
 | 0, _ :: _ => none
 | f + 1, k :: t => if k.toNat < 1 ∨ 63 < k.toNat ∨ t.length < k.toNat then none else (vE f (t.drop k.toNat)).map (t.take k.toNat :: ·)
theorem kX : ∀ (f : Nat) (l : List UInt8), l.length ≤ f → vE f l = vE l.length l
 | 0, [], _ => rfl
 | f + 1, [], _ => rfl
 | f + 1, k :: t, h => by
   simp only [List.length_cons] at h ⊢
   unfold vE
   split
   ·rfl
   ·rw [kX f (t.drop k.toNat) (by simp; omega), kX t.length (t.drop k.toNat) (by simp)]
def dG (l : List UInt8) : Option (List (List UInt8)) := vE l.length l
theorem kY : dG [] = some [] := rfl
theorem eV (k : UInt8) (t : List UInt8) : dG (k :: t) = if k.toNat < 1 ∨ 63 < k.toNat ∨ t.length < k.toNat then none else (dG (t.drop k.toNat)).map (t.take k.toNat :: ·) := by
 unfold dG
 simp only [List.length_cons]
 rw [vE]
 split
 ·rfl
 ·rw [kX t.length (t.drop k.toNat) (by simp)]
def aU (n : List UInt8) : Option (List (List UInt8)) := if 254 < n.length then none else dG n
def kZ (b : UInt8) : UInt8 := if 65 ≤ b.toNat ∧ b.toNat ≤ 90 then b + 32 else b
def low (l : List UInt8) : List UInt8 := l.map kZ
def enc (ls : List (List UInt8)) : List UInt8 := (ls.map fun x => UInt8.ofNat x.length :: x).flatten
def fL (x : List UInt8) : Bool := decide (1 ≤ x.length) && decide (x.length ≤ 63)
def gJ (ls : List (List UInt8)) : Option (List UInt8) := if ls.all fL = true ∧ (enc ls).length ≤ 254 then some (enc ls) else none
def fold (n : List UInt8) : List UInt8 := match aU n with | none => n | some ls => (gJ (ls.map low)).getD []
def fM (l : List UInt8) (k : Nat) : List UInt8 := low (l.take k) ++ l.drop k
theorem hU (l : List UInt8) (k : Nat) : (fM l k).length = l.length := by simp [fM, low]; omega
theorem pC (l : List UInt8) : fM l 0 = l := by simp [fM, low]
theorem rM (l : List UInt8) : fM l l.length = low l := by simp [fM]
theorem nL (l : List UInt8) (k : Nat) (h : k < l.length) : (fM l k)[k]? = some l[k] := by
 have hm : (low (l.take k)).length = k := by simp [low]; omega
 rw [fM, List.getElem?_append_right (by omega), hm]
 simp [h]
theorem lA (l : List UInt8) (k : Nat) (h : k < l.length) : fM l (k + 1) = (fM l k).set k (kZ l[k]) := by
 have hm : (low (l.take k)).length = k := by simp [low]; omega
 have h1 : l.take (k + 1) = l.take k ++ [l[k]] := by rw [List.take_add_one, List.getElem?_eq_getElem h]; rfl
 have h2 : l.drop k = l[k] :: l.drop (k + 1) := List.drop_eq_getElem_cons h
 unfold fM
 rw [List.set_append_right _ _ (by omega), hm, h2, h1, Nat.sub_self, List.set_cons_zero]
 simp only [low, List.map_append, List.map_cons, List.map_nil, List.append_assoc, List.singleton_append]
theorem lB (l : List UInt8) (k : Nat) (h : k < l.length) (hs : kZ l[k] = l[k]) : fM l (k + 1) = fM l k := by
 rw [lA l k h, hs]
 apply List.ext_getElem?
 intro j
 by_cases hj : k = j
 ·subst hj; rw [List.getElem?_set_self (by rw [hU]; exact h), nL l k h]
 ·rw [List.getElem?_set_ne hj]
theorem qK {b : UInt8} (h : ¬ (65 ≤ b.toNat ∧ b.toNat ≤ 90)) : kZ b = b := by rw [kZ, if_neg h]
def jD {α : Type} (f : α → α) (l : List α) (k : Nat) : List α := (l.take k).map f ++ l.drop k
theorem lS {α : Type} (f : α → α) (l : List α) (k : Nat) : (jD f l k).length = l.length := by simp [jD]; omega
theorem pD {α : Type} (f : α → α) (l : List α) : jD f l 0 = l := by simp [jD]
theorem rN {α : Type} (f : α → α) (l : List α) : jD f l l.length = l.map f := by simp [jD]
theorem rO {α : Type} (f : α → α) (l : List α) (k : Nat) (h : k < l.length) : (jD f l k)[k]? = some l[k] := by
 have hm : ((l.take k).map f).length = k := by simp; omega
 rw [jD, List.getElem?_append_right (by omega), hm]
 simp [h]
theorem pE {α : Type} (f : α → α) (l : List α) (k : Nat) (h : k < l.length) : jD f l (k + 1) = (jD f l k).set k (f l[k]) := by
 have hm : ((l.take k).map f).length = k := by simp; omega
 have h1 : l.take (k + 1) = l.take k ++ [l[k]] := by rw [List.take_add_one, List.getElem?_eq_getElem h]; rfl
 have h2 : l.drop k = l[k] :: l.drop (k + 1) := List.drop_eq_getElem_cons h
 unfold jD
 rw [List.set_append_right _ _ (by omega), hm, h2, h1, Nat.sub_self, List.set_cons_zero]
 simp only [List.map_append, List.map_cons, List.map_nil, List.append_assoc, List.singleton_append]
theorem pF : ∀ (n : Nat) (l : List UInt8), l.length ≤ n → ∀ ls, dG l = some ls → ls.all fL = true ∧ enc ls = l
 | _, [], _, ls, h => by
   rw [kY] at h; cases h; exact ⟨rfl, rfl⟩
 | 0, _ :: _, hn, _, _ => by simp at hn
 | n + 1, k :: t, hn, ls, h => by
   rw [eV] at h
   split at h
   ·cases h
   ·rename_i hk
    cases hp : dG (t.drop k.toNat) with
    | none => rw [hp] at h; cases h
    | some ms =>
     rw [hp] at h
     cases h
     obtain ⟨h1, h2⟩ := pF n (t.drop k.toNat) (by simp at hn ⊢; omega) ms hp
     have hlen : (t.take k.toNat).length = k.toNat := by simp; omega
     refine ⟨?_, ?_⟩
     ·simp only [List.all_cons, h1, Bool.and_true, fL, hlen, Bool.and_eq_true, decide_eq_true_eq]; omega
     ·have : enc (t.take k.toNat :: ms) = UInt8.ofNat (t.take k.toNat).length :: (t.take k.toNat) ++ enc ms := by simp [enc]
      rw [this, h2, hlen]
      simp
theorem eB {l : List UInt8} {ls : List (List UInt8)} (h : aU l = some ls) : ls.all fL = true ∧ enc ls = l ∧ l.length ≤ 254 := by
 unfold aU at h
 split at h
 ·cases h
 ·have := pF l.length l (Nat.le_refl _) ls h
  exact ⟨this.1, this.2, by omega⟩
theorem nM (l : List UInt8) : (low l).length = l.length := by simp [low]
theorem gK : ∀ ls : List (List UInt8), (enc ls).length = (ls.map fun x => x.length + 1).sum
 | [] => rfl
 | x :: ls => by
   have := gK ls
   have e : enc (x :: ls) = UInt8.ofNat x.length :: x ++ enc ls := by simp [enc]
   rw [e]
   simp [this]; omega
theorem nN (ls : List (List UInt8)) : (enc (ls.map low)).length = (enc ls).length := by
 rw [gK, gK, List.map_map]
 congr 1
 apply List.map_congr_left
 intro x _
 simp [nM]
theorem jE (ls : List (List UInt8)) : ls.length ≤ (enc ls).length := by
 rw [gK]
 induction ls with
 | nil => simp
 | cons x ls ih => simp; omega
theorem jF {x : List UInt8} : ∀ {ls : List (List UInt8)}, x ∈ ls → x.length < (enc ls).length
 | y :: ls, h => by
   have e : enc (y :: ls) = UInt8.ofNat y.length :: y ++ enc ls := by simp [enc]
   rw [e]
   rcases List.mem_cons.1 h with rfl | h
   ·simp; omega
   ·have := jF h
    simp; omega
def hX (a b : List UInt8) : Int := if Op.bytesLess a b = true then -1 else if Op.bytesLess a b = false ∧ a ≠ b then 1 else 0
def dQ : List (List UInt8) → List (List UInt8) → Int
 | [], [] => 0
 | [], _ :: _ => -1
 | _ :: _, [] => 1
 | x :: xs, y :: ys => if hX x y ≠ 0 then hX x y else dQ xs ys
def bT (n : List UInt8) : Option (List (List UInt8)) := (aU (fold n)).map List.reverse
def gL (a b : List UInt8) : Int := match bT a, bT b with
 | none, none => hX a b
 | none, some _ => -1
 | some _, none => 1
 | some x, some y => dQ x y
def fV (s : List UInt8) : Option (List UInt8) := if Lib.hasSuffix s [0] = true ∧ (aU (Lib.trimSuffix s [0])).isSome = true then some (Lib.trimSuffix s [0]) else none
def eW (k : Int) : Int := if k = 33 then 6 else if k = 15 then 2 else if k = 2 ∨ k = 5 ∨ k = 12 then 0 else -1
def bN (k : Int) (d : List UInt8) : List UInt8 × Int :=
 if eW k < 0 then ([], 5) else if (d.length : Int) < eW k then ([], 2) else match fV (d.drop (eW k).toNat) with
  | none => ([], 2)
  | some n => (n, 0)
def pG : Nat → List UInt8 → Nat
 | _, [] => 0
 | 0, _ :: _ => 0
 | f + 1, k :: t => if k.toNat = 0 then 0 else 1 + k.toNat + pG f (t.drop k.toNat)
theorem jG : ∀ (f : Nat) (l : List UInt8), l.length ≤ f → pG f l = pG l.length l
 | 0, [], _ => rfl
 | f + 1, [], _ => rfl
 | f + 1, k :: t, h => by
   simp only [List.length_cons] at h ⊢
   unfold pG
   split
   ·rfl
   ·rw [jG f (t.drop k.toNat) (by simp; omega), jG t.length (t.drop k.toNat) (by simp)]
def fW (l : List UInt8) : Nat := pG l.length l
theorem nO (k : UInt8) (t : List UInt8) : fW (k :: t) = if k.toNat = 0 then 0 else 1 + k.toNat + fW (t.drop k.toNat) := by
 unfold fW
 simp only [List.length_cons]
 rw [pG]
 split
 ·rfl
 ·rw [jG t.length (t.drop k.toNat) (by simp)]
def bE (s : List UInt8) : List UInt8 × List UInt8 × Bool :=
 if s.length ≤ fW s then ([], [], false) else ((fV (s.take (fW s + 1))).getD [], s.drop (fW s + 1), (fV (s.take (fW s + 1))).isSome)
def jH : Nat → List UInt8 → Bool
 | _, [] => true
 | 0, _ :: _ => true
 | f + 1, k :: t => if t.length < k.toNat then false else jH f (t.drop k.toNat)
theorem hY : ∀ (f : Nat) (l : List UInt8), l.length ≤ f → jH f l = jH l.length l
 | 0, [], _ => rfl
 | f + 1, [], _ => rfl
 | f + 1, k :: t, h => by
   simp only [List.length_cons] at h ⊢
   unfold jH
   split
   ·rfl
   ·rw [hY f (t.drop k.toNat) (by simp; omega), hY t.length (t.drop k.toNat) (by simp)]
def jI (l : List UInt8) : Bool := jH l.length l
theorem lT (k : UInt8) (t : List UInt8) : jI (k :: t) = if t.length < k.toNat then false else jI (t.drop k.toNat) := by
 unfold jI
 simp only [List.length_cons]
 rw [jH]
 split
 ·rfl
 ·rw [hY t.length (t.drop k.toNat) (by simp)]
def qL (l : List UInt8) : Bool := !decide (l = []) && jI l
def numP (r : List UInt8) (i : Nat) : Nat → Nat
 | 0 => 0
 | k + 1 => numP r i k * 256 + (r.getD (4 * i + k) 0).toNat
theorem uF (r : List UInt8) (i : Nat) : ∀ k, numP r i k < 256 ^ k
 | 0 => by simp [numP]
 | k + 1 => by
   have h1 := uF r i k
   have h2 : (r.getD (4 * i + k) 0).toNat < 256 := UInt8.toNat_lt _
   rw [numP, Nat.pow_succ]
   omega
def tE (n : Nat) : List UInt8 := [UInt8.ofNat (n / 16777216), UInt8.ofNat (n / 65536), UInt8.ofNat (n / 256), UInt8.ofNat n]
structure SoaR where
 main : List UInt8
 mail : List UInt8
 serial : Int
 refresh : Int
 retry : Int
 expire : Int
 minimum : Int
 deriving DecidableEq, Inhabited
def SoaR.cells (s : SoaR) : List Value := [aF s.main, aF s.mail, .int .i64 s.serial, .int .i64 s.refresh, .int .i64 s.retry, .int .i64 s.expire, .int .i64 s.minimum]
def eI (n : Int) : Bool := decide (0 ≤ n) && decide (n ≤ 2147483647)
def SoaR.ok (s : SoaR) : Bool := (aU s.main).isSome && (aU s.mail).isSome && decide (0 ≤ s.serial) && decide (s.serial ≤ 4294967295) && eI s.refresh && eI s.retry && eI s.expire && eI s.minimum
def SoaR.data (s : SoaR) : List UInt8 := s.main ++ [0] ++ (s.mail ++ [0]) ++ tE s.serial.toNat ++ tE s.refresh.toNat ++ tE s.retry.toNat ++ tE s.expire.toNat ++ tE s.minimum.toNat
def dA (d : List UInt8) : SoaR :=
 let f := bE d
 let g := bE f.2.1
 { main := f.1, mail := g.1, serial := numP g.2.1 0 4, refresh := numP g.2.1 1 4, retry := numP g.2.1 2 4, expire := numP g.2.1 3 4, minimum := numP g.2.1 4 4 }
def bV (d : List UInt8) : Option SoaR :=
 let f := bE d
 let g := bE f.2.1
 if f.2.2 = true ∧ g.2.2 = true ∧ g.2.1.length = 20 ∧ (dA d).ok = true then some (dA d) else none
def mM (k : Int) (d : List UInt8) : Bool :=
 if k = 1 then decide (d.length = 4) else if k = 28 then decide (d.length = 16) else if k = 16 then qL d else if k = 6 then (bV d).isSome else decide ((bN k d).2 ≠ 2)
structure Rec where
 name : List UInt8
 kind : Int
 ttl : Int
 data : List UInt8
 deriving DecidableEq, Inhabited
def bF (r : Rec) : Int :=
 if r.kind = 41 ∨ r.kind = 251 ∨ r.kind = 252 ∨ r.kind = 255 then 1
 else if r.kind < 1 ∨ 65535 < r.kind ∨ r.ttl < 0 ∨ 2147483647 < r.ttl ∨ 4000 < r.data.length ∨ mM r.kind r.data = false then 1
 else if (aU r.name).isSome = true then 0 else 1
end Go.Proofs.X
set_option linter.unusedVariables false
set_option linter.unusedSimpArgs false
namespace Go.Proofs.X
open Go
structure TPO {α : Type} (c : α → α → Int) : Prop where
 anti : ∀ x y, c y x = - c x y
 tr : ∀ x y z, c x y ≤ 0 → c y z ≤ 0 → c x z ≤ 0
variable {α : Type} {c d : α → α → Int}
theorem TPO.refl (h : TPO c) (x : α) : c x x = 0 := by have := h.anti x x; omega
theorem TPO.swo (h : TPO c) : Sort.SWO (Go.Proofs.ltOf c) where
 irrefl x := by simp [Go.Proofs.ltOf, h.refl x]
 trans x y z h1 h2 := by
  simp only [Go.Proofs.ltOf, decide_eq_true_eq] at *
  have h3 := h.tr x y z (by omega) (by omega)
  rcases Int.lt_or_eq_of_le h3 with h4 | h4
  ·exact h4
  ·have a1 := h.anti x z
   have a2 := h.anti y z
   have a3 := h.anti x y
   have := h.tr z x y (by omega) (by omega)
   omega
 ntrans x y z h1 h2 := by
  simp only [Go.Proofs.ltOf, decide_eq_false_iff_not] at *
  have a1 := h.anti x y
  have a2 := h.anti y z
  have a3 := h.anti x z
  have := h.tr z y x (by omega) (by omega)
  omega
theorem TPO.eqL (h : TPO c) {x y z : α} (e : c x y = 0) : c x z ≤ 0 ↔ c y z ≤ 0 := by
 have a := h.anti x y
 exact ⟨fun h1 => h.tr y x z (by omega) h1, fun h1 => h.tr x y z (by omega) h1⟩
def AX (c d : α → α → Int) (x y : α) : Int := if c x y ≠ 0 then c x y else d x y
theorem TPO.lex (h : TPO c) (k : TPO d) : TPO (AX c d) where
 anti x y := by
  have a := h.anti x y
  have b := k.anti x y
  unfold AX
  split <;> split <;> omega
 tr x y z := by
  have a1 := h.anti x y
  have a2 := h.anti y z
  have a3 := h.anti x z
  have t1 := h.tr x y z
  have t2 := h.tr z x y
  have t3 := h.tr y z x
  have t4 := k.tr x y z
  unfold AX
  intro h1 h2
  split at h1 <;> split at h2 <;> split <;> omega
theorem TPO.comap {β : Type} (h : TPO c) (f : β → α) : TPO (fun x y => c (f x) (f y)) := ⟨fun x y => h.anti _ _, fun x y z => h.tr _ _ _⟩
theorem zA : TPO (fun a b : Int => if a < b then (-1 : Int) else if b < a then 1 else 0) where
 anti x y := by split <;> split <;> (try split) <;> omega
 tr x y z := by
  intro h1 h2
  split at h1 <;> split at h2 <;> split <;> (try omega)
  all_goals (split <;> (try omega))
  all_goals (first | (split at h1 <;> omega) | (split at h2 <;> omega) | (split at h1 <;> split at h2 <;> omega))
theorem uG {a b : List UInt8} : Op.bytesLess a b = true ↔ a < b := by rw [Go.Proofs.bytesLess_eq]; simp
theorem fX (a b : List UInt8) : hX a b = if a < b then -1 else if a = b then 0 else 1 := by
 unfold hX
 by_cases h : a < b
 ·simp [uG.2 h, h]
 ·have : Op.bytesLess a b = false := by
   cases h2 : Op.bytesLess a b with
   | false => rfl
   | true => exact absurd (uG.1 h2) h
  simp [this, h]
theorem dH : TPO hX where
 anti x y := by
  rw [fX, fX]
  rcases Std.lt_trichotomy x y with h | h | h
  ·have h2 : ¬ y < x := fun h9 => Std.lt_irrefl (Std.lt_trans h h9)
   have h3 : x ≠ y := fun e => Std.lt_irrefl (e ▸ h)
   simp [h, h2, h3, Ne.symm h3]
  ·subst h
   simp [Std.lt_irrefl]
  ·have h2 : ¬ x < y := fun h9 => Std.lt_irrefl (Std.lt_trans h h9)
   have h3 : x ≠ y := fun e => Std.lt_irrefl (e ▸ h)
   simp [h, h2, h3, Ne.symm h3]
 tr x y z := by
  rw [fX, fX, fX]
  intro h1 h2
  by_cases hxy : x < y
  ·by_cases hyz : y < z
   ·simp [Std.lt_trans hxy hyz]
   ·by_cases e : y = z
    ·subst e; simp [hxy]
    ·simp [hyz, e] at h2
  ·by_cases e : x = y
   ·subst e; exact h2
   ·simp [hxy, e] at h1
theorem rP : TPO dQ where
 anti := by
  intro x
  induction x with
  | nil => intro y; cases y <;> rfl
  | cons a x ih =>
   intro y
   cases y with
   | nil => rfl
   | cons b y =>
    have h1 := dH.anti a b
    have h2 := ih y
    simp only [dQ]
    split <;> split <;> omega
 tr := by
  intro x
  induction x with
  | nil => intro y z _ _; cases z <;> simp [dQ]
  | cons a x ih =>
   intro y z h1 h2
   cases y with
   | nil => simp [dQ] at h1
   | cons b y =>
    cases z with
    | nil => simp [dQ] at h2
    | cons e z =>
     have a1 := dH.anti a b
     have a2 := dH.anti b e
     have a3 := dH.anti a e
     have t1 := dH.tr a b e
     have t2 := dH.tr e a b
     have t3 := dH.tr b e a
     have t4 := ih y z
     simp only [dQ] at *
     split at h1 <;> split at h2 <;> split <;> omega
theorem wW : TPO gL where
 anti x y := by
  have h1 := dH.anti x y
  unfold gL
  cases hx : bT x <;> cases hy : bT y <;> simp only [] <;> first | exact h1 | rfl | exact rP.anti _ _
 tr x y z := by
  have h1 := dH.tr x y z
  unfold gL
  cases hx : bT x <;> cases hy : bT y <;> cases hz : bT z <;> simp only [] <;> first | exact h1 | exact rP.tr _ _ _ | (intros; omega)
end Go.Proofs.X
set_option linter.unusedVariables false
set_option linter.unusedSimpArgs false
namespace Go.Proofs.X
open Go.RowKit
def dK (P : Program) (e : TypeId) : Nat := match P.info? e with | some i => i.bytes | none => 0
section
variable {P : Program} {ops : Array Oper} {Q : Exit → Act → World → Prop} {rest : List Oper} {ts : List Value} {df : List Deferred}
inductive ElemIs (a : Act) (x : Operand) (k : Nat) (ce : List Value) : Prop
 | mk {c : Value} (h1 : a.eval x = c) (h2 : c.cells.toList = ce) (h3 : ce.length = k) (h4 : ∀ u ∈ ce, u.oneCell' = true) : ElemIs a x k ce
theorem CC (ce : List Value) {B k e t d1 d2 m ty1 ty2 : Nat} {ps1 ps2 : String} {af1 af2 : Array Edge} {x : Operand} {es : List (List Value)} {w0 w : World}
 (hx : Ext w0 w) (ho : Own B k e w (ts.getD m undef) es) (hl : es.length + 1 ≤ 1000000)
 (hk : ∀ s v' w1 w', Ext w w1 → Mv (ts.getD m undef).ownBlock w1 w' → Ext w0 w' → Own B k e w' v' (es ++ [ce]) → wpList P ops Q rest (Act.mk ((ts.set d1 s).set d2 v').toArray df) w')
 (hc : ElemIs (Act.mk ts.toArray df) x k ce := by (apply ElemIs.mk; (rfl); (rfl); (rfl); (simp [aF, Value.oneCell'])))
 (ht : iO P t e k (dK P e) = true := by decide +kernel) (hby : dK P e ≤ 1000000 := by decide +kernel) (hk16 : k ≤ 1000 := by decide) (hne : d1 ≠ m := by decide) (hdl : d1 < ts.length := by first | (simp; done) | (simp; omega))
 (hB : w0.heap.size ≤ B := by first | exact Nat.le_refl _ | omega) (hBw : B ≤ w.heap.size := by first | exact Ext.size (by assumption) | omega) :
 wpList P ops Q (Oper.mk (some d1) (.buildSlice t 1 #[(0, x)]) ty1 ps1 af1 none :: Oper.mk (some d2) (.call ⟨.builtin .append, #[.tmp m, .tmp d1], #[t, t]⟩) ty2 ps2 af2 none :: rest) (Act.mk ts.toArray df) w := by
 obtain ⟨hc, hce, hcs, h1⟩ := hc
 rename_i c
 have hcs' : c.cells.size = k := by rw [← Array.length_toList, hce]; exact hcs
 refine bY (k := k) (e := e) (bytes := dK P e) (xs := [c]) (parts := [(0, x)]) rfl (by simp [hc]) rfl (by simpa using hcs') ht (by simp; omega) ?_
 intro s w1 x1 _ sl _
 have e1 : (ts.set d1 s).getD m undef = ts.getD m undef := by
  simp only [List.getD_eq_getElem?_getD]; rw [List.getElem?_set_ne hne]
 have ho1 := ho.ext x1
 rw [← e1] at ho1
 refine dN (x := s) (B := B) (k := k) (e := e) (bytes := dK P e) rfl ho1 (by rw [cT]; simp [hdl]) sl ht (by simpa [hce] using h1) (Nat.le_trans hBw x1.size) ?_ ?_ ?_
 ·simp only [List.length_map, List.length_cons, List.length_nil]
  calc (es.length + (0 + 1)) * dK P e ≤ 1000000 * 1000000 := Nat.mul_le_mul (by omega) hby
   _ ≤ _ := by decide
 ·simp only [List.length_map, List.length_cons, List.length_nil]; omega
 ·intro v' w' o' m' _
  rw [e1] at m'
  exact hk s v' w1 w' x1 m' ((ho.ext x1).mvx m' (hx.trans x1) hB) (by simpa [hce] using o')
end
section
variable {P : Program} {w : World} {a : Act} {d : Option Nat} {ty : TypeId} {ps : String} {af : Array Edge} {g : Option (Nat × Bool)}
end
section
variable {P : Program} {ops : Array Oper} {Q : Exit → Act → World → Prop} {w : World} {rest : List Oper} {ts : List Value} {df : List Deferred} {ty : TypeId} {ps : String} {af : Array Edge}
end
section
variable {P : Program} {ops : Array Oper} {Q : Exit → Act → World → Prop} {w : World} {rest : List Oper} {ts : List Value} {df : List Deferred} {ty : TypeId} {ps : String} {af : Array Edge}
theorem cU {t e k B d : Nat} {x0 y : Operand} {v0 x : Value} {es fs : List (List Value)} (h0 : (Act.mk ts.toArray df).eval x0 = v0)
 (h : Own B k e w v0 es) (hy : (Act.mk ts.toArray df).eval y = x) (hx : Sl k w x fs) (h1 : ∀ f ∈ fs, ∀ u ∈ f, u.oneCell' = true)
 (hB : B ≤ w.heap.size) (hm : es.length + fs.length ≤ 1000000)
 (hk : ∀ v' w', Own B k e w' v' (es ++ fs) → Mv v0.ownBlock w w' → (v'.ownBlock = v0.ownBlock ∨ v'.ownBlock = some w.heap.size) → wpList P ops Q rest (Act.mk (ts.set d v').toArray df) w')
 (ht : iO P t e k (dK P e) = true := by decide +kernel) (hby : dK P e ≤ 1000000 := by decide +kernel) :
 wpList P ops Q (Oper.mk (some d) (.call ⟨.builtin .append, #[x0, y], #[t, t]⟩) ty ps af none :: rest) (Act.mk ts.toArray df) w := by
 have hb : (es.length + fs.length) * dK P e ≤ 140737488355328 :=
  calc (es.length + fs.length) * dK P e ≤ 1000000 * 1000000 := Nat.mul_le_mul hm hby
   _ ≤ _ := by decide
 obtain ⟨v', w', hr, ho, hmv, hkin⟩ := lO (ty := ty) ht h hx h1 hB hb (by omega)
 refine mU rfl ?_ (hk v' w' ho hmv hkin)
 simp [execOp, resolve, invoke, builtin, h0, hy, hr]
end
section
variable {P : Program} {Q : Exit → Act → World → Prop} {S : World → Prop} {l : List Oper} {fuel : Nat} {listed : List Bool} {w : World}
end
end Go.Proofs.X
set_option linter.unusedVariables false
set_option linter.unusedSimpArgs false
namespace Go.Proofs.X
open Go.RowKit
theorem kF {k : Nat} : ∀ (es : List (List Value)) (i : Nat), (∀ x ∈ es, x.length = k) → (es.take i).flatten = es.flatten.take (i * k)
 | [], i, _ => by simp
 | x :: es, 0, _ => by simp
 | x :: es, i + 1, h => by
   have hx := h x (by simp)
   have ih := kF es i (fun y hy => h y (by simp [hy]))
   rw [List.take_succ_cons, List.flatten_cons, List.flatten_cons, ih, show (i + 1) * k = x.length + i * k by rw [hx, Nat.add_mul]; omega, List.take_length_add_append]
theorem gM {k : Nat} : ∀ (es : List (List Value)) (i : Nat), (∀ x ∈ es, x.length = k) → (es.drop i).flatten = es.flatten.drop (i * k)
 | [], i, _ => by simp
 | x :: es, 0, _ => by simp
 | x :: es, i + 1, h => by
   have hx := h x (by simp)
   have ih := gM es i (fun y hy => h y (by simp [hy]))
   rw [List.drop_succ_cons, List.flatten_cons, ih, show (i + 1) * k = x.length + i * k by rw [hx, Nat.add_mul]; omega, List.drop_length_add_append]
theorem vF {α : Type} (c F : List α) (a n : Nat) (h : a + F.length ≤ n) (hn : n ≤ c.length) : (c.take a ++ F ++ c.drop (a + F.length)).take n = (c.take n).take a ++ F ++ (c.take n).drop (a + F.length) := by
 have hA : (c.take a ++ F).length = a + F.length := by simp; omega
 rw [List.take_append, hA, List.take_of_length_le (by omega), List.take_take, Nat.min_eq_left (by omega), List.drop_take]
theorem Own.over {B k e g cap i : Nat} {w : World} {es fs : List (List Value)} (h : Own B k e w (.slice (some ⟨g, 0, none⟩) es.length cap) es) (hi : i + fs.length ≤ es.length) (hf : ∀ f ∈ fs, f.length = k) :
 ∃ cur fz, w.heap[g]? = some (.cells cur e fz) ∧ (fz.2 ≤ fz.1 ∨ cur.size ≤ fz.1) ∧ es.length ≤ cap ∧ i * k + fs.flatten.length ≤ es.length * k ∧ es.length * k ≤ cur.size ∧
   Own B k e (w.setRow g (cur.toList.take (i * k) ++ fs.flatten ++ cur.toList.drop (i * k + fs.flatten.length)).toArray) (.slice (some ⟨g, 0, none⟩) es.length cap) (es.take i ++ fs ++ es.drop (i + fs.length)) ∧
   Mv (some g) w (w.setRow g (cur.toList.take (i * k) ++ fs.flatten ++ cur.toList.drop (i * k + fs.flatten.length)).toArray) := by
 rcases h.row.2 with ⟨h0, _⟩ | ⟨g', cap', cur, fz, hv, hb, hg, hfz, hnc, hcm, hcs, htake⟩
 ·cases h0
 ·simp only [Value.slice.injEq, Option.some.injEq, Addr.mk.injEq, and_true, true_and] at hv
  obtain ⟨rfl, rfl⟩ := hv
  have hall := h.each
  have hfl := aS hf
  have hil : i * k + fs.length * k ≤ es.length * k := by rw [← Nat.add_mul]; exact Nat.mul_le_mul_right k hi
  have hck : es.length * k ≤ cap * k := Nat.mul_le_mul_right k hnc
  have hlen : (es.take i ++ fs ++ es.drop (i + fs.length)).length = es.length := by simp; omega
  have hall2 : ∀ x ∈ es.take i ++ fs ++ es.drop (i + fs.length), x.length = k := by
   intro x hx
   rcases List.mem_append.1 hx with hx | hx
   ·rcases List.mem_append.1 hx with hx | hx
    ·exact hall x (List.mem_of_mem_take hx)
    ·exact hf x hx
   ·exact hall x (List.mem_of_mem_drop hx)
  have hsz : (cur.toList.take (i * k) ++ fs.flatten ++ cur.toList.drop (i * k + fs.flatten.length)).length = cur.size := by
   rw [List.length_append, List.length_append, List.length_take, List.length_drop, Array.length_toList, hfl, hcs]; omega
  refine ⟨cur, fz, hg, hfz, hnc, by rw [hfl]; exact hil, by rw [hcs]; exact hck, ⟨⟨?_, .inr ⟨g, cap, (cur.toList.take (i * k) ++ fs.flatten ++ cur.toList.drop (i * k + fs.flatten.length)).toArray, fz, ?_, hb, setRow_heap w g cur _ e _ hg, ?_, ?_, hcm, ?_, ?_⟩⟩, hall2⟩, ⟨rfl, rfl, rfl, by simp, fun k _ hk => setRow_other w g k _ (fun e => hk (by simp [e])), Nat.le_refl _⟩⟩
  ·rw [aS hall2]
  ·rw [hlen]
  ·rw [List.size_toArray, hsz]; exact hfz
  ·rw [hlen]; exact hnc
  ·rw [List.size_toArray, hsz]; exact hcs
  ·rw [hlen, List.flatten_append, List.flatten_append, kF es i hall, gM es _ hall, ← htake, List.toList_toArray]
   have e1 : (i + fs.length) * k = i * k + fs.flatten.length := by rw [hfl, Nat.add_mul]
   rw [e1]
   have hcl : cur.toList.length = cap * k := by rw [← hcs]; exact Array.length_toList
   exact vF _ _ _ _ (by rw [hfl]; exact hil) (by rw [hcl]; exact hck)
section
variable {P : Program} {ops : Array Oper} {Q : Exit → Act → World → Prop} {w : World} {rest : List Oper} {ts : List Value} {df : List Deferred} {ty : TypeId} {ps : String} {af : Array Edge}
end
end Go.Proofs.X
set_option linter.unusedVariables false
set_option linter.unusedSimpArgs false
namespace Go.Proofs.X
open Go.RowKit
section
variable {P : Program} {a : Act} {w : World} {d : Option Nat} {ty : TypeId} {ps : String} {af : Array Edge} {g : Option (Nat × Bool)}
end
theorem Sl.news {k n cap : Nat} {w : World} {a : Addr} {fs : List (List Value)} (hx : Sl k w (.slice (some a) n cap) fs) (hk : 0 < k) : ∀ j u, fs.flatten[j]? = some u → w.cell? (a.add j) = some u := by
 obtain ⟨ad, cap', he, h2, h3, h4, h5, h6⟩ := hx
 cases he
 intro j u hj
 by_cases hne : fs = []
 ·subst hne; simp at hj
 ·obtain ⟨b, o, he, hc⟩ := h6 hne
  cases he
  have hlen := aS h4
  have hjl : j < fs.length * k := by rw [← hlen]; exact (List.getElem?_eq_some_iff.1 hj).1
  have hdm : j = (j / k) * k + j % k := by rw [Nat.mul_comm]; exact (Nat.div_add_mod j k).symm
  have hlt : j / k < fs.length := Nat.div_lt_of_lt_mul (by rw [Nat.mul_comm]; exact hjl)
  have hml : j % k < (fs[j / k]).length := by rw [h4 _ (List.getElem_mem hlt)]; exact Nat.mod_lt _ hk
  have hf := dZ h4 (i := j / k) (e := fs[j / k]) (j := j % k) (x := (fs[j / k])[j % k]) (List.getElem?_eq_getElem hlt) (List.getElem?_eq_getElem hml)
  rw [← hdm, hj] at hf
  have := hc (j / k) fs[j / k] (j % k) u (List.getElem?_eq_getElem hlt) (by rw [List.getElem?_eq_getElem hml]; exact hf.symm)
  rw [cB]
  rw [Nat.add_assoc, ← hdm] at this
  exact this
section
variable {P : Program} {ops : Array Oper} {Q : Exit → Act → World → Prop} {w : World} {rest : List Oper} {ts : List Value} {df : List Deferred} {ty : TypeId} {ps : String} {af : Array Edge}
end
end Go.Proofs.X
set_option linter.unusedVariables false
set_option linter.unusedSimpArgs false
namespace Go.Proofs.X
open Go.RowKit
set_option maxRecDepth 100000
theorem AG {G A : Prop} (hA : A) (e : Hid A → G := by (intro kA; (repeat' first | ((with_reducible refine aJ ?_); go_step) | ((with_reducible refine aG ?_); refine gE ?_) | fail); (with_reducible exact kA.out))) : G := e ⟨hA⟩
theorem FD {G A : Prop} (hA : A) (e : Hid A → G := by (intro kA; (repeat' first | ((with_reducible refine aJ ?_); go_step) | ((with_reducible refine aG ?_); refine gE ?_) | fail); (rename_i z0 z1; revert z0 z1; with_reducible exact kA.out))) : G := e ⟨hA⟩
theorem EK {G A : Prop} (hA : A) (e : Hid A → G := by (intro kA; (repeat' (first | ((with_reducible refine aJ ?_); go_step) | fail)); (with_reducible exact kA.out))) : G := e ⟨hA⟩
theorem AY {G A : Prop} (hA : A) (e : Hid A → G := by (intro kA; (repeat' (first | ((with_reducible refine aJ ?_); go_step) | fail)); (rename_i z0 z1; revert z0 z1; with_reducible exact kA.out))) : G := e ⟨hA⟩
theorem DE {G A : Prop} (hA : A) (e : Hid A → G := by (intro kA; (repeat' (first | ((with_reducible refine aJ ?_); go_step) | fail)); (rename_i z0 z1 z2; revert z0 z1 z2; with_reducible exact kA.out))) : G := e ⟨hA⟩
theorem cI {G A : Prop} (hA : A) (e : Hid A → G := by (intro kA; (repeat' first | ((with_reducible refine aJ ?_); go_step) | ((with_reducible refine aG ?_); first | refine gE ?_ | (refine aK ?_ ?_ <;> intro _)) | fail); (with_reducible exact kA.out))) : G := e ⟨hA⟩
theorem wN {G A : Prop} (hA : A) (e : Hid A → G := by (intro kA; (repeat' first | ((with_reducible refine aJ ?_); go_step) | ((with_reducible refine aG ?_); first | refine gE ?_ | (refine aK ?_ ?_ <;> intro _)) | fail); (rename_i z0; revert z0; with_reducible exact kA.out))) : G := e ⟨hA⟩
theorem CD {G A B : Prop} (hB : B) (hA : A) (e : Hid A → Hid B → G := by (intro kA kB; (repeat' first | ((with_reducible refine aJ ?_); go_step) | ((with_reducible refine aG ?_); first | refine gE ?_ | (refine aK ?_ ?_ <;> intro _)) | fail); (rename_i z0; revert z0; with_reducible exact kA.out); (rename_i z0; revert z0; with_reducible exact kB.out))) : G := e ⟨hA⟩ ⟨hB⟩
theorem CE {G A B C : Prop} (hB : B) (hC : C) (hA : A) (e : Hid A → Hid B → Hid C → G := by (intro kA kB kC; (repeat' first | ((with_reducible refine aJ ?_); go_step) | ((with_reducible refine aG ?_); first | refine gE ?_ | (refine aK ?_ ?_ <;> intro _)) | fail); (rename_i z0; revert z0; with_reducible exact kA.out); (rename_i z0 z1; revert z0 z1; with_reducible exact kB.out); (rename_i z0 z1 z2 z3; revert z0 z1 z2 z3; with_reducible exact kC.out))) : G := e ⟨hA⟩ ⟨hB⟩ ⟨hC⟩
theorem AZ {G A B : Prop} (hB : B) (hA : A) (e : Hid A → Hid B → G := by (intro kA kB; (repeat' first | ((with_reducible refine aJ ?_); go_step) | ((with_reducible refine aG ?_); first | refine gE ?_ | (refine aK ?_ ?_ <;> intro _)) | fail); (rename_i z0; revert z0; with_reducible exact kA.out); (rename_i z0 z1 z2; revert z0 z1 z2; with_reducible exact kB.out))) : G := e ⟨hA⟩ ⟨hB⟩
theorem AH {G A B C : Prop} (hB : B) (hC : C) (hA : A) (e : Hid A → Hid B → Hid C → G := by (intro kA kB kC; (repeat' first | ((with_reducible refine aJ ?_); go_step) | ((with_reducible refine aG ?_); first | refine gE ?_ | (refine aK ?_ ?_ <;> intro _)) | fail); (rename_i z0; revert z0; with_reducible exact kA.out); (rename_i z0 z1 z2 z3; revert z0 z1 z2 z3; with_reducible exact kB.out); (rename_i z0 z1; revert z0 z1; with_reducible exact kC.out))) : G := e ⟨hA⟩ ⟨hB⟩ ⟨hC⟩
theorem eJ {G A : Prop} (hA : A) (e : Hid A → G := by (intro kA; (repeat' first | ((with_reducible refine aJ ?_); go_step) | ((with_reducible refine aG ?_); first | refine gE ?_ | (refine aK ?_ ?_ <;> intro _)) | fail); (rename_i z0 z1; revert z0 z1; with_reducible exact kA.out))) : G := e ⟨hA⟩
theorem CF {G A B C : Prop} (hB : B) (hC : C) (hA : A) (e : Hid A → Hid B → Hid C → G := by (intro kA kB kC; (repeat' first | ((with_reducible refine aJ ?_); go_step) | ((with_reducible refine aG ?_); first | refine gE ?_ | (refine aK ?_ ?_ <;> intro _)) | fail); (rename_i z0 z1; revert z0 z1; with_reducible exact kA.out); (rename_i z0 z1; revert z0 z1; with_reducible exact kB.out); (rename_i z0; revert z0; with_reducible exact kC.out))) : G := e ⟨hA⟩ ⟨hB⟩ ⟨hC⟩
theorem CG {G A B C : Prop} (hB : B) (hC : C) (hA : A) (e : Hid A → Hid B → Hid C → G := by (intro kA kB kC; (repeat' first | ((with_reducible refine aJ ?_); go_step) | ((with_reducible refine aG ?_); first | refine gE ?_ | (refine aK ?_ ?_ <;> intro _)) | fail); (rename_i z0 z1; revert z0 z1; with_reducible exact kA.out); (rename_i z0 z1 z2 z3; revert z0 z1 z2 z3; with_reducible exact kB.out); (rename_i z0; revert z0; with_reducible exact kC.out))) : G := e ⟨hA⟩ ⟨hB⟩ ⟨hC⟩
theorem DO {G A B : Prop} (hB : B) (hA : A) (e : Hid A → Hid B → G := by (intro kA kB; (repeat' first | ((with_reducible refine aJ ?_); go_step) | ((with_reducible refine aG ?_); first | refine gE ?_ | (refine aK ?_ ?_ <;> intro _)) | fail); (rename_i z0 z1; revert z0 z1; with_reducible exact kA.out); (rename_i z0 z1 z2 z3 z4; revert z0 z1 z2 z3 z4; with_reducible exact kB.out))) : G := e ⟨hA⟩ ⟨hB⟩
theorem BX {G A : Prop} (hA : A) (e : Hid A → G := by (intro kA; (repeat' first | ((with_reducible refine aJ ?_); go_step) | ((with_reducible refine aG ?_); first | refine gE ?_ | (refine aK ?_ ?_ <;> intro _)) | fail); (rename_i z0 z1 z2; revert z0 z1 z2; with_reducible exact kA.out))) : G := e ⟨hA⟩
theorem DP {G A B : Prop} (hB : B) (hA : A) (e : Hid A → Hid B → G := by (intro kA kB; (repeat' first | ((with_reducible refine aJ ?_); go_step) | ((with_reducible refine aG ?_); first | refine gE ?_ | (refine aK ?_ ?_ <;> intro _)) | fail); (rename_i z0 z1 z2; revert z0 z1 z2; with_reducible exact kA.out); (rename_i z0; revert z0; with_reducible exact kB.out))) : G := e ⟨hA⟩ ⟨hB⟩
theorem sT {G A : Prop} (hA : A) (e : Hid A → G := by (intro kA; (repeat' first | ((with_reducible refine aJ ?_); go_step) | ((with_reducible refine aG ?_); first | refine gE ?_ | (refine aK ?_ ?_ <;> intro _)) | fail); (rename_i z0 z1 z2 z3; revert z0 z1 z2 z3; with_reducible exact kA.out))) : G := e ⟨hA⟩
theorem wX {G A B : Prop} (hB : B) (hA : A) (e : Hid A → Hid B → G := by (intro kA kB; (repeat' first | ((with_reducible refine aJ ?_); go_step) | ((with_reducible refine aG ?_); first | refine gE ?_ | (refine aK ?_ ?_ <;> intro _)) | fail); (rename_i z0 z1 z2 z3; revert z0 z1 z2 z3; with_reducible exact kA.out); (rename_i z0 z1; revert z0 z1; with_reducible exact kB.out))) : G := e ⟨hA⟩ ⟨hB⟩
theorem DQ {G A B : Prop} (hB : B) (hA : A) (e : Hid A → Hid B → G := by (intro kA kB; (repeat' first | ((with_reducible refine aJ ?_); go_step) | ((with_reducible refine aG ?_); first | refine gE ?_ | (refine aK ?_ ?_ <;> intro _)) | fail); (rename_i z0 z1 z2 z3; revert z0 z1 z2 z3; with_reducible exact kA.out); (rename_i z0 z1 z2 z3; revert z0 z1 z2 z3; with_reducible exact kB.out))) : G := e ⟨hA⟩ ⟨hB⟩
theorem EL {G A : Prop} (hA : A) (e : Hid A → G := by (intro kA; (repeat' first | ((with_reducible refine aJ ?_); go_step) | ((with_reducible refine aG ?_); first | refine gE ?_ | (refine aK ?_ ?_ <;> intro _)) | fail); (rename_i z0 z1 z2 z3 z4; revert z0 z1 z2 z3 z4; with_reducible exact kA.out))) : G := e ⟨hA⟩
theorem DR {G A B : Prop} (hB : B) (hA : A) (e : Hid A → Hid B → G := by (intro kA kB; (repeat' first | ((with_reducible refine aJ ?_); go_step) | ((with_reducible refine aG ?_); first | refine gE ?_ | (refine aK ?_ ?_ <;> intro _)) | fail); (rename_i z0 z1 z2 z3 z4; revert z0 z1 z2 z3 z4; with_reducible exact kA.out); (rename_i z0 z1 z2; revert z0 z1 z2; with_reducible exact kB.out))) : G := e ⟨hA⟩ ⟨hB⟩
theorem CH {G A : Prop} (hA : A) (e : Hid A → G := by (intro kA; (repeat' first | ((with_reducible refine aJ ?_); go_step) | ((with_reducible refine aG ?_); first | refine gE ?_ | (refine aK ?_ ?_ <;> intro _)) | fail); (rename_i z0 z1 z2 z3 z4 z5; revert z0 z1 z2 z3 z4 z5; with_reducible exact kA.out))) : G := e ⟨hA⟩
theorem FE {G A : Prop} (hA : A) (e : Hid A → G := by (intro kA; (repeat' first | ((with_reducible refine aJ ?_); go_step) | ((with_reducible refine aG ?_); first | refine gE ?_ | (refine aK ?_ ?_ <;> intro _)) | fail); (rename_i z0 z1 z2 z3 z4 z5 z6; revert z0 z1 z2 z3 z4 z5 z6; with_reducible exact kA.out))) : G := e ⟨hA⟩
theorem BA {G A B C D : Prop} (hB : B) (hC : C) (hD : D) (hA : A) (e : Hid A → Hid B → Hid C → Hid D → G := by (intro kA kB kC kD; (repeat' first | ((with_reducible refine aJ ?_); go_step) | ((with_reducible refine aG ?_); first | refine gE ?_ | (refine aK ?_ ?_ <;> intro _)) | fail); (rename_i z0 z1 z2 z3 z4 z5 z6; revert z0 z1 z2 z3 z4 z5 z6; with_reducible exact kA.out); (rename_i z0 z1 z2 z3 z4; revert z0 z1 z2 z3 z4; with_reducible exact kB.out); (rename_i z0 z1 z2 z3 z4 z5; revert z0 z1 z2 z3 z4 z5; with_reducible exact kC.out); (rename_i z0 z1 z2 z3 z4; revert z0 z1 z2 z3 z4; with_reducible exact kD.out))) : G := e ⟨hA⟩ ⟨hB⟩ ⟨hC⟩ ⟨hD⟩
theorem CI {G A : Prop} (hA : A) (e : Hid A → G := by (intro kA; (repeat' first | ((with_reducible refine aJ ?_); go_step) | ((with_reducible refine aG ?_); first | refine aL ?_ | (refine aK ?_ ?_ <;> intro _)) | fail); (with_reducible exact kA.out))) : G := e ⟨hA⟩
theorem DS {G A B : Prop} (hB : B) (hA : A) (e : Hid A → Hid B → G := by (intro kA kB; (repeat' first | ((with_reducible refine aJ ?_); go_step) | ((with_reducible refine aG ?_); first | refine aL ?_ | (refine aK ?_ ?_ <;> intro _)) | fail); (rename_i z0; revert z0; with_reducible exact kA.out); (rename_i z0 z1 z2; revert z0 z1 z2; with_reducible exact kB.out))) : G := e ⟨hA⟩ ⟨hB⟩
theorem FF {G A : Prop} (hA : A) (e : Hid A → G := by (intro kA; (repeat' first | ((with_reducible refine aJ ?_); go_step) | ((with_reducible refine aG ?_); first | refine aL ?_ | (refine aK ?_ ?_ <;> intro _)) | fail); (rename_i z0 z1 z2; revert z0 z1 z2; with_reducible exact kA.out))) : G := e ⟨hA⟩
theorem DT {G A B : Prop} (hB : B) (hA : A) (e : Hid A → Hid B → G := by (intro kA kB; (repeat' first | ((with_reducible refine aJ ?_); go_step) | ((with_reducible refine aG ?_); first | refine aL ?_ | (refine aK ?_ ?_ <;> intro _)) | fail); (rename_i z0 z1 z2 z3; revert z0 z1 z2 z3; with_reducible exact kA.out); (rename_i z0 z1; revert z0 z1; with_reducible exact kB.out))) : G := e ⟨hA⟩ ⟨hB⟩
end Go.Proofs.X
