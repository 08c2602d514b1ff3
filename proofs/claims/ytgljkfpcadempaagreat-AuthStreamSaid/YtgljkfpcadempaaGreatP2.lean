/- Laws and walks that the proof of the statement is made of (part 2). -/
import Derived.Test.YtgljkfpcadempaaGreatP1
set_option linter.unusedVariables false
set_option linter.unusedSimpArgs false
namespace Go.Proofs.X
open Go.RowKit
set_option maxRecDepth 100000
theorem aA {G G' : Prop} (h : G') (e : G = G' := by ((simp only [List.set_cons_succ, List.set_cons_zero, List.getD_cons_succ, List.getD_cons_zero, List.length_map, if_true, Bool.false_eq_true, if_false, Int.toNat_natCast, Int.toNat_zero, Int.toNat_one, Nat.zero_mul, Bool.not_true, Bool.not_false, decide_true, decide_false]); (with_reducible exact rfl))) : G := e.mpr h
theorem fC {w w' : World} (h : Ext w w' := by (repeat (first | (with_reducible assumption) | exact Ext.refl _ | (refine Ext.trans ?_ (by with_reducible assumption))))) : Ext w w' := h
theorem rn {P : Program} {o : Oper} {a : Act} {w : World} {v : Value} (h : Runs P o a w v := by (first | exact Runs.moveT _ | exact Runs.assignT _ | exact Runs.moveC _ | exact Runs.assignC _ | ((apply Runs.pickTC); (rfl)) | ((apply Runs.pickCT); (rfl)) | ((apply Runs.pickT); (rfl)) | ((apply Runs.len); ((first | assumption | (apply Sl.ext; (assumption); (repeat (first | (with_reducible assumption) | exact Ext.refl _ | (refine Ext.trans ?_ (by with_reducible assumption))))))); (decide +kernel)) | ((apply Runs.lenS); (rfl); (decide +kernel)) | ((apply Runs.idxT); (rfl); ((first | assumption | (apply Sl.ext; (assumption); (repeat (first | (with_reducible assumption) | exact Ext.refl _ | (refine Ext.trans ?_ (by with_reducible assumption))))))); ((first | assumption | omega | (simp only [List.length_map, List.length_cons, Int.toNat_natCast, Int.toNat_zero, Int.toNat_one]; omega))); (decide +kernel)) | ((apply Runs.fieldLit); (rfl); (decide +kernel)) | ((apply Runs.fieldTn); ((first | assumption | (apply Pts.ext; (assumption); (repeat (first | (with_reducible assumption) | exact Ext.refl _ | (refine Ext.trans ?_ (by with_reducible assumption))))))); (decide +kernel)) | ((apply Runs.loadP); ((first | rfl | (simp only [List.getD_cons_succ, List.getD_cons_zero]; with_reducible rfl))); ((first | assumption | (apply Pts.ext; (assumption); (repeat (first | (with_reducible assumption) | exact Ext.refl _ | (refine Ext.trans ?_ (by with_reducible assumption))))))); (rfl); (decide +kernel)) | ((apply Runs.load); ((first | assumption | (apply Pts.ext; (assumption); (repeat (first | (with_reducible assumption) | exact Ext.refl _ | (refine Ext.trans ?_ (by with_reducible assumption))))))); (decide +kernel)) | ((apply Runs.loadN); ((first | assumption | (apply Pts.ext; (assumption); (repeat (first | (with_reducible assumption) | exact Ext.refl _ | (refine Ext.trans ?_ (by with_reducible assumption))))))); ((first | (simp only [List.length_cons, List.length_nil, Nat.zero_add, Nat.reduceAdd]; done) | (simp only [List.length_cons, List.length_nil, Nat.zero_add, Nat.reduceAdd]; rfl))); (decide +kernel)) | ((apply Runs.extract); (rfl); (rfl)) | ((apply Runs.not); (rfl)) | ((apply Runs.lss); (rfl); (rfl)) | ((apply Runs.leq); (rfl); (rfl)) | ((apply Runs.gtr); (rfl); (rfl)) | ((apply Runs.geq); (rfl); (rfl)) | ((apply Runs.eql); (rfl); (rfl)) | ((apply Runs.neq); (rfl); (rfl)) | ((apply Runs.inc); (rfl); (rfl); ((first | assumption | omega | (simp only [List.length_map, List.length_cons, Int.toNat_natCast, Int.toNat_zero, Int.toNat_one]; omega)))) | ((apply Runs.add); (rfl); (rfl); ((first | assumption | omega | (simp only [List.length_map, List.length_cons, Int.toNat_natCast, Int.toNat_zero, Int.toNat_one]; omega)))) | ((apply Runs.sub); (rfl); (rfl); ((first | assumption | omega | (simp only [List.length_map, List.length_cons, Int.toNat_natCast, Int.toNat_zero, Int.toNat_one]; omega)))) | ((apply Runs.addU); (rfl); (rfl)) | ((apply Runs.subU); (rfl); (rfl)) | ((apply Runs.eqlS); (rfl); (rfl)) | ((apply Runs.neqS); (rfl); (rfl)) | ((apply Runs.lssS); (rfl); (rfl)) | ((apply Runs.geqS); (rfl); (rfl)) | ((apply Runs.gtrS); (rfl); (rfl)) | ((apply Runs.idxS); (rfl); (rfl); ((first | assumption | omega | (simp only [List.length_map, List.length_cons, Int.toNat_natCast, Int.toNat_zero, Int.toNat_one]; omega))); (decide +kernel)) | ((apply Runs.idxTI); (rfl); ((first | assumption | (apply Sl.ext; (assumption); (repeat (first | (with_reducible assumption) | exact Ext.refl _ | (refine Ext.trans ?_ (by with_reducible assumption))))))); ((first | assumption | omega | (simp only [List.length_map, List.length_cons, Int.toNat_natCast, Int.toNat_zero, Int.toNat_one]; omega))); ((first | assumption | omega | (simp only [List.length_map, List.length_cons, Int.toNat_natCast, Int.toNat_zero, Int.toNat_one]; omega))); (decide +kernel)) | ((apply Runs.idxSI); (rfl); (rfl); ((first | assumption | omega | (simp only [List.length_map, List.length_cons, Int.toNat_natCast, Int.toNat_zero, Int.toNat_one]; omega))); ((first | assumption | omega | (simp only [List.length_map, List.length_cons, Int.toNat_natCast, Int.toNat_zero, Int.toNat_one]; omega))); (decide +kernel)) | ((apply Runs.convB); (rfl); (decide +kernel); (decide +kernel)) | ((apply Runs.cutSI); (rfl); (rfl); (rfl); ((first | assumption | omega | (simp only [List.length_map, List.length_cons, Int.toNat_natCast, Int.toNat_zero, Int.toNat_one]; omega))); ((first | assumption | omega | (simp only [List.length_map, List.length_cons, Int.toNat_natCast, Int.toNat_zero, Int.toNat_one]; omega))); ((first | assumption | omega | (simp only [List.length_map, List.length_cons, Int.toNat_natCast, Int.toNat_zero, Int.toNat_one]; omega))); (decide +kernel)) | ((apply Runs.dropSI); (rfl); (rfl); ((first | assumption | omega | (simp only [List.length_map, List.length_cons, Int.toNat_natCast, Int.toNat_zero, Int.toNat_one]; omega))); ((first | assumption | omega | (simp only [List.length_map, List.length_cons, Int.toNat_natCast, Int.toNat_zero, Int.toNat_one]; omega))); (decide +kernel)) | ((apply Runs.takeSI); (rfl); (rfl); ((first | assumption | omega | (simp only [List.length_map, List.length_cons, Int.toNat_natCast, Int.toNat_zero, Int.toNat_one]; omega))); ((first | assumption | omega | (simp only [List.length_map, List.length_cons, Int.toNat_natCast, Int.toNat_zero, Int.toNat_one]; omega))); (decide +kernel)) | ((apply Runs.cutTI); (rfl); (rfl); ((first | assumption | (apply Sl.ext; (assumption); (repeat (first | (with_reducible assumption) | exact Ext.refl _ | (refine Ext.trans ?_ (by with_reducible assumption))))))); ((first | assumption | omega | (simp only [List.length_map, List.length_cons, Int.toNat_natCast, Int.toNat_zero, Int.toNat_one]; omega))); ((first | assumption | omega | (simp only [List.length_map, List.length_cons, Int.toNat_natCast, Int.toNat_zero, Int.toNat_one]; omega))); ((first | assumption | omega | (simp only [List.length_map, List.length_cons, Int.toNat_natCast, Int.toNat_zero, Int.toNat_one]; omega))); (decide +kernel)) | ((apply Runs.dropTI); (rfl); ((first | assumption | (apply Sl.ext; (assumption); (repeat (first | (with_reducible assumption) | exact Ext.refl _ | (refine Ext.trans ?_ (by with_reducible assumption))))))); ((first | assumption | omega | (simp only [List.length_map, List.length_cons, Int.toNat_natCast, Int.toNat_zero, Int.toNat_one]; omega))); ((first | assumption | omega | (simp only [List.length_map, List.length_cons, Int.toNat_natCast, Int.toNat_zero, Int.toNat_one]; omega))); (decide +kernel)) | ((apply Runs.takeTI); (rfl); ((first | assumption | (apply Sl.ext; (assumption); (repeat (first | (with_reducible assumption) | exact Ext.refl _ | (refine Ext.trans ?_ (by with_reducible assumption))))))); ((first | assumption | omega | (simp only [List.length_map, List.length_cons, Int.toNat_natCast, Int.toNat_zero, Int.toNat_one]; omega))); ((first | assumption | omega | (simp only [List.length_map, List.length_cons, Int.toNat_natCast, Int.toNat_zero, Int.toNat_one]; omega))); (decide +kernel)) | ((apply Runs.shr); (rfl); (rfl); (decide +kernel); (decide +kernel)) | ((apply Runs.shl8); (rfl); (rfl); ((first | assumption | omega | (simp only [List.length_map, List.length_cons, Int.toNat_natCast, Int.toNat_zero, Int.toNat_one]; omega)))) | ((apply Runs.or8); (rfl); (rfl); ((first | assumption | omega | (simp only [List.length_map, List.length_cons, Int.toNat_natCast, Int.toNat_zero, Int.toNat_one]; omega))); ((first | assumption | omega | (simp only [List.length_map, List.length_cons, Int.toNat_natCast, Int.toNat_zero, Int.toNat_one]; omega)))) | ((apply Runs.mul); (rfl); (rfl); ((first | assumption | omega | (simp only [List.length_map, List.length_cons, Int.toNat_natCast, Int.toNat_zero, Int.toNat_one]; omega)))) | exact Runs.func1 | exact Runs.func0 | exact Runs.func2 | exact Runs.func3 | ((apply Runs.nilS); ((first | assumption | (apply Sl.ext; (assumption); (repeat (first | (with_reducible assumption) | exact Ext.refl _ | (refine Ext.trans ?_ (by with_reducible assumption))))))); (decide +kernel)) | ((apply Runs.nilP); (rfl)) | ((apply Runs.nilPts); ((first | assumption | (apply Pts.ext; (assumption); (repeat (first | (with_reducible assumption) | exact Ext.refl _ | (refine Ext.trans ?_ (by with_reducible assumption)))))))) | ((apply Runs.minI); (rfl); (rfl)) | ((apply Runs.strOf (e := 5)); ((first | assumption | (apply Sl.ext; (assumption); (repeat (first | (with_reducible assumption) | exact Ext.refl _ | (refine Ext.trans ?_ (by with_reducible assumption))))))); (decide +kernel); (decide +kernel)) | ((apply Runs.addS); (rfl); (rfl); ((first | omega | (simp only [List.length_append, List.length_cons, List.length_nil]; omega)))) | ((apply Runs.convU); (rfl); (decide +kernel); (decide +kernel)) | ((apply Runs.convS); (rfl); (decide +kernel); (decide +kernel)))) : Runs P o a w v := h
structure St (P : Program) (ops : Array Oper) (Q : Exit → Act → World → Prop) (rest : List Oper) (o : Oper) (ts : List Value) (df : List Deferred) (w : World) : Prop where
 out : wpList P ops Q (o :: rest) (Act.mk ts.toArray df) w
section
variable {P : Program} {ops : Array Oper} {Q : Exit → Act → World → Prop} {rest : List Oper} {o : Oper} {ts ts' t1 t0 : List Value} {df : List Deferred} {w : World} {d e j : Nat} {op : Op} {ty : TypeId} {ps : String} {af : Array Edge} {b want : Bool} {v : Value} {p1 p0 : Prop}
theorem aH (h : St P ops Q rest o ts df w) : wpList P ops Q (o :: rest) (Act.mk ts.toArray df) w := h.out
inductive SR (P : Program) (o : Oper) (ts : List Value) (df : List Deferred) (w : World) (d : Nat) (ts' : List Value) : Prop
 | mk {v : Value} (h1 : Runs P o (Act.mk ts.toArray df) w v) (h2 : ts.set d v = ts') : SR P o ts df w d ts'
structure S1 (P : Program) (ops : Array Oper) (Q : Exit → Act → World → Prop) (rest : List Oper) (d : Nat) (op : Op) (ty : TypeId) (ps : String) (af : Array Edge) (ts : List Value) (df : List Deferred) (w : World) : Prop where
 out : St P ops Q rest (Oper.mk (some d) op ty ps af none) ts df w
structure G1 (P : Program) (ops : Array Oper) (Q : Exit → Act → World → Prop) (rest : List Oper) (dd : Option Nat) (op : Op) (ty : TypeId) (ps : String) (af : Array Edge) (j : Nat) (want : Bool) (ts : List Value) (df : List Deferred) (w : World) : Prop where
 out : St P ops Q rest (Oper.mk dd op ty ps af (some (j, want))) ts df w
theorem iL (h : S1 P ops Q rest d op ty ps af ts df w) : St P ops Q rest (Oper.mk (some d) op ty ps af none) ts df w := h.out
theorem mG {dd : Option Nat} (h : G1 P ops Q rest dd op ty ps af j want ts df w) : St P ops Q rest (Oper.mk dd op ty ps af (some (j, want))) ts df w := h.out
theorem CO (h : wpList P ops Q rest (Act.mk ts'.toArray df) w) (hr : SR P (Oper.mk (some d) op ty ps af none) ts df w d ts' := by (apply SR.mk; (exact rn); (((simp only [List.set_cons_succ, List.set_cons_zero, List.getD_cons_succ, List.getD_cons_zero, List.length_map, if_true, Bool.false_eq_true, if_false, Int.toNat_natCast, Int.toNat_zero, Int.toNat_one, Nat.zero_mul, Bool.not_true, Bool.not_false, decide_true, decide_false]); (with_reducible exact rfl))))) :
 S1 P ops Q rest d op ty ps af ts df w := by obtain ⟨hr, e⟩ := hr; exact ⟨⟨aM hr (e ▸ h)⟩⟩
theorem nQ {dd : Option Nat} (h : wpList P ops Q (Oper.mk dd op ty ps af none :: rest) (Act.mk ts.toArray df) w) (h1 : (ops[j]?).bind (·.dst) = some e := by rfl) (h2 : ts.getD e undef = .bool b := by rfl) (h3 : b = want := by (with_reducible rfl)) :
 G1 P ops Q rest dd op ty ps af j want ts df w := ⟨⟨nY h1 h2 (fun _ => h) (fun h' => (by rw [h3] at h'; cases want <;> cases h'))⟩⟩
theorem FO (h : wpList P ops Q rest (Act.mk ts'.toArray df) w) (h1 : (ops[j]?).bind (·.dst) = some e := by rfl) (h2 : ts.getD e undef = .bool b := by rfl) (h3 : b = !want := by (first | (with_reducible exact (rfl : true = !false)) | (with_reducible exact (rfl : false = !true)) | (exact Bool.not_false.symm) | (exact Bool.not_true.symm))) (e : ts.set d undef = ts' := by ((simp only [List.set_cons_succ, List.set_cons_zero, List.getD_cons_succ, List.getD_cons_zero, List.length_map, if_true, Bool.false_eq_true, if_false, Int.toNat_natCast, Int.toNat_zero, Int.toNat_one, Nat.zero_mul, Bool.not_true, Bool.not_false, decide_true, decide_false]); (with_reducible exact rfl))) :
 G1 P ops Q rest (some d) op ty ps af j want ts df w := ⟨⟨FN h1 h2 h3 (e ▸ h)⟩⟩
theorem FP (h : wpList P ops Q rest (Act.mk ts'.toArray df) w) (h1 : (ops[j]?).bind (·.dst) = some e := by rfl) (h2 : ts.getD e undef = undef := by rfl) (e : ts.set d undef = ts' := by ((simp only [List.set_cons_succ, List.set_cons_zero, List.getD_cons_succ, List.getD_cons_zero, List.length_map, if_true, Bool.false_eq_true, if_false, Int.toNat_natCast, Int.toNat_zero, Int.toNat_one, Nat.zero_mul, Bool.not_true, Bool.not_false, decide_true, decide_false]); (with_reducible exact rfl))) :
 G1 P ops Q rest (some d) op ty ps af j want ts df w := ⟨⟨NN ⟨h1, h2⟩ (e ▸ h)⟩⟩
theorem FQ (h : wpList P ops Q rest (Act.mk ts.toArray df) w) (h1 : (ops[j]?).bind (·.dst) = some e := by rfl) (h2 : ts.getD e undef = .bool b := by rfl) (h3 : b = !want := by (first | (with_reducible exact (rfl : true = !false)) | (with_reducible exact (rfl : false = !true)) | (exact Bool.not_false.symm) | (exact Bool.not_true.symm))) :
 G1 P ops Q rest none op ty ps af j want ts df w := ⟨⟨IA (GV.mk h1 h2 ⟨fun h' => (by rw [h3] at h'; cases want <;> cases h'), fun _ => h⟩)⟩⟩
theorem EC (k1 : p1 → wpList P ops Q (Oper.mk (some d) op ty ps af none :: rest) (Act.mk t1.toArray df) w) (k0 : p0 → wpList P ops Q rest (Act.mk t0.toArray df) w)
 (h1 : (ops[j]?).bind (·.dst) = some e := by rfl) (h2 : ts.getD e undef = .bool b := by rfl) (hp1 : (b = want) = p1 := by ((first | (simp only [decide_eq_true_eq, decide_eq_false_iff_not, Bool.not_true, Bool.not_false]; (with_reducible exact rfl)) | (with_reducible exact rfl)))) (hp0 : (b = !want) = p0 := by ((first | (simp only [decide_eq_true_eq, decide_eq_false_iff_not, Bool.not_true, Bool.not_false]; (with_reducible exact rfl)) | (with_reducible exact rfl))))
 (e1 : b = want → ts = t1 := by (intro hcW; (try simp only [hcW, Bool.not_true, Bool.not_false]); (try simp only [List.set_cons_succ, List.set_cons_zero, List.getD_cons_succ, List.getD_cons_zero, List.length_map, if_true, Bool.false_eq_true, if_false, Int.toNat_natCast, Int.toNat_zero, Int.toNat_one, Nat.zero_mul, Bool.not_true, Bool.not_false, decide_true, decide_false]); (with_reducible exact rfl))) (e0 : b = !want → ts.set d undef = t0 := by (intro hcW; (try simp only [hcW, Bool.not_true, Bool.not_false]); (try simp only [List.set_cons_succ, List.set_cons_zero, List.getD_cons_succ, List.getD_cons_zero, List.length_map, if_true, Bool.false_eq_true, if_false, Int.toNat_natCast, Int.toNat_zero, Int.toNat_one, Nat.zero_mul, Bool.not_true, Bool.not_false, decide_true, decide_false]); (with_reducible exact rfl))) : G1 P ops Q rest (some d) op ty ps af j want ts df w :=
 ⟨⟨NO ⟨h1, h2, fun h => e1 h ▸ k1 (hp1 ▸ h), fun h => e0 h ▸ k0 (hp0 ▸ h)⟩⟩⟩
theorem ED (k1 : p1 → wpList P ops Q (Oper.mk none op ty ps af none :: rest) (Act.mk t1.toArray df) w) (k0 : p0 → wpList P ops Q rest (Act.mk t0.toArray df) w)
 (h1 : (ops[j]?).bind (·.dst) = some e := by rfl) (h2 : ts.getD e undef = .bool b := by rfl) (hp1 : (b = want) = p1 := by ((first | (simp only [decide_eq_true_eq, decide_eq_false_iff_not, Bool.not_true, Bool.not_false]; (with_reducible exact rfl)) | (with_reducible exact rfl)))) (hp0 : (b = !want) = p0 := by ((first | (simp only [decide_eq_true_eq, decide_eq_false_iff_not, Bool.not_true, Bool.not_false]; (with_reducible exact rfl)) | (with_reducible exact rfl))))
 (e1 : b = want → ts = t1 := by (intro hcW; (try simp only [hcW, Bool.not_true, Bool.not_false]); (try simp only [List.set_cons_succ, List.set_cons_zero, List.getD_cons_succ, List.getD_cons_zero, List.length_map, if_true, Bool.false_eq_true, if_false, Int.toNat_natCast, Int.toNat_zero, Int.toNat_one, Nat.zero_mul, Bool.not_true, Bool.not_false, decide_true, decide_false]); (with_reducible exact rfl))) (e0 : b = !want → ts = t0 := by (intro hcW; (try simp only [hcW, Bool.not_true, Bool.not_false]); (try simp only [List.set_cons_succ, List.set_cons_zero, List.getD_cons_succ, List.getD_cons_zero, List.length_map, if_true, Bool.false_eq_true, if_false, Int.toNat_natCast, Int.toNat_zero, Int.toNat_one, Nat.zero_mul, Bool.not_true, Bool.not_false, decide_true, decide_false]); (with_reducible exact rfl))) : G1 P ops Q rest none op ty ps af j want ts df w :=
 ⟨⟨IA ⟨h1, h2, fun h => e1 h ▸ k1 (hp1 ▸ h), fun h => e0 h ▸ k0 (hp0 ▸ h)⟩⟩⟩
structure Sq (P : Program) (ops : Array Oper) (C : World → Prop) (QQ : Act → Prop) (rest : List Oper) (o : Oper) (ts : List Value) (df : List Deferred) : Prop where
 out : wpQuiet P ops C QQ (o :: rest) (Act.mk ts.toArray df)
structure Q1 (P : Program) (ops : Array Oper) (C : World → Prop) (QQ : Act → Prop) (rest : List Oper) (d : Nat) (op : Op) (ty : TypeId) (ps : String) (af : Array Edge) (ts : List Value) (df : List Deferred) : Prop where
 out : Sq P ops C QQ rest (Oper.mk (some d) op ty ps af none) ts df
structure QG (P : Program) (ops : Array Oper) (C : World → Prop) (QQ : Act → Prop) (rest : List Oper) (d : Nat) (op : Op) (ty : TypeId) (ps : String) (af : Array Edge) (j : Nat) (want : Bool) (ts : List Value) (df : List Deferred) : Prop where
 out : Sq P ops C QQ rest (Oper.mk (some d) op ty ps af (some (j, want))) ts df
inductive SRq (P : Program) (o : Oper) (ts : List Value) (df : List Deferred) (C : World → Prop) (d : Nat) (ts' : List Value) : Prop
 | mk {v : Value} (h1 : ∀ w, C w → Runs P o (Act.mk ts.toArray df) w v) (h2 : ts.set d v = ts') : SRq P o ts df C d ts'
variable {C : World → Prop} {QQ : Act → Prop}
theorem SB (h : Sq P ops C QQ rest o ts df) : wpQuiet P ops C QQ (o :: rest) (Act.mk ts.toArray df) := h.out
theorem SC (h : Q1 P ops C QQ rest d op ty ps af ts df) : Sq P ops C QQ rest (Oper.mk (some d) op ty ps af none) ts df := h.out
theorem SD (h : QG P ops C QQ rest d op ty ps af j want ts df) : Sq P ops C QQ rest (Oper.mk (some d) op ty ps af (some (j, want))) ts df := h.out
theorem TA (h : wpQuiet P ops C QQ rest (Act.mk ts'.toArray df)) (hr : SRq P (Oper.mk (some d) op ty ps af none) ts df C d ts' := by (apply SRq.mk; (intro _ _; exact rn); (((simp only [List.set_cons_succ, List.set_cons_zero, List.getD_cons_succ, List.getD_cons_zero, List.length_map, if_true, Bool.false_eq_true, if_false, Int.toNat_natCast, Int.toNat_zero, Int.toNat_one, Nat.zero_mul, Bool.not_true, Bool.not_false, decide_true, decide_false]); (with_reducible exact rfl))))) : Q1 P ops C QQ rest d op ty ps af ts df := by
 obtain ⟨hr, e⟩ := hr; exact ⟨⟨pI hr (e ▸ h)⟩⟩
theorem SE (h : wpQuiet P ops C QQ (Oper.mk (some d) op ty ps af none :: rest) (Act.mk ts.toArray df)) (h1 : (ops[j]?).bind (·.dst) = some e := by rfl) (h2 : ts.getD e undef = .bool b := by rfl) (h3 : b = want := by (with_reducible rfl)) : QG P ops C QQ rest d op ty ps af j want ts df := by
 refine ⟨⟨?_⟩⟩
 have hw := tU (op := op) (ty := ty) (ps := ps) (af := af) (o := some d) h1 h2 h3
 unfold wpQuiet at h ⊢
 rw [if_pos hw]
 rw [if_pos (by simp [Region.wanted])] at h
 exact h
theorem SF (h : wpQuiet P ops C QQ rest (Act.mk ts'.toArray df)) (h1 : (ops[j]?).bind (·.dst) = some e := by rfl) (h2 : ts.getD e undef = .bool b := by rfl) (h3 : b = !want := by (first | (with_reducible exact (rfl : true = !false)) | (with_reducible exact (rfl : false = !true)) | (exact Bool.not_false.symm) | (exact Bool.not_true.symm))) (e : ts.set d undef = ts' := by ((simp only [List.set_cons_succ, List.set_cons_zero, List.getD_cons_succ, List.getD_cons_zero, List.length_map, if_true, Bool.false_eq_true, if_false, Int.toNat_natCast, Int.toNat_zero, Int.toNat_one, Nat.zero_mul, Bool.not_true, Bool.not_false, decide_true, decide_false]); (with_reducible exact rfl))) : QG P ops C QQ rest d op ty ps af j want ts df :=
 ⟨⟨wX h1 h2 h3 (e ▸ h)⟩⟩
theorem SG (h : wpQuiet P ops C QQ rest (Act.mk ts'.toArray df)) (h1 : (ops[j]?).bind (·.dst) = some e := by rfl) (h2 : ts.getD e undef = undef := by rfl) (e : ts.set d undef = ts' := by ((simp only [List.set_cons_succ, List.set_cons_zero, List.getD_cons_succ, List.getD_cons_zero, List.length_map, if_true, Bool.false_eq_true, if_false, Int.toNat_natCast, Int.toNat_zero, Int.toNat_one, Nat.zero_mul, Bool.not_true, Bool.not_false, decide_true, decide_false]); (with_reducible exact rfl))) : QG P ops C QQ rest d op ty ps af j want ts df :=
 ⟨⟨zY (wW ⟨h1, h2⟩) (e ▸ h)⟩⟩
theorem SH {a : Act} (h : QQ a) : wpQuiet P ops C QQ [] a := EA h
end
section
variable {P : Program} {Q : Exit → Act → World → Prop} {S : World → Prop} {l : List Oper} {ts : List Value} {df : List Deferred} {d : Nat} {ty : TypeId} {ps : String} {af : Array Edge} {g : Option (Nat × Bool)} {w : World} {fuel : Nat} {listed : List Bool}
theorem tk (i : Nat) {fuel2 : Nat} {op : Op} {v : Value} (h : wpAnyH P .any l.toArray Q S fuel (listed.set i true).toArray (Act.mk (ts.set d v).toArray df) w)
 (hi : l[i]? = some (Oper.mk (some d) op ty ps af g) := by rfl) (hfu : fuel2 = fuel + 1 := by rfl) (hs : Region.noSelect l.toArray = true := by decide +kernel) (hf : Region.free .any l.toArray listed.toArray i = true := by decide +kernel) (hr : (Region.ready .any l.toArray listed.toArray).contains i = true := by decide +kernel)
 (hw : Region.wanted (Oper.mk (some d) op ty ps af g) (yielded l.toArray ts.toArray) = true := by rfl) (hS : S w := by (repeat (first | (with_reducible assumption) | exact Ext.refl _ | (refine Ext.trans ?_ (by with_reducible assumption)))))
 (hy : ∀ w', S w' → Runs P (Oper.mk (some d) op ty ps af g) (Act.mk ts.toArray df) w' v := by (intro _ _; exact rn)) (hQ : ∀ c a w, Q (.panic c) (a.put (some d) v) w → Q (.panic c) a w := by exact fun _ _ _ h => h) : wpAnyH P .any l.toArray Q S fuel2 listed.toArray (Act.mk ts.toArray df) w :=
 dK hi hfu hs hf hr hw hS hy hQ h
theorem nR (i : Nat) {fuel2 : Nat} {op : Op} (h : wpAnyH P .any l.toArray Q S fuel (listed.set i true).toArray (Act.mk (ts.set d undef).toArray df) w)
 (hi : l[i]? = some (Oper.mk (some d) op ty ps af g) := by rfl) (hfu : fuel2 = fuel + 1 := by rfl) (hs : Region.noSelect l.toArray = true := by decide +kernel) (hf : Region.free .any l.toArray listed.toArray i = true := by decide +kernel) (hr : (Region.ready .any l.toArray listed.toArray).contains i = true := by decide +kernel)
 (hQ : ∀ c a w, Q (.panic c) (a.put (some d) undef) w → Q (.panic c) a w := by exact fun _ _ _ h => h) (hw : Region.wanted (Oper.mk (some d) op ty ps af g) (yielded l.toArray ts.toArray) = false := by rfl) (hS : S w := by (repeat (first | (with_reducible assumption) | exact Ext.refl _ | (refine Ext.trans ?_ (by with_reducible assumption))))) : wpAnyH P .any l.toArray Q S fuel2 listed.toArray (Act.mk ts.toArray df) w :=
 IC hi hfu hs hf hr hQ hw hS h
end
structure Hid (G : Prop) : Prop where
 out : G
section
variable {P : Program} {ops : Array Oper} {Q : Exit → Act → World → Prop} {rest : List Oper} {o : Oper} {ts : List Value} {df : List Deferred} {w : World} {C : World → Prop} {QQ : Act → Prop} {l : List Oper} {a : Act}
theorem bQ {G' : Prop} (h : G') (e : Hid G' → St P ops Q rest o ts df w := by (intro hk; (first | (refine iL ?_; refine CO ?_) | (refine mG ?_; first | refine nQ ?_ | refine FO ?_ | refine FQ ?_ | refine FP ?_)); (repeat ((with_reducible refine aH ?_); (first | (refine iL ?_; refine CO ?_) | (refine mG ?_; first | refine nQ ?_ | refine FO ?_ | refine FQ ?_ | refine FP ?_)))); exact hk.out)) : St P ops Q rest o ts df w := e ⟨h⟩
structure Qh (P : Program) (ops : Array Oper) (C : World → Prop) (QQ : Act → Prop) (l : List Oper) (a : Act) : Prop where
 out : wpQuiet P ops C QQ l a
theorem AI (h : Qh P ops C QQ l a) : wpQuiet P ops C QQ l a := h.out
theorem KY {G' : Prop} (h : G') (e : Hid G' → wpQuiet P ops C QQ l a := by (intro hk; (repeat (first | ((with_reducible refine SB ?_); (first | (refine SC ?_; refine TA ?_) | (refine SD ?_; first | refine SE ?_ | refine SF ?_ | refine SG ?_))) | (with_reducible refine SH ?_))); exact hk.out)) : Qh P ops C QQ l a := ⟨e ⟨h⟩⟩
theorem aK {G1 G0 p1 p0 : Prop} (h1 : p1 → G1) (h0 : p0 → G0) (e : (p1 → G1) → (p0 → G0) → St P ops Q rest o ts df w := by (intro hk1 hk0; refine mG ?_; first | exact EC hk1 hk0 | exact ED hk1 hk0)) : St P ops Q rest o ts df w := e h1 h0
structure NoOp (G G' : Prop) : Prop where
 out : G = G'
theorem ID : NoOp (wpList P ops Q (o :: rest) (Act.mk ts.toArray df) w) (wpList P ops Q (o :: rest) (Act.mk ts.toArray df) w) := ⟨rfl⟩
end
inductive TkI (P : Program) (Q : Exit → Act → World → Prop) (k : Nat) (F : World → Prop) (l : List Oper) (ts : List Value) (df : List Deferred) (listed : List Bool) (fuel2 i fuel : Nat) (ts' : List Value) : Prop
 | mk {d op ty ps af g v} (hi : l[i]? = some (Oper.mk (some d) op ty ps af g)) (hfu : fuel2 = fuel + 1) (hik : decide (i ≠ k) = true) (hk : tE .any l.toArray l.length k i = true) (hs : Region.noSelect l.toArray = true) (hf : Region.free .any l.toArray listed.toArray i = true) (hr : (Region.ready .any l.toArray listed.toArray).contains i = true)
   (hw : Region.wanted (Oper.mk (some d) op ty ps af g) (yielded l.toArray ts.toArray) = true) (hy : ∀ w', F w' → Runs P (Oper.mk (some d) op ty ps af g) (Act.mk ts.toArray df) w' v) (hQ : ∀ c a w, Q (.panic c) (a.put (some d) v) w → Q (.panic c) a w) (e : ts.set d v = ts') : TkI P Q k F l ts df listed fuel2 i fuel ts'
theorem CH (i : Nat) {P : Program} {Q : Exit → Act → World → Prop} {k : Nat} {F : World → Prop} {l : List Oper} {ts ts' : List Value} {df : List Deferred} {listed : List Bool} {fuel2 fuel : Nat} {w : World} (h : wF P Q k F l fuel (listed.set i true) (Act.mk ts'.toArray df) w)
 (e : TkI P Q k F l ts df listed fuel2 i fuel ts' := by refine TkI.mk (by rfl) (by rfl) (by decide +kernel) (by decide +kernel) (by decide +kernel) (by decide +kernel) (by decide +kernel) (by rfl) (by (intro _ _; exact rn)) (fun _ _ _ h => h) (by ((simp only [List.set_cons_succ, List.set_cons_zero, List.getD_cons_succ, List.getD_cons_zero, List.length_map, if_true, Bool.false_eq_true, if_false, Int.toNat_natCast, Int.toNat_zero, Int.toNat_one, Nat.zero_mul, Bool.not_true, Bool.not_false, decide_true, decide_false]); (with_reducible exact rfl)))) : wF P Q k F l fuel2 listed (Act.mk ts.toArray df) w := by
 obtain ⟨hi, hfu, hik, hk, hs, hf, hr, hw, hy, hQ, e⟩ := e
 exact bB hi hfu hik hk hs hf hr hw hy hQ (e ▸ h)
inductive TkP (P : Program) (Q : Exit → Act → World → Prop) (k : Nat) (F : World → Prop) (l : List Oper) (ts : List Value) (df : List Deferred) (listed : List Bool) (fuel2 i fuel : Nat) (ts' : List Value) : Prop
 | mk {d op ty ps af g v} (hi : l[i]? = some (Oper.mk (some d) op ty ps af g)) (hfu : fuel2 = fuel + 1) (hik : decide (i ≠ k) = true) (hs : Region.noSelect l.toArray = true) (hf : Region.free .any l.toArray listed.toArray i = true) (hr : (Region.ready .any l.toArray listed.toArray).contains i = true)
   (hw : Region.wanted (Oper.mk (some d) op ty ps af g) (yielded l.toArray ts.toArray) = true) (hy : ∀ w', Runs P (Oper.mk (some d) op ty ps af g) (Act.mk ts.toArray df) w' v) (hQ : ∀ c a w, Q (.panic c) (a.put (some d) v) w → Q (.panic c) a w) (e : ts.set d v = ts') : TkP P Q k F l ts df listed fuel2 i fuel ts'
theorem NP (i : Nat) {P : Program} {Q : Exit → Act → World → Prop} {k : Nat} {F : World → Prop} {l : List Oper} {ts ts' : List Value} {df : List Deferred} {listed : List Bool} {fuel2 fuel : Nat} {w : World} (h : wF P Q k F l fuel (listed.set i true) (Act.mk ts'.toArray df) w)
 (e : TkP P Q k F l ts df listed fuel2 i fuel ts' := by refine TkP.mk (by rfl) (by rfl) (by decide +kernel) (by decide +kernel) (by decide +kernel) (by decide +kernel) (by rfl) (by (intro _; exact rn)) (fun _ _ _ h => h) (by ((simp only [List.set_cons_succ, List.set_cons_zero, List.getD_cons_succ, List.getD_cons_zero, List.length_map, if_true, Bool.false_eq_true, if_false, Int.toNat_natCast, Int.toNat_zero, Int.toNat_one, Nat.zero_mul, Bool.not_true, Bool.not_false, decide_true, decide_false]); (with_reducible exact rfl)))) : wF P Q k F l fuel2 listed (Act.mk ts.toArray df) w := by
 obtain ⟨hi, hfu, hik, hs, hf, hr, hw, hy, hQ, e⟩ := e
 exact cU hi hfu hik hs hf hr hw hy hQ (e ▸ h)
theorem QV (i : Nat) {P : Program} {Q : Exit → Act → World → Prop} {k : Nat} {F : World → Prop} {l : List Oper} {ts : List Value} {df : List Deferred} {listed : List Bool} {fuel2 fuel d ty : Nat} {op : Op} {ps : String} {af : Array Edge} {g : Option (Nat × Bool)} {v : Value} {w : World}
 (hi : l[i]? = some (Oper.mk (some d) op ty ps af g)) (hy : ∀ w', Runs P (Oper.mk (some d) op ty ps af g) (Act.mk ts.toArray df) w' v) (h : wF P Q k F l fuel (listed.set i true) (Act.mk (ts.set d v).toArray df) w)
 (hfu : fuel2 = fuel + 1 := by rfl) (hik : decide (i ≠ k) = true := by decide +kernel) (hs : Region.noSelect l.toArray = true := by decide +kernel) (hf : Region.free .any l.toArray listed.toArray i = true := by decide +kernel) (hr : (Region.ready .any l.toArray listed.toArray).contains i = true := by decide +kernel)
 (hw : Region.wanted (Oper.mk (some d) op ty ps af g) (yielded l.toArray ts.toArray) = true := by rfl) (hQ : ∀ c a w, Q (.panic c) (a.put (some d) v) w → Q (.panic c) a w := by exact fun _ _ _ h => h) : wF P Q k F l fuel2 listed (Act.mk ts.toArray df) w := cU hi hfu hik hs hf hr hw hy hQ h
theorem aJ {G G' : Prop} (h : G') (e : NoOp G G' := by ((fail_if_success (with_reducible exact ID)); exact ⟨rfl⟩)) : G := e.out.mpr h
end Go.Proofs.X
set_option linter.unusedVariables false
set_option linter.unusedSimpArgs false
namespace Go.Proofs.X
open Go.RowKit
theorem pL {α : Type} [Inhabited α] (enc : α → List Value) (k : Nat) (hk : ∀ x, (enc x).length = k) (l : List α) : (Sort.flatK enc k l.toArray).toList = (l.map enc).flatten := by
 have hall : ∀ x ∈ l.map enc, x.length = k := by
  intro x hx
  obtain ⟨y, _, rfl⟩ := List.mem_map.1 hx
  exact hk y
 have hfl := bE hall
 have h : Sort.flatK enc k l.toArray = ((l.map enc).flatten).toArray := by
  refine Sort.ext_get! (by simp [hfl]) fun t ht => ?_
  have ht' : t < l.length * k := by simpa using ht
  rw [Sort.get_flatK _ _ _ t (by simpa using ht')]
  have k0 : 0 < k := by
   rcases Nat.eq_zero_or_pos k with h | h
   ·subst h; simp at ht'
   ·exact h
  have hd : t / k < l.length := Nat.div_lt_of_lt_mul (by rw [Nat.mul_comm]; exact ht')
  have hm : t % k < k := Nat.mod_lt _ k0
  have e1 : l.toArray[t / k]! = l[t / k] := by rw [getElem!_pos _ _ (by simpa using hd)]; simp
  rw [e1]
  have h1 := gX hall (i := t / k) (j := t % k) (e := enc l[t / k]) (x := (enc l[t / k])[t % k]'(by rw [hk]; exact hm)) (by simp [hd]) (List.getElem?_eq_getElem (by rw [hk]; exact hm))
  rw [show t / k * k + t % k = t by rw [Nat.mul_comm]; exact Nat.div_add_mod t k] at h1
  have h2 : t < (l.map enc).flatten.length := (List.getElem?_eq_some_iff.1 h1).1
  rw [getElem!_pos _ t (by simpa using h2)]
  have h3 := (List.getElem?_eq_some_iff.1 h1).2
  simp only [List.getElem_toArray]
  rw [h3, getElem!_pos _ _ (by rw [hk]; exact hm)]
 rw [h]
theorem Own.holdsF {B k e g cap n : Nat} {w : World} {es : List (List Value)} (h : Own B k e w (.slice (some ⟨g, 0, none⟩) n cap) es) : Sort.Holds id w g 0 es.flatten.toArray := by
 rcases h.row.2 with ⟨h0, _⟩ | ⟨g', cap', cur, fz, hv, hb, hg, hfz, hnc, hcm, hcs, htake⟩
 ·cases h0
 ·simp only [Value.slice.injEq, Option.some.injEq, Addr.mk.injEq, and_true, true_and] at hv
  obtain ⟨rfl, _, rfl⟩ := hv
  have hlen := bE h.each
  have hck : es.length * k ≤ cap * k := Nat.mul_le_mul_right k hnc
  intro j hj
  have hj' : j < es.flatten.length := by simpa using hj
  have hjc : j < cur.size := by omega
  constructor
  ·rw [Nat.zero_add, cell_of_row w g j cur e fz hg]
   have := congrArg (·[j]?) htake
   simp only [List.getElem?_take, if_pos (show j < es.length * k by omega), List.getElem?_eq_getElem hj'] at this
   rw [← Array.getElem?_toList, this]
   rw [getElem!_pos _ j hj]
   simp
  ·rw [Nat.zero_add]; exact nW hg hfz hjc
theorem Own.putRowF {B k e g cap : Nat} {w : World} {es fs : List (List Value)} (h : Own B k e w (.slice (some ⟨g, 0, none⟩) es.length cap) es) (hl : fs.length = es.length) (hf : ∀ x ∈ fs, x.length = k) (n : Nat) (os : Array Obj) :
 Own B k e (Sort.grow (Sort.putRow id (Sort.ahead w n) g 0 fs.flatten.toArray) os) (.slice (some ⟨g, 0, none⟩) es.length cap) fs ∧ Mv (some g) w (Sort.grow (Sort.putRow id (Sort.ahead w n) g 0 fs.flatten.toArray) os) := by
 rcases h.row.2 with ⟨h0, _⟩ | ⟨g', cap', cur, fz, hv, hb, hg, hfz, hnc, hcm, hcs, htake⟩
 ·cases h0
 ·simp only [Value.slice.injEq, Option.some.injEq, Addr.mk.injEq, and_true, true_and] at hv
  obtain ⟨rfl, rfl⟩ := hv
  have hgs : g < w.heap.size := (Array.getElem?_eq_some_iff.1 hg).1
  have hg2 : (Sort.grow (Sort.putRow id (Sort.ahead w n) g 0 fs.flatten.toArray) os).heap[g]? = some (.cells (Sort.putCells id 0 fs.flatten.toArray cur) e fz) := by
   simp only [Sort.grow, Sort.putRow, Sort.mapBlock, Sort.ahead]
   rw [Array.getElem?_append_left (by simpa using hgs), Array.getElem?_modify, if_pos rfl, hg]
   rfl
  have hsz : (Sort.putCells id 0 fs.flatten.toArray cur).size = cur.size := by simp [Sort.putCells]
  have hlen := bE hf
  have hck : es.length * k ≤ cap * k := Nat.mul_le_mul_right k hnc
  refine ⟨⟨⟨hlen, .inr ⟨g, cap, _, fz, by rw [hl], hb, hg2, by rw [hsz]; exact hfz, by omega, hcm, by rw [hsz]; exact hcs, ?_⟩⟩, hf⟩, ⟨rfl, rfl, rfl, ?_, ?_, Nat.le_add_right _ _⟩⟩
  ·apply List.ext_getElem?
   intro j
   simp only [List.getElem?_take]
   by_cases hj : j < fs.length * k
   ·have hpk : fs.length * k = es.length * k := by rw [hl]
    have hjf : j < fs.flatten.length := by omega
    have hjc : j < cur.toList.length := by rw [Array.length_toList]; omega
    rw [if_pos hj, List.getElem?_eq_getElem hjf]
    simp only [Sort.putCells, Array.toList_mapIdx, List.getElem?_mapIdx]
    rw [List.getElem?_eq_getElem hjc, Option.map_some]
    have hc : (0 ≤ j ∧ j < 0 + fs.flatten.toArray.size) := by constructor; omega; simp only [List.size_toArray]; omega
    rw [if_pos hc]
    simp only [Nat.sub_zero, id]
    rw [getElem!_pos _ j (by simpa only [List.size_toArray] using hjf), List.getElem_toArray]
   ·rw [if_neg hj, List.getElem?_eq_none (by omega)]
  ·simp only [Sort.grow, Sort.putRow, Sort.mapBlock, Sort.ahead, Array.size_append, Array.size_modify]; omega
  ·intro k hk hne
   simp only [Sort.grow, Sort.putRow, Sort.mapBlock, Sort.ahead]
   rw [Array.getElem?_append_left (by simpa using hk), Array.getElem?_modify, if_neg (fun e => hne (by rw [e]))]
end Go.Proofs.X
namespace Go.Proofs.X
open Go
def FS : Nat → List UInt8 → Option (List (List UInt8))
 | _, [] => some []
 | 0, _ :: _ => none
 | f + 1, k :: t => if k.toNat < 1 ∨ 63 < k.toNat ∨ t.length < k.toNat then none else (FS f (t.drop k.toNat)).map (t.take k.toNat :: ·)
theorem qZ : ∀ (f : Nat) (l : List UInt8), l.length ≤ f → FS f l = FS l.length l
 | 0, [], _ => rfl
 | f + 1, [], _ => rfl
 | f + 1, k :: t, h => by
   simp only [List.length_cons] at h ⊢
   unfold FS
   split
   ·rfl
   ·rw [qZ f (t.drop k.toNat) (by simp; omega), qZ t.length (t.drop k.toNat) (by simp)]
def iP (l : List UInt8) : Option (List (List UInt8)) := FS l.length l
theorem wY : iP [] = some [] := rfl
theorem lI (k : UInt8) (t : List UInt8) : iP (k :: t) = if k.toNat < 1 ∨ 63 < k.toNat ∨ t.length < k.toNat then none else (iP (t.drop k.toNat)).map (t.take k.toNat :: ·) := by
 unfold iP
 simp only [List.length_cons]
 rw [FS]
 split
 ·rfl
 ·rw [qZ t.length (t.drop k.toNat) (by simp)]
def aX (n : List UInt8) : Option (List (List UInt8)) := if 254 < n.length then none else iP n
def tZ (b : UInt8) : UInt8 := if 65 ≤ b.toNat ∧ b.toNat ≤ 90 then b + 32 else b
def low (l : List UInt8) : List UInt8 := l.map tZ
def enc (ls : List (List UInt8)) : List UInt8 := (ls.map fun x => UInt8.ofNat x.length :: x).flatten
def gK (x : List UInt8) : Bool := decide (1 ≤ x.length) && decide (x.length ≤ 63)
def nP (ls : List (List UInt8)) : Option (List UInt8) := if ls.all gK = true ∧ (enc ls).length ≤ 254 then some (enc ls) else none
def fold (n : List UInt8) : List UInt8 := match aX n with | none => n | some ls => (nP (ls.map low)).getD []
def mO (l : List UInt8) (k : Nat) : List UInt8 := low (l.take k) ++ l.drop k
theorem sA (l : List UInt8) (k : Nat) : (mO l k).length = l.length := by simp [mO, low]; omega
theorem FT (l : List UInt8) : mO l 0 = l := by simp [mO, low]
theorem IE (l : List UInt8) : mO l l.length = low l := by simp [mO]
theorem AJ (l : List UInt8) (k : Nat) (h : k < l.length) : (mO l k)[k]? = some l[k] := by
 have hm : (low (l.take k)).length = k := by simp [low]; omega
 rw [mO, List.getElem?_append_right (by omega), hm]
 simp [h]
theorem wZ (l : List UInt8) (k : Nat) (h : k < l.length) : mO l (k + 1) = (mO l k).set k (tZ l[k]) := by
 have hm : (low (l.take k)).length = k := by simp [low]; omega
 have h1 : l.take (k + 1) = l.take k ++ [l[k]] := by rw [List.take_add_one, List.getElem?_eq_getElem h]; rfl
 have h2 : l.drop k = l[k] :: l.drop (k + 1) := List.drop_eq_getElem_cons h
 unfold mO
 rw [List.set_append_right _ _ (by omega), hm, h2, h1, Nat.sub_self, List.set_cons_zero]
 simp only [low, List.map_append, List.map_cons, List.map_nil, List.append_assoc, List.singleton_append]
theorem xB (l : List UInt8) (k : Nat) (h : k < l.length) (hs : tZ l[k] = l[k]) : mO l (k + 1) = mO l k := by
 rw [wZ l k h, hs]
 apply List.ext_getElem?
 intro j
 by_cases hj : k = j
 ·subst hj; rw [List.getElem?_set_self (by rw [sA]; exact h), AJ l k h]
 ·rw [List.getElem?_set_ne hj]
theorem EF {b : UInt8} (h : ¬ (65 ≤ b.toNat ∧ b.toNat ≤ 90)) : tZ b = b := by rw [tZ, if_neg h]
def rA {α : Type} (f : α → α) (l : List α) (k : Nat) : List α := (l.take k).map f ++ l.drop k
theorem AK {α : Type} (f : α → α) (l : List α) (k : Nat) : (rA f l k).length = l.length := by simp [rA]; omega
theorem FU {α : Type} (f : α → α) (l : List α) : rA f l 0 = l := by simp [rA]
theorem IF {α : Type} (f : α → α) (l : List α) : rA f l l.length = l.map f := by simp [rA]
theorem IG {α : Type} (f : α → α) (l : List α) (k : Nat) (h : k < l.length) : (rA f l k)[k]? = some l[k] := by
 have hm : ((l.take k).map f).length = k := by simp; omega
 rw [rA, List.getElem?_append_right (by omega), hm]
 simp [h]
theorem FV {α : Type} (f : α → α) (l : List α) (k : Nat) (h : k < l.length) : rA f l (k + 1) = (rA f l k).set k (f l[k]) := by
 have hm : ((l.take k).map f).length = k := by simp; omega
 have h1 : l.take (k + 1) = l.take k ++ [l[k]] := by rw [List.take_add_one, List.getElem?_eq_getElem h]; rfl
 have h2 : l.drop k = l[k] :: l.drop (k + 1) := List.drop_eq_getElem_cons h
 unfold rA
 rw [List.set_append_right _ _ (by omega), hm, h2, h1, Nat.sub_self, List.set_cons_zero]
 simp only [List.map_append, List.map_cons, List.map_nil, List.append_assoc, List.singleton_append]
theorem xD : ∀ (n : Nat) (l : List UInt8), l.length ≤ n → ∀ ls, iP l = some ls → ls.all gK = true ∧ enc ls = l
 | _, [], _, ls, h => by
   rw [wY] at h; cases h; exact ⟨rfl, rfl⟩
 | 0, _ :: _, hn, _, _ => by simp at hn
 | n + 1, k :: t, hn, ls, h => by
   rw [lI] at h
   split at h
   ·cases h
   ·rename_i hk
    cases hp : iP (t.drop k.toNat) with
    | none => rw [hp] at h; cases h
    | some ms =>
     rw [hp] at h
     cases h
     obtain ⟨h1, h2⟩ := xD n (t.drop k.toNat) (by simp at hn ⊢; omega) ms hp
     have hlen : (t.take k.toNat).length = k.toNat := by simp; omega
     refine ⟨?_, ?_⟩
     ·simp only [List.all_cons, h1, Bool.and_true, gK, hlen, Bool.and_eq_true, decide_eq_true_eq]; omega
     ·have : enc (t.take k.toNat :: ms) = UInt8.ofNat (t.take k.toNat).length :: (t.take k.toNat) ++ enc ms := by simp [enc]
      rw [this, h2, hlen]
      simp
theorem fD {l : List UInt8} {ls : List (List UInt8)} (h : aX l = some ls) : ls.all gK = true ∧ enc ls = l ∧ l.length ≤ 254 := by
 unfold aX at h
 split at h
 ·cases h
 ·have := xD l.length l (Nat.le_refl _) ls h
  exact ⟨this.1, this.2, by omega⟩
theorem uA (l : List UInt8) : (low l).length = l.length := by simp [low]
theorem lJ : ∀ ls : List (List UInt8), (enc ls).length = (ls.map fun x => x.length + 1).sum
 | [] => rfl
 | x :: ls => by
   have := lJ ls
   have e : enc (x :: ls) = UInt8.ofNat x.length :: x ++ enc ls := by simp [enc]
   rw [e]
   simp [this]; omega
theorem uD (ls : List (List UInt8)) : (enc (ls.map low)).length = (enc ls).length := by
 rw [lJ, lJ, List.map_map]
 congr 1
 apply List.map_congr_left
 intro x _
 simp [uA]
theorem lK (ls : List (List UInt8)) : ls.length ≤ (enc ls).length := by
 rw [lJ]
 induction ls with
 | nil => simp
 | cons x ls ih => simp; omega
theorem uE {x : List UInt8} : ∀ {ls : List (List UInt8)}, x ∈ ls → x.length < (enc ls).length
 | y :: ls, h => by
   have e : enc (y :: ls) = UInt8.ofNat y.length :: y ++ enc ls := by simp [enc]
   rw [e]
   rcases List.mem_cons.1 h with rfl | h
   ·simp; omega
   ·have := uE h
    simp; omega
def mP (a b : List UInt8) : Int := if Op.bytesLess a b = true then -1 else if Op.bytesLess a b = false ∧ a ≠ b then 1 else 0
def gH : List (List UInt8) → List (List UInt8) → Int
 | [], [] => 0
 | [], _ :: _ => -1
 | _ :: _, [] => 1
 | x :: xs, y :: ys => if mP x y ≠ 0 then mP x y else gH xs ys
def dD (n : List UInt8) : Option (List (List UInt8)) := (aX (fold n)).map List.reverse
def lL (a b : List UInt8) : Int := match dD a, dD b with
 | none, none => mP a b
 | none, some _ => -1
 | some _, none => 1
 | some x, some y => gH x y
def gU (s : List UInt8) : Option (List UInt8) := if Lib.hasSuffix s [0] = true ∧ (aX (Lib.trimSuffix s [0])).isSome = true then some (Lib.trimSuffix s [0]) else none
def fJ (k : Int) : Int := if k = 33 then 6 else if k = 15 then 2 else if k = 2 ∨ k = 5 ∨ k = 12 then 0 else -1
def bA (k : Int) (d : List UInt8) : List UInt8 × Int :=
 if fJ k < 0 then ([], 5) else if (d.length : Int) < fJ k then ([], 2) else match gU (d.drop (fJ k).toNat) with
  | none => ([], 2)
  | some n => (n, 0)
def xE : Nat → List UInt8 → Nat
 | _, [] => 0
 | 0, _ :: _ => 0
 | f + 1, k :: t => if k.toNat = 0 then 0 else 1 + k.toNat + xE f (t.drop k.toNat)
theorem oA : ∀ (f : Nat) (l : List UInt8), l.length ≤ f → xE f l = xE l.length l
 | 0, [], _ => rfl
 | f + 1, [], _ => rfl
 | f + 1, k :: t, h => by
   simp only [List.length_cons] at h ⊢
   unfold xE
   split
   ·rfl
   ·rw [oA f (t.drop k.toNat) (by simp; omega), oA t.length (t.drop k.toNat) (by simp)]
def kT (l : List UInt8) : Nat := xE l.length l
theorem uF (k : UInt8) (t : List UInt8) : kT (k :: t) = if k.toNat = 0 then 0 else 1 + k.toNat + kT (t.drop k.toNat) := by
 unfold kT
 simp only [List.length_cons]
 rw [xE]
 split
 ·rfl
 ·rw [oA t.length (t.drop k.toNat) (by simp)]
def bM (s : List UInt8) : List UInt8 × List UInt8 × Bool :=
 if s.length ≤ kT s then ([], [], false) else ((gU (s.take (kT s + 1))).getD [], s.drop (kT s + 1), (gU (s.take (kT s + 1))).isSome)
def oD : Nat → List UInt8 → Bool
 | _, [] => true
 | 0, _ :: _ => true
 | f + 1, k :: t => if t.length < k.toNat then false else oD f (t.drop k.toNat)
theorem mQ : ∀ (f : Nat) (l : List UInt8), l.length ≤ f → oD f l = oD l.length l
 | 0, [], _ => rfl
 | f + 1, [], _ => rfl
 | f + 1, k :: t, h => by
   simp only [List.length_cons] at h ⊢
   unfold oD
   split
   ·rfl
   ·rw [mQ f (t.drop k.toNat) (by simp; omega), mQ t.length (t.drop k.toNat) (by simp)]
def oE (l : List UInt8) : Bool := oD l.length l
theorem sB (k : UInt8) (t : List UInt8) : oE (k :: t) = if t.length < k.toNat then false else oE (t.drop k.toNat) := by
 unfold oE
 simp only [List.length_cons]
 rw [oD]
 split
 ·rfl
 ·rw [mQ t.length (t.drop k.toNat) (by simp)]
def yT (l : List UInt8) : Bool := !decide (l = []) && oE l
def numP (r : List UInt8) (i : Nat) : Nat → Nat
 | 0 => 0
 | k + 1 => numP r i k * 256 + (r.getD (4 * i + k) 0).toNat
theorem EG (r : List UInt8) (i : Nat) : ∀ k, numP r i k < 256 ^ k
 | 0 => by simp [numP]
 | k + 1 => by
   have h1 := EG r i k
   have h2 : (r.getD (4 * i + k) 0).toNat < 256 := UInt8.toNat_lt _
   rw [numP, Nat.pow_succ]
   omega
def CP (n : Nat) : List UInt8 := [UInt8.ofNat (n / 16777216), UInt8.ofNat (n / 65536), UInt8.ofNat (n / 256), UInt8.ofNat n]
structure SoaR where
 main : List UInt8
 mail : List UInt8
 serial : Int
 refresh : Int
 retry : Int
 expire : Int
 minimum : Int
 deriving DecidableEq, Inhabited
def SoaR.cells (s : SoaR) : List Value := [aI s.main, aI s.mail, .int .i64 s.serial, .int .i64 s.refresh, .int .i64 s.retry, .int .i64 s.expire, .int .i64 s.minimum]
def iQ (n : Int) : Bool := decide (0 ≤ n) && decide (n ≤ 2147483647)
def SoaR.ok (s : SoaR) : Bool := (aX s.main).isSome && (aX s.mail).isSome && decide (0 ≤ s.serial) && decide (s.serial ≤ 4294967295) && iQ s.refresh && iQ s.retry && iQ s.expire && iQ s.minimum
def SoaR.data (s : SoaR) : List UInt8 := s.main ++ [0] ++ (s.mail ++ [0]) ++ CP s.serial.toNat ++ CP s.refresh.toNat ++ CP s.retry.toNat ++ CP s.expire.toNat ++ CP s.minimum.toNat
def fA (d : List UInt8) : SoaR :=
 let f := bM d
 let g := bM f.2.1
 { main := f.1, mail := g.1, serial := numP g.2.1 0 4, refresh := numP g.2.1 1 4, retry := numP g.2.1 2 4, expire := numP g.2.1 3 4, minimum := numP g.2.1 4 4 }
def cI (d : List UInt8) : Option SoaR :=
 let f := bM d
 let g := bM f.2.1
 if f.2.2 = true ∧ g.2.2 = true ∧ g.2.1.length = 20 ∧ (fA d).ok = true then some (fA d) else none
def fits (k : Int) (d : List UInt8) : Bool :=
 if k = 1 then decide (d.length = 4) else if k = 28 then decide (d.length = 16) else if k = 16 then yT d else if k = 6 then (cI d).isSome else decide ((bA k d).2 ≠ 2)
structure Rec where
 name : List UInt8
 kind : Int
 ttl : Int
 data : List UInt8
 deriving DecidableEq, Inhabited
def bF (r : Rec) : Int :=
 if r.kind = 41 ∨ r.kind = 251 ∨ r.kind = 252 ∨ r.kind = 255 then 1
 else if r.kind < 1 ∨ 65535 < r.kind ∨ r.ttl < 0 ∨ 2147483647 < r.ttl ∨ 4000 < r.data.length ∨ fits r.kind r.data = false then 1
 else if (aX r.name).isSome = true then 0 else 1
end Go.Proofs.X
set_option linter.unusedVariables false
set_option linter.unusedSimpArgs false
namespace Go.Proofs.X
open Go
structure TPO {α : Type} (c : α → α → Int) : Prop where
 anti : ∀ x y, c y x = - c x y
 tr : ∀ x y z, c x y ≤ 0 → c y z ≤ 0 → c x z ≤ 0
variable {α : Type} {c d : α → α → Int}
theorem TPO.refl (h : TPO c) (x : α) : c x x = 0 := by have := h.anti x x; omega
theorem TPO.swo (h : TPO c) : Sort.SWO (Go.Proofs.ltOf c) where
 irrefl x := by simp [Go.Proofs.ltOf, h.refl x]
 trans x y z h1 h2 := by
  simp only [Go.Proofs.ltOf, decide_eq_true_eq] at *
  have h3 := h.tr x y z (by omega) (by omega)
  rcases Int.lt_or_eq_of_le h3 with h4 | h4
  ·exact h4
  ·have a1 := h.anti x z
   have a2 := h.anti y z
   have a3 := h.anti x y
   have := h.tr z x y (by omega) (by omega)
   omega
 ntrans x y z h1 h2 := by
  simp only [Go.Proofs.ltOf, decide_eq_false_iff_not] at *
  have a1 := h.anti x y
  have a2 := h.anti y z
  have a3 := h.anti x z
  have := h.tr z y x (by omega) (by omega)
  omega
theorem TPO.eqL (h : TPO c) {x y z : α} (e : c x y = 0) : c x z ≤ 0 ↔ c y z ≤ 0 := by
 have a := h.anti x y
 exact ⟨fun h1 => h.tr y x z (by omega) h1, fun h1 => h.tr x y z (by omega) h1⟩
def NQ (c d : α → α → Int) (x y : α) : Int := if c x y ≠ 0 then c x y else d x y
theorem TPO.lex (h : TPO c) (k : TPO d) : TPO (NQ c d) where
 anti x y := by
  have a := h.anti x y
  have b := k.anti x y
  unfold NQ
  split <;> split <;> omega
 tr x y z := by
  have a1 := h.anti x y
  have a2 := h.anti y z
  have a3 := h.anti x z
  have t1 := h.tr x y z
  have t2 := h.tr z x y
  have t3 := h.tr y z x
  have t4 := k.tr x y z
  unfold NQ
  intro h1 h2
  split at h1 <;> split at h2 <;> split <;> omega
theorem TPO.comap {β : Type} (h : TPO c) (f : β → α) : TPO (fun x y => c (f x) (f y)) := ⟨fun x y => h.anti _ _, fun x y z => h.tr _ _ _⟩
theorem KZ : TPO (fun a b : Int => if a < b then (-1 : Int) else if b < a then 1 else 0) where
 anti x y := by split <;> split <;> (try split) <;> omega
 tr x y z := by
  intro h1 h2
  split at h1 <;> split at h2 <;> split <;> (try omega)
  all_goals (split <;> (try omega))
  all_goals (first | (split at h1 <;> omega) | (split at h2 <;> omega) | (split at h1 <;> split at h2 <;> omega))
theorem EH {a b : List UInt8} : Op.bytesLess a b = true ↔ a < b := by rw [Go.Proofs.bytesLess_eq]; simp
theorem kU (a b : List UInt8) : mP a b = if a < b then -1 else if a = b then 0 else 1 := by
 unfold mP
 by_cases h : a < b
 ·simp [EH.2 h, h]
 ·have : Op.bytesLess a b = false := by
   cases h2 : Op.bytesLess a b with
   | false => rfl
   | true => exact absurd (EH.1 h2) h
  simp [this, h]
theorem fZ : TPO mP where
 anti x y := by
  rw [kU, kU]
  rcases Std.lt_trichotomy x y with h | h | h
  ·have h2 : ¬ y < x := fun h9 => Std.lt_irrefl (Std.lt_trans h h9)
   have h3 : x ≠ y := fun e => Std.lt_irrefl (e ▸ h)
   simp [h, h2, h3, Ne.symm h3]
  ·subst h
   simp [Std.lt_irrefl]
  ·have h2 : ¬ x < y := fun h9 => Std.lt_irrefl (Std.lt_trans h h9)
   have h3 : x ≠ y := fun e => Std.lt_irrefl (e ▸ h)
   simp [h, h2, h3, Ne.symm h3]
 tr x y z := by
  rw [kU, kU, kU]
  intro h1 h2
  by_cases hxy : x < y
  ·by_cases hyz : y < z
   ·simp [Std.lt_trans hxy hyz]
   ·by_cases e : y = z
    ·subst e; simp [hxy]
    ·simp [hyz, e] at h2
  ·by_cases e : x = y
   ·subst e; exact h2
   ·simp [hxy, e] at h1
theorem AL : TPO gH where
 anti := by
  intro x
  induction x with
  | nil => intro y; cases y <;> rfl
  | cons a x ih =>
   intro y
   cases y with
   | nil => rfl
   | cons b y =>
    have h1 := fZ.anti a b
    have h2 := ih y
    simp only [gH]
    split <;> split <;> omega
 tr := by
  intro x
  induction x with
  | nil => intro y z _ _; cases z <;> simp [gH]
  | cons a x ih =>
   intro y z h1 h2
   cases y with
   | nil => simp [gH] at h1
   | cons b y =>
    cases z with
    | nil => simp [gH] at h2
    | cons e z =>
     have a1 := fZ.anti a b
     have a2 := fZ.anti b e
     have a3 := fZ.anti a e
     have t1 := fZ.tr a b e
     have t2 := fZ.tr e a b
     have t3 := fZ.tr b e a
     have t4 := ih y z
     simp only [gH] at *
     split at h1 <;> split at h2 <;> split <;> omega
theorem IH : TPO lL where
 anti x y := by
  have h1 := fZ.anti x y
  unfold lL
  cases hx : dD x <;> cases hy : dD y <;> simp only [] <;> first | exact h1 | rfl | exact AL.anti _ _
 tr x y z := by
  have h1 := fZ.tr x y z
  unfold lL
  cases hx : dD x <;> cases hy : dD y <;> cases hz : dD z <;> simp only [] <;> first | exact h1 | exact AL.tr _ _ _ | (intros; omega)
end Go.Proofs.X
set_option linter.unusedVariables false
set_option linter.unusedSimpArgs false
namespace Go.Proofs.X
open Go.RowKit
def iB (P : Program) (e : TypeId) : Nat := match P.info? e with | some i => i.bytes | none => 0
section
variable {P : Program} {ops : Array Oper} {Q : Exit → Act → World → Prop} {rest : List Oper} {ts : List Value} {df : List Deferred}
inductive ElemIs (a : Act) (x : Operand) (k : Nat) (ce : List Value) : Prop
 | mk {c : Value} (h1 : a.eval x = c) (h2 : c.cells.toList = ce) (h3 : ce.length = k) (h4 : ∀ u ∈ ce, u.oneCell' = true) : ElemIs a x k ce
theorem TB (ce : List Value) {B k e t d1 d2 m ty1 ty2 : Nat} {ps1 ps2 : String} {af1 af2 : Array Edge} {x : Operand} {es : List (List Value)} {w0 w : World}
 (hx : Ext w0 w) (ho : Own B k e w (ts.getD m undef) es) (hl : es.length + 1 ≤ 1000000)
 (hk : ∀ s v' w1 w', Ext w w1 → Mv (ts.getD m undef).ownBlock w1 w' → Ext w0 w' → Own B k e w' v' (es ++ [ce]) → wpList P ops Q rest (Act.mk ((ts.set d1 s).set d2 v').toArray df) w')
 (hc : ElemIs (Act.mk ts.toArray df) x k ce := by (apply ElemIs.mk; (rfl); (rfl); (rfl); (simp [aI, Value.oneCell'])))
 (ht : kS P t e k (iB P e) = true := by decide +kernel) (hby : iB P e ≤ 1000000 := by decide +kernel) (hk16 : k ≤ 1000 := by decide) (hne : d1 ≠ m := by decide) (hdl : d1 < ts.length := by first | (simp; done) | (simp; omega))
 (hB : w0.heap.size ≤ B := by first | exact Nat.le_refl _ | omega) (hBw : B ≤ w.heap.size := by first | exact Ext.size (by assumption) | omega) :
 wpList P ops Q (Oper.mk (some d1) (.buildSlice t 1 #[(0, x)]) ty1 ps1 af1 none :: Oper.mk (some d2) (.call ⟨.builtin .append, #[.tmp m, .tmp d1], #[t, t]⟩) ty2 ps2 af2 none :: rest) (Act.mk ts.toArray df) w := by
 obtain ⟨hc, hce, hcs, h1⟩ := hc
 rename_i c
 have hcs' : c.cells.size = k := by rw [← Array.length_toList, hce]; exact hcs
 refine bT (k := k) (e := e) (bytes := iB P e) (xs := [c]) (parts := [(0, x)]) rfl (by simp [hc]) rfl (by simpa using hcs') ht (by simp; omega) ?_
 intro s w1 x1 _ sl _
 have e1 : (ts.set d1 s).getD m undef = ts.getD m undef := by
  simp only [List.getD_eq_getElem?_getD]; rw [List.getElem?_set_ne hne]
 have ho1 := ho.ext x1
 rw [← e1] at ho1
 refine fO (x := s) (B := B) (k := k) (e := e) (bytes := iB P e) rfl ho1 (by rw [eZ]; simp [hdl]) sl ht (by simpa [hce] using h1) (Nat.le_trans hBw x1.size) ?_ ?_ ?_
 ·simp only [List.length_map, List.length_cons, List.length_nil]
  calc (es.length + (0 + 1)) * iB P e ≤ 1000000 * 1000000 := Nat.mul_le_mul (by omega) hby
   _ ≤ _ := by decide
 ·simp only [List.length_map, List.length_cons, List.length_nil]; omega
 ·intro v' w' o' m' _
  rw [e1] at m'
  exact hk s v' w1 w' x1 m' ((ho.ext x1).mvx m' (hx.trans x1) hB) (by simpa [hce] using o')
end
section
variable {P : Program} {w : World} {a : Act} {d : Option Nat} {ty : TypeId} {ps : String} {af : Array Edge} {g : Option (Nat × Bool)}
end
section
variable {P : Program} {ops : Array Oper} {Q : Exit → Act → World → Prop} {w : World} {rest : List Oper} {ts : List Value} {df : List Deferred} {ty : TypeId} {ps : String} {af : Array Edge}
end
section
variable {P : Program} {ops : Array Oper} {Q : Exit → Act → World → Prop} {w : World} {rest : List Oper} {ts : List Value} {df : List Deferred} {ty : TypeId} {ps : String} {af : Array Edge}
theorem dZ {t e k B d : Nat} {x0 y : Operand} {v0 x : Value} {es fs : List (List Value)} (h0 : (Act.mk ts.toArray df).eval x0 = v0)
 (h : Own B k e w v0 es) (hy : (Act.mk ts.toArray df).eval y = x) (hx : Sl k w x fs) (h1 : ∀ f ∈ fs, ∀ u ∈ f, u.oneCell' = true)
 (hB : B ≤ w.heap.size) (hm : es.length + fs.length ≤ 1000000)
 (hk : ∀ v' w', Own B k e w' v' (es ++ fs) → Mv v0.ownBlock w w' → (v'.ownBlock = v0.ownBlock ∨ v'.ownBlock = some w.heap.size) → wpList P ops Q rest (Act.mk (ts.set d v').toArray df) w')
 (ht : kS P t e k (iB P e) = true := by decide +kernel) (hby : iB P e ≤ 1000000 := by decide +kernel) :
 wpList P ops Q (Oper.mk (some d) (.call ⟨.builtin .append, #[x0, y], #[t, t]⟩) ty ps af none :: rest) (Act.mk ts.toArray df) w := by
 have hb : (es.length + fs.length) * iB P e ≤ 140737488355328 :=
  calc (es.length + fs.length) * iB P e ≤ 1000000 * 1000000 := Nat.mul_le_mul hm hby
   _ ≤ _ := by decide
 obtain ⟨v', w', hr, ho, hmv, hkin⟩ := rX (ty := ty) ht h hx h1 hB hb (by omega)
 refine tD rfl ?_ (hk v' w' ho hmv hkin)
 simp [execOp, resolve, invoke, builtin, h0, hy, hr]
end
section
variable {P : Program} {Q : Exit → Act → World → Prop} {S : World → Prop} {l : List Oper} {fuel : Nat} {listed : List Bool} {w : World}
end
end Go.Proofs.X
set_option linter.unusedVariables false
set_option linter.unusedSimpArgs false
namespace Go.Proofs.X
open Go.RowKit
theorem pM {k : Nat} : ∀ (es : List (List Value)) (i : Nat), (∀ x ∈ es, x.length = k) → (es.take i).flatten = es.flatten.take (i * k)
 | [], i, _ => by simp
 | x :: es, 0, _ => by simp
 | x :: es, i + 1, h => by
   have hx := h x (by simp)
   have ih := pM es i (fun y hy => h y (by simp [hy]))
   rw [List.take_succ_cons, List.flatten_cons, List.flatten_cons, ih, show (i + 1) * k = x.length + i * k by rw [hx, Nat.add_mul]; omega, List.take_length_add_append]
theorem lM {k : Nat} : ∀ (es : List (List Value)) (i : Nat), (∀ x ∈ es, x.length = k) → (es.drop i).flatten = es.flatten.drop (i * k)
 | [], i, _ => by simp
 | x :: es, 0, _ => by simp
 | x :: es, i + 1, h => by
   have hx := h x (by simp)
   have ih := lM es i (fun y hy => h y (by simp [hy]))
   rw [List.drop_succ_cons, List.flatten_cons, ih, show (i + 1) * k = x.length + i * k by rw [hx, Nat.add_mul]; omega, List.drop_length_add_append]
theorem FW {α : Type} (c F : List α) (a n : Nat) (h : a + F.length ≤ n) (hn : n ≤ c.length) : (c.take a ++ F ++ c.drop (a + F.length)).take n = (c.take n).take a ++ F ++ (c.take n).drop (a + F.length) := by
 have hA : (c.take a ++ F).length = a + F.length := by simp; omega
 rw [List.take_append, hA, List.take_of_length_le (by omega), List.take_take, Nat.min_eq_left (by omega), List.drop_take]
theorem AM {α : Type} {z : List α} (hz : 0 < z.length) : ∀ (n i : Nat), i < n * z.length → (List.replicate n z).flatten[i]? = some (z[i % z.length]'(Nat.mod_lt _ hz))
 | 0, i, h => by simp at h
 | n + 1, i, h => by
   rw [List.replicate_succ, List.flatten_cons, List.getElem?_append]
   split
   ·rename_i hi
    rw [List.getElem?_eq_getElem hi]
    simp only [Nat.mod_eq_of_lt hi]
   ·rename_i hi
    have hge : z.length ≤ i := by omega
    rw [AM hz n (i - z.length) (by rw [Nat.add_mul] at h; omega)]
    have : (i - z.length) % z.length = i % z.length := by rw [← Nat.mod_eq_sub_mod hge]
    simp only [this]
theorem Own.over {B k e g cap i : Nat} {w : World} {es fs : List (List Value)} (h : Own B k e w (.slice (some ⟨g, 0, none⟩) es.length cap) es) (hi : i + fs.length ≤ es.length) (hf : ∀ f ∈ fs, f.length = k) :
 ∃ cur fz, w.heap[g]? = some (.cells cur e fz) ∧ (fz.2 ≤ fz.1 ∨ cur.size ≤ fz.1) ∧ es.length ≤ cap ∧ i * k + fs.flatten.length ≤ es.length * k ∧ es.length * k ≤ cur.size ∧
   Own B k e (w.setRow g (cur.toList.take (i * k) ++ fs.flatten ++ cur.toList.drop (i * k + fs.flatten.length)).toArray) (.slice (some ⟨g, 0, none⟩) es.length cap) (es.take i ++ fs ++ es.drop (i + fs.length)) ∧
   Mv (some g) w (w.setRow g (cur.toList.take (i * k) ++ fs.flatten ++ cur.toList.drop (i * k + fs.flatten.length)).toArray) := by
 rcases h.row.2 with ⟨h0, _⟩ | ⟨g', cap', cur, fz, hv, hb, hg, hfz, hnc, hcm, hcs, htake⟩
 ·cases h0
 ·simp only [Value.slice.injEq, Option.some.injEq, Addr.mk.injEq, and_true, true_and] at hv
  obtain ⟨rfl, rfl⟩ := hv
  have hall := h.each
  have hfl := bE hf
  have hil : i * k + fs.length * k ≤ es.length * k := by rw [← Nat.add_mul]; exact Nat.mul_le_mul_right k hi
  have hck : es.length * k ≤ cap * k := Nat.mul_le_mul_right k hnc
  have hlen : (es.take i ++ fs ++ es.drop (i + fs.length)).length = es.length := by simp; omega
  have hall2 : ∀ x ∈ es.take i ++ fs ++ es.drop (i + fs.length), x.length = k := by
   intro x hx
   rcases List.mem_append.1 hx with hx | hx
   ·rcases List.mem_append.1 hx with hx | hx
    ·exact hall x (List.mem_of_mem_take hx)
    ·exact hf x hx
   ·exact hall x (List.mem_of_mem_drop hx)
  have hsz : (cur.toList.take (i * k) ++ fs.flatten ++ cur.toList.drop (i * k + fs.flatten.length)).length = cur.size := by
   rw [List.length_append, List.length_append, List.length_take, List.length_drop, Array.length_toList, hfl, hcs]; omega
  refine ⟨cur, fz, hg, hfz, hnc, by rw [hfl]; exact hil, by rw [hcs]; exact hck, ⟨⟨?_, .inr ⟨g, cap, (cur.toList.take (i * k) ++ fs.flatten ++ cur.toList.drop (i * k + fs.flatten.length)).toArray, fz, ?_, hb, setRow_heap w g cur _ e _ hg, ?_, ?_, hcm, ?_, ?_⟩⟩, hall2⟩, ⟨rfl, rfl, rfl, by simp, fun k _ hk => setRow_other w g k _ (fun e => hk (by simp [e])), Nat.le_refl _⟩⟩
  ·rw [bE hall2]
  ·rw [hlen]
  ·rw [List.size_toArray, hsz]; exact hfz
  ·rw [hlen]; exact hnc
  ·rw [List.size_toArray, hsz]; exact hcs
  ·rw [hlen, List.flatten_append, List.flatten_append, pM es i hall, lM es _ hall, ← htake, List.toList_toArray]
   have e1 : (i + fs.length) * k = i * k + fs.flatten.length := by rw [hfl, Nat.add_mul]
   rw [e1]
   have hcl : cur.toList.length = cap * k := by rw [← hcs]; exact Array.length_toList
   exact FW _ _ _ _ (by rw [hfl]; exact hil) (by rw [hcl]; exact hck)
theorem AN {z : List Value} (hz : 0 < z.length) : ∀ n, (madeCells z.toArray (n * z.length)).toList = (List.replicate n z).flatten := by
 intro n
 apply List.ext_getElem?
 intro i
 have hl : (List.replicate n z).flatten.length = n * z.length := by simp
 by_cases hi : i < n * z.length
 ·have h1 : (madeCells z.toArray (n * z.length)).toList[i]? = some (z[i % z.length]'(Nat.mod_lt _ hz)) := by
   simp [madeCells, List.getElem?_range hi, Nat.mod_lt _ hz]
  rw [h1]
  symm
  exact AM hz n i hi
 ·rw [List.getElem?_eq_none (by simp [madeCells]; omega), List.getElem?_eq_none (by rw [hl]; omega)]
section
variable {P : Program} {ops : Array Oper} {Q : Exit → Act → World → Prop} {w : World} {rest : List Oper} {ts : List Value} {df : List Deferred} {ty : TypeId} {ps : String} {af : Array Edge}
end
end Go.Proofs.X
set_option linter.unusedVariables false
set_option linter.unusedSimpArgs false
namespace Go.Proofs.X
open Go.RowKit
set_option maxRecDepth 100000
section
variable {P : Program} {w : World} {ts : List Value} {df : List Deferred} {d : Option Nat} {ty : TypeId} {ps : String} {af : Array Edge} {g : Option (Nat × Bool)}
theorem Runs.fieldLitK {s : TypeId} {m n b o : Nat} (k : Nat) (h : ts.getD m undef = .pointer (some ⟨b, o, none⟩)) (hf : jR P s n (n + k) = true) :
 Runs P (Oper.mk d (.fieldAddr s (.tmp m) n) ty ps af g) (Act.mk ts.toArray df) w (dC (ts.getD m undef) (n + k)) := by
 obtain ⟨fs, f, i, ht, hf, ho, hie, hz⟩ := iU hf
 have e1 : (Act.mk ts.toArray df).eval (.tmp m) = .pointer (some ⟨b, o, none⟩) := by rw [eZ]; exact h
 constructor
 rw [h]
 simp [execOp, e1, Instr.fieldAt, Instr.sureAddr, run_underlying ht, hf, fieldPlace, sizeOf, typeInfo, hie, hz, dC, ho]
theorem Runs.isNilN {t u : TypeId} {x y : Operand} {a : Act} (hx : a.eval x = .pointer none) (hy : a.eval y = .pointer none) (ht : P.underlying t = some (.pointer (P.pointee t))) :
 Runs P (Oper.mk d (.binOp .eql t x y u) ty ps af g) a w (.bool true) := by
 constructor
 simp [execOp, hx, hy, eqGuard, run_eql_pointer_nil w t none ht]
theorem Runs.isNilS {t u : TypeId} {x y : Operand} {a : Act} {p : Addr} (hx : a.eval x = .pointer (some p)) (hy : a.eval y = .pointer none) (ht : P.underlying t = some (.pointer (P.pointee t))) :
 Runs P (Oper.mk d (.binOp .eql t x y u) ty ps af g) a w (.bool false) := by
 constructor
 simp [execOp, hx, hy, eqGuard, run_eql_pointer_nil w t (some p) ht]
theorem Runs.notNilN {t u : TypeId} {x y : Operand} {a : Act} (hx : a.eval x = .pointer none) (hy : a.eval y = .pointer none) (ht : P.underlying t = some (.pointer (P.pointee t))) :
 Runs P (Oper.mk d (.binOp .neq t x y u) ty ps af g) a w (.bool false) := by
 constructor
 simp [execOp, hx, hy, eqGuard, run_neq_pointer_nil w t none ht]
theorem Runs.notNilS {t u : TypeId} {x y : Operand} {a : Act} {p : Addr} (hx : a.eval x = .pointer (some p)) (hy : a.eval y = .pointer none) (ht : P.underlying t = some (.pointer (P.pointee t))) :
 Runs P (Oper.mk d (.binOp .neq t x y u) ty ps af g) a w (.bool true) := by
 constructor
 simp [execOp, hx, hy, eqGuard, run_neq_pointer_nil w t (some p) ht]
end
theorem LA {P : Program} {o : Oper} {a : Act} {w : World} {v : Value} (h : Runs P o a w v := by (first | exact rn | ((apply Runs.fieldLitK (k := 1)); (rfl); (decide +kernel)) | ((apply Runs.fieldLitK (k := 6)); (rfl); (decide +kernel)) | ((apply Runs.fieldLitK (k := 4)); (rfl); (decide +kernel)) | ((apply Runs.fieldLitK (k := 3)); (rfl); (decide +kernel)) | ((apply Runs.isNilN); (rfl); (rfl); (kernel_rfl)) | ((apply Runs.isNilS); (rfl); (rfl); (kernel_rfl)) | ((apply Runs.notNilN); (rfl); (rfl); (kernel_rfl)) | ((apply Runs.notNilS); (rfl); (rfl); (kernel_rfl)))) : Runs P o a w v := h
section
variable {P : Program} {ops : Array Oper} {Q : Exit → Act → World → Prop} {rest : List Oper} {o : Oper} {ts ts' t1 t0 : List Value} {df : List Deferred} {w : World} {d e j : Nat} {op : Op} {ty : TypeId} {ps : String} {af : Array Edge} {b want : Bool} {v : Value} {p1 p0 : Prop} {C : World → Prop} {QQ : Act → Prop} {l : List Oper} {a : Act}
theorem fL (h : wpList P ops Q rest (Act.mk ts'.toArray df) w) (hr : SR P (Oper.mk (some d) op ty ps af none) ts df w d ts' := by (apply SR.mk; (exact LA); (((simp only [List.set_cons_succ, List.set_cons_zero, List.getD_cons_succ, List.getD_cons_zero, List.length_map, if_true, Bool.false_eq_true, if_false, Int.toNat_natCast, Int.toNat_zero, Int.toNat_one, Nat.zero_mul, Bool.not_true, Bool.not_false, decide_true, decide_false]); (with_reducible exact rfl))))) :
 S1 P ops Q rest d op ty ps af ts df w := by obtain ⟨hr, e⟩ := hr; exact ⟨⟨aM hr (e ▸ h)⟩⟩
theorem QW (h : wpQuiet P ops C QQ rest (Act.mk ts'.toArray df)) (hr : SRq P (Oper.mk (some d) op ty ps af none) ts df C d ts' := by (apply SRq.mk; (intro _ _; exact LA); (((simp only [List.set_cons_succ, List.set_cons_zero, List.getD_cons_succ, List.getD_cons_zero, List.length_map, if_true, Bool.false_eq_true, if_false, Int.toNat_natCast, Int.toNat_zero, Int.toNat_one, Nat.zero_mul, Bool.not_true, Bool.not_false, decide_true, decide_false]); (with_reducible exact rfl))))) : Q1 P ops C QQ rest d op ty ps af ts df := by
 obtain ⟨hr, e⟩ := hr; exact ⟨⟨pI hr (e ▸ h)⟩⟩
theorem aW {G' : Prop} (h : G') (e : Hid G' → St P ops Q rest o ts df w := by (intro hk; (first | (refine iL ?_; refine fL ?_) | (refine mG ?_; first | refine nQ ?_ | refine FO ?_ | refine FQ ?_ | refine FP ?_)); (repeat ((with_reducible refine aH ?_); (first | (refine iL ?_; refine fL ?_) | (refine mG ?_; first | refine nQ ?_ | refine FO ?_ | refine FQ ?_ | refine FP ?_)))); exact hk.out)) : St P ops Q rest o ts df w := e ⟨h⟩
theorem MS {G' : Prop} (h : G') (e : Hid G' → wpQuiet P ops C QQ l a := by (intro hk; (repeat (first | ((with_reducible refine SB ?_); (first | (refine SC ?_; refine QW ?_) | (refine SD ?_; first | refine SE ?_ | refine SF ?_ | refine SG ?_))) | (with_reducible refine SH ?_))); exact hk.out)) : Qh P ops C QQ l a := ⟨e ⟨h⟩⟩
end
inductive TkI1 (P : Program) (Q : Exit → Act → World → Prop) (k : Nat) (F : World → Prop) (l : List Oper) (ts : List Value) (df : List Deferred) (listed : List Bool) (fuel2 i fuel : Nat) (ts' : List Value) : Prop
 | mk {d op ty ps af g v} (hi : l[i]? = some (Oper.mk (some d) op ty ps af g)) (hfu : fuel2 = fuel + 1) (hik : decide (i ≠ k) = true) (hk : tE .any l.toArray l.length k i = true) (hs : Region.noSelect l.toArray = true) (hf : Region.free .any l.toArray listed.toArray i = true) (hr : (Region.ready .any l.toArray listed.toArray).contains i = true)
   (hw : Region.wanted (Oper.mk (some d) op ty ps af g) (yielded l.toArray ts.toArray) = true) (hy : ∀ w', F w' → Runs P (Oper.mk (some d) op ty ps af g) (Act.mk ts.toArray df) w' v) (hQ : ∀ c a w, Q (.panic c) (a.put (some d) v) w → Q (.panic c) a w) (e : ts.set d v = ts') : TkI1 P Q k F l ts df listed fuel2 i fuel ts'
theorem dF (i : Nat) {P : Program} {Q : Exit → Act → World → Prop} {k : Nat} {F : World → Prop} {l : List Oper} {ts ts' : List Value} {df : List Deferred} {listed : List Bool} {fuel2 fuel : Nat} {w : World} (h : wF P Q k F l fuel (listed.set i true) (Act.mk ts'.toArray df) w)
 (e : TkI1 P Q k F l ts df listed fuel2 i fuel ts' := by refine TkI1.mk (by rfl) (by rfl) (by decide +kernel) (by decide +kernel) (by decide +kernel) (by decide +kernel) (by decide +kernel) (by rfl) (by (intro _ _; exact LA)) (fun _ _ _ h => h) (by ((simp only [List.set_cons_succ, List.set_cons_zero, List.getD_cons_succ, List.getD_cons_zero, List.length_map, if_true, Bool.false_eq_true, if_false, Int.toNat_natCast, Int.toNat_zero, Int.toNat_one, Nat.zero_mul, Bool.not_true, Bool.not_false, decide_true, decide_false]); (with_reducible exact rfl)))) : wF P Q k F l fuel2 listed (Act.mk ts.toArray df) w := by
 obtain ⟨hi, hfu, hik, hk, hs, hf, hr, hw, hy, hQ, e⟩ := e
 exact bB hi hfu hik hk hs hf hr hw hy hQ (e ▸ h)
inductive TkP1 (P : Program) (Q : Exit → Act → World → Prop) (k : Nat) (F : World → Prop) (l : List Oper) (ts : List Value) (df : List Deferred) (listed : List Bool) (fuel2 i fuel : Nat) (ts' : List Value) : Prop
 | mk {d op ty ps af g v} (hi : l[i]? = some (Oper.mk (some d) op ty ps af g)) (hfu : fuel2 = fuel + 1) (hik : decide (i ≠ k) = true) (hs : Region.noSelect l.toArray = true) (hf : Region.free .any l.toArray listed.toArray i = true) (hr : (Region.ready .any l.toArray listed.toArray).contains i = true)
   (hw : Region.wanted (Oper.mk (some d) op ty ps af g) (yielded l.toArray ts.toArray) = true) (hy : ∀ w', Runs P (Oper.mk (some d) op ty ps af g) (Act.mk ts.toArray df) w' v) (hQ : ∀ c a w, Q (.panic c) (a.put (some d) v) w → Q (.panic c) a w) (e : ts.set d v = ts') : TkP1 P Q k F l ts df listed fuel2 i fuel ts'
theorem HV (i : Nat) {P : Program} {Q : Exit → Act → World → Prop} {k : Nat} {F : World → Prop} {l : List Oper} {ts ts' : List Value} {df : List Deferred} {listed : List Bool} {fuel2 fuel : Nat} {w : World} (h : wF P Q k F l fuel (listed.set i true) (Act.mk ts'.toArray df) w)
 (e : TkP1 P Q k F l ts df listed fuel2 i fuel ts' := by refine TkP1.mk (by rfl) (by rfl) (by decide +kernel) (by decide +kernel) (by decide +kernel) (by decide +kernel) (by rfl) (by (intro _; exact LA)) (fun _ _ _ h => h) (by ((simp only [List.set_cons_succ, List.set_cons_zero, List.getD_cons_succ, List.getD_cons_zero, List.length_map, if_true, Bool.false_eq_true, if_false, Int.toNat_natCast, Int.toNat_zero, Int.toNat_one, Nat.zero_mul, Bool.not_true, Bool.not_false, decide_true, decide_false]); (with_reducible exact rfl)))) : wF P Q k F l fuel2 listed (Act.mk ts.toArray df) w := by
 obtain ⟨hi, hfu, hik, hs, hf, hr, hw, hy, hQ, e⟩ := e
 exact cU hi hfu hik hs hf hr hw hy hQ (e ▸ h)
section
variable {P : Program} {Q : Exit → Act → World → Prop} {S : World → Prop} {l : List Oper} {ts : List Value} {df : List Deferred} {d : Nat} {ty : TypeId} {ps : String} {af : Array Edge} {g : Option (Nat × Bool)} {w : World} {fuel : Nat} {listed : List Bool}
theorem pN (i : Nat) {fuel2 : Nat} {op : Op} {v : Value} (h : wpAnyH P .any l.toArray Q S fuel (listed.set i true).toArray (Act.mk (ts.set d v).toArray df) w)
 (hi : l[i]? = some (Oper.mk (some d) op ty ps af g) := by rfl) (hfu : fuel2 = fuel + 1 := by rfl) (hs : Region.noSelect l.toArray = true := by decide +kernel) (hf : Region.free .any l.toArray listed.toArray i = true := by decide +kernel) (hr : (Region.ready .any l.toArray listed.toArray).contains i = true := by decide +kernel)
 (hw : Region.wanted (Oper.mk (some d) op ty ps af g) (yielded l.toArray ts.toArray) = true := by rfl) (hS : S w := by (repeat (first | (with_reducible assumption) | exact Ext.refl _ | (refine Ext.trans ?_ (by with_reducible assumption)))))
 (hy : ∀ w', S w' → Runs P (Oper.mk (some d) op ty ps af g) (Act.mk ts.toArray df) w' v := by (intro _ _; exact LA)) (hQ : ∀ c a w, Q (.panic c) (a.put (some d) v) w → Q (.panic c) a w := by exact fun _ _ _ h => h) : wpAnyH P .any l.toArray Q S fuel2 listed.toArray (Act.mk ts.toArray df) w :=
 dK hi hfu hs hf hr hw hS hy hQ h
end
end Go.Proofs.X
