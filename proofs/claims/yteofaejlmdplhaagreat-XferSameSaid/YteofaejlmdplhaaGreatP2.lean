/- Laws and walks that the proof of the statement is made of (part 2). -/
import Derived.Test.YteofaejlmdplhaaGreatP1
set_option linter.unusedVariables false
set_option linter.unusedSimpArgs false
namespace Go.Proofs.X
open Go.RowKit
set_option maxRecDepth 100000
theorem aA {G G' : Prop} (h : G') (e : G = G' := by ((simp only [List.set_cons_succ, List.set_cons_zero, List.getD_cons_succ, List.getD_cons_zero, List.length_map, if_true, Bool.false_eq_true, if_false, Int.toNat_natCast, Int.toNat_zero, Int.toNat_one, Nat.zero_mul, Bool.not_true, Bool.not_false, decide_true, decide_false]); (with_reducible exact rfl))) : G := e.mpr h
theorem dV {w w' : World} (h : Ext w w' := by (repeat (first | (with_reducible assumption) | exact Ext.refl _ | (refine Ext.trans ?_ (by with_reducible assumption))))) : Ext w w' := h
theorem rn {P : Program} {o : Oper} {a : Act} {w : World} {v : Value} (h : Runs P o a w v := by (first | exact Runs.moveT _ | exact Runs.assignT _ | exact Runs.moveC _ | exact Runs.assignC _ | ((apply Runs.pickTC); (rfl)) | ((apply Runs.pickCT); (rfl)) | ((apply Runs.pickT); (rfl)) | ((apply Runs.len); ((first | assumption | (apply Sl.ext; (assumption); (repeat (first | (with_reducible assumption) | exact Ext.refl _ | (refine Ext.trans ?_ (by with_reducible assumption))))))); (decide +kernel)) | ((apply Runs.lenS); (rfl); (decide +kernel)) | ((apply Runs.idxT); (rfl); ((first | assumption | (apply Sl.ext; (assumption); (repeat (first | (with_reducible assumption) | exact Ext.refl _ | (refine Ext.trans ?_ (by with_reducible assumption))))))); ((first | assumption | omega | (simp only [List.length_map, List.length_cons, Int.toNat_natCast, Int.toNat_zero, Int.toNat_one]; omega))); (decide +kernel)) | ((apply Runs.fieldLit); (rfl); (decide +kernel)) | ((apply Runs.fieldTn); ((first | assumption | (apply Pts.ext; (assumption); (repeat (first | (with_reducible assumption) | exact Ext.refl _ | (refine Ext.trans ?_ (by with_reducible assumption))))))); (decide +kernel)) | ((apply Runs.loadP); ((first | rfl | (simp only [List.getD_cons_succ, List.getD_cons_zero]; with_reducible rfl))); ((first | assumption | (apply Pts.ext; (assumption); (repeat (first | (with_reducible assumption) | exact Ext.refl _ | (refine Ext.trans ?_ (by with_reducible assumption))))))); (rfl); (decide +kernel)) | ((apply Runs.load); ((first | assumption | (apply Pts.ext; (assumption); (repeat (first | (with_reducible assumption) | exact Ext.refl _ | (refine Ext.trans ?_ (by with_reducible assumption))))))); (decide +kernel)) | ((apply Runs.loadN); ((first | assumption | (apply Pts.ext; (assumption); (repeat (first | (with_reducible assumption) | exact Ext.refl _ | (refine Ext.trans ?_ (by with_reducible assumption))))))); ((first | (simp only [List.length_cons, List.length_nil, Nat.zero_add, Nat.reduceAdd]; done) | (simp only [List.length_cons, List.length_nil, Nat.zero_add, Nat.reduceAdd]; rfl))); (decide +kernel)) | ((apply Runs.extract); (rfl); (rfl)) | ((apply Runs.not); (rfl)) | ((apply Runs.lss); (rfl); (rfl)) | ((apply Runs.leq); (rfl); (rfl)) | ((apply Runs.gtr); (rfl); (rfl)) | ((apply Runs.geq); (rfl); (rfl)) | ((apply Runs.eql); (rfl); (rfl)) | ((apply Runs.neq); (rfl); (rfl)) | ((apply Runs.inc); (rfl); (rfl); ((first | assumption | omega | (simp only [List.length_map, List.length_cons, Int.toNat_natCast, Int.toNat_zero, Int.toNat_one]; omega)))) | ((apply Runs.add); (rfl); (rfl); ((first | assumption | omega | (simp only [List.length_map, List.length_cons, Int.toNat_natCast, Int.toNat_zero, Int.toNat_one]; omega)))) | ((apply Runs.sub); (rfl); (rfl); ((first | assumption | omega | (simp only [List.length_map, List.length_cons, Int.toNat_natCast, Int.toNat_zero, Int.toNat_one]; omega)))) | ((apply Runs.addU); (rfl); (rfl)) | ((apply Runs.subU); (rfl); (rfl)) | ((apply Runs.eqlS); (rfl); (rfl)) | ((apply Runs.neqS); (rfl); (rfl)) | ((apply Runs.lssS); (rfl); (rfl)) | ((apply Runs.geqS); (rfl); (rfl)) | ((apply Runs.gtrS); (rfl); (rfl)) | ((apply Runs.idxS); (rfl); (rfl); ((first | assumption | omega | (simp only [List.length_map, List.length_cons, Int.toNat_natCast, Int.toNat_zero, Int.toNat_one]; omega))); (decide +kernel)) | ((apply Runs.idxTI); (rfl); ((first | assumption | (apply Sl.ext; (assumption); (repeat (first | (with_reducible assumption) | exact Ext.refl _ | (refine Ext.trans ?_ (by with_reducible assumption))))))); ((first | assumption | omega | (simp only [List.length_map, List.length_cons, Int.toNat_natCast, Int.toNat_zero, Int.toNat_one]; omega))); ((first | assumption | omega | (simp only [List.length_map, List.length_cons, Int.toNat_natCast, Int.toNat_zero, Int.toNat_one]; omega))); (decide +kernel)) | ((apply Runs.idxSI); (rfl); (rfl); ((first | assumption | omega | (simp only [List.length_map, List.length_cons, Int.toNat_natCast, Int.toNat_zero, Int.toNat_one]; omega))); ((first | assumption | omega | (simp only [List.length_map, List.length_cons, Int.toNat_natCast, Int.toNat_zero, Int.toNat_one]; omega))); (decide +kernel)) | ((apply Runs.convB); (rfl); (decide +kernel); (decide +kernel)) | ((apply Runs.cutSI); (rfl); (rfl); (rfl); ((first | assumption | omega | (simp only [List.length_map, List.length_cons, Int.toNat_natCast, Int.toNat_zero, Int.toNat_one]; omega))); ((first | assumption | omega | (simp only [List.length_map, List.length_cons, Int.toNat_natCast, Int.toNat_zero, Int.toNat_one]; omega))); ((first | assumption | omega | (simp only [List.length_map, List.length_cons, Int.toNat_natCast, Int.toNat_zero, Int.toNat_one]; omega))); (decide +kernel)) | ((apply Runs.dropSI); (rfl); (rfl); ((first | assumption | omega | (simp only [List.length_map, List.length_cons, Int.toNat_natCast, Int.toNat_zero, Int.toNat_one]; omega))); ((first | assumption | omega | (simp only [List.length_map, List.length_cons, Int.toNat_natCast, Int.toNat_zero, Int.toNat_one]; omega))); (decide +kernel)) | ((apply Runs.takeSI); (rfl); (rfl); ((first | assumption | omega | (simp only [List.length_map, List.length_cons, Int.toNat_natCast, Int.toNat_zero, Int.toNat_one]; omega))); ((first | assumption | omega | (simp only [List.length_map, List.length_cons, Int.toNat_natCast, Int.toNat_zero, Int.toNat_one]; omega))); (decide +kernel)) | ((apply Runs.cutTI); (rfl); (rfl); ((first | assumption | (apply Sl.ext; (assumption); (repeat (first | (with_reducible assumption) | exact Ext.refl _ | (refine Ext.trans ?_ (by with_reducible assumption))))))); ((first | assumption | omega | (simp only [List.length_map, List.length_cons, Int.toNat_natCast, Int.toNat_zero, Int.toNat_one]; omega))); ((first | assumption | omega | (simp only [List.length_map, List.length_cons, Int.toNat_natCast, Int.toNat_zero, Int.toNat_one]; omega))); ((first | assumption | omega | (simp only [List.length_map, List.length_cons, Int.toNat_natCast, Int.toNat_zero, Int.toNat_one]; omega))); (decide +kernel)) | ((apply Runs.dropTI); (rfl); ((first | assumption | (apply Sl.ext; (assumption); (repeat (first | (with_reducible assumption) | exact Ext.refl _ | (refine Ext.trans ?_ (by with_reducible assumption))))))); ((first | assumption | omega | (simp only [List.length_map, List.length_cons, Int.toNat_natCast, Int.toNat_zero, Int.toNat_one]; omega))); ((first | assumption | omega | (simp only [List.length_map, List.length_cons, Int.toNat_natCast, Int.toNat_zero, Int.toNat_one]; omega))); (decide +kernel)) | ((apply Runs.takeTI); (rfl); ((first | assumption | (apply Sl.ext; (assumption); (repeat (first | (with_reducible assumption) | exact Ext.refl _ | (refine Ext.trans ?_ (by with_reducible assumption))))))); ((first | assumption | omega | (simp only [List.length_map, List.length_cons, Int.toNat_natCast, Int.toNat_zero, Int.toNat_one]; omega))); ((first | assumption | omega | (simp only [List.length_map, List.length_cons, Int.toNat_natCast, Int.toNat_zero, Int.toNat_one]; omega))); (decide +kernel)) | ((apply Runs.shr); (rfl); (rfl); (decide +kernel); (decide +kernel)) | ((apply Runs.shl8); (rfl); (rfl); ((first | assumption | omega | (simp only [List.length_map, List.length_cons, Int.toNat_natCast, Int.toNat_zero, Int.toNat_one]; omega)))) | ((apply Runs.or8); (rfl); (rfl); ((first | assumption | omega | (simp only [List.length_map, List.length_cons, Int.toNat_natCast, Int.toNat_zero, Int.toNat_one]; omega))); ((first | assumption | omega | (simp only [List.length_map, List.length_cons, Int.toNat_natCast, Int.toNat_zero, Int.toNat_one]; omega)))) | ((apply Runs.mul); (rfl); (rfl); ((first | assumption | omega | (simp only [List.length_map, List.length_cons, Int.toNat_natCast, Int.toNat_zero, Int.toNat_one]; omega)))) | exact Runs.func1 | exact Runs.func0 | exact Runs.func2 | exact Runs.func3 | ((apply Runs.nilS); ((first | assumption | (apply Sl.ext; (assumption); (repeat (first | (with_reducible assumption) | exact Ext.refl _ | (refine Ext.trans ?_ (by with_reducible assumption))))))); (decide +kernel)) | ((apply Runs.nilP); (rfl)) | ((apply Runs.nilPts); ((first | assumption | (apply Pts.ext; (assumption); (repeat (first | (with_reducible assumption) | exact Ext.refl _ | (refine Ext.trans ?_ (by with_reducible assumption)))))))) | ((apply Runs.minI); (rfl); (rfl)) | ((apply Runs.strOf (e := 5)); ((first | assumption | (apply Sl.ext; (assumption); (repeat (first | (with_reducible assumption) | exact Ext.refl _ | (refine Ext.trans ?_ (by with_reducible assumption))))))); (decide +kernel); (decide +kernel)) | ((apply Runs.addS); (rfl); (rfl); ((first | omega | (simp only [List.length_append, List.length_cons, List.length_nil]; omega)))) | ((apply Runs.convU); (rfl); (decide +kernel); (decide +kernel)) | ((apply Runs.convS); (rfl); (decide +kernel); (decide +kernel)))) : Runs P o a w v := h
structure St (P : Program) (ops : Array Oper) (Q : Exit → Act → World → Prop) (rest : List Oper) (o : Oper) (ts : List Value) (df : List Deferred) (w : World) : Prop where
 out : wpList P ops Q (o :: rest) (Act.mk ts.toArray df) w
section
variable {P : Program} {ops : Array Oper} {Q : Exit → Act → World → Prop} {rest : List Oper} {o : Oper} {ts ts' t1 t0 : List Value} {df : List Deferred} {w : World} {d e j : Nat} {op : Op} {ty : TypeId} {ps : String} {af : Array Edge} {b want : Bool} {v : Value} {p1 p0 : Prop}
theorem bR (h : St P ops Q rest o ts df w) : wpList P ops Q (o :: rest) (Act.mk ts.toArray df) w := h.out
inductive SR (P : Program) (o : Oper) (ts : List Value) (df : List Deferred) (w : World) (d : Nat) (ts' : List Value) : Prop
 | mk {v : Value} (h1 : Runs P o (Act.mk ts.toArray df) w v) (h2 : ts.set d v = ts') : SR P o ts df w d ts'
structure S1 (P : Program) (ops : Array Oper) (Q : Exit → Act → World → Prop) (rest : List Oper) (d : Nat) (op : Op) (ty : TypeId) (ps : String) (af : Array Edge) (ts : List Value) (df : List Deferred) (w : World) : Prop where
 out : St P ops Q rest (Oper.mk (some d) op ty ps af none) ts df w
structure G1 (P : Program) (ops : Array Oper) (Q : Exit → Act → World → Prop) (rest : List Oper) (dd : Option Nat) (op : Op) (ty : TypeId) (ps : String) (af : Array Edge) (j : Nat) (want : Bool) (ts : List Value) (df : List Deferred) (w : World) : Prop where
 out : St P ops Q rest (Oper.mk dd op ty ps af (some (j, want))) ts df w
theorem gW (h : S1 P ops Q rest d op ty ps af ts df w) : St P ops Q rest (Oper.mk (some d) op ty ps af none) ts df w := h.out
theorem jG {dd : Option Nat} (h : G1 P ops Q rest dd op ty ps af j want ts df w) : St P ops Q rest (Oper.mk dd op ty ps af (some (j, want))) ts df w := h.out
theorem jA (h : wpList P ops Q rest (Act.mk ts'.toArray df) w) (hr : SR P (Oper.mk (some d) op ty ps af none) ts df w d ts' := by (apply SR.mk; (exact rn); (((simp only [List.set_cons_succ, List.set_cons_zero, List.getD_cons_succ, List.getD_cons_zero, List.length_map, if_true, Bool.false_eq_true, if_false, Int.toNat_natCast, Int.toNat_zero, Int.toNat_one, Nat.zero_mul, Bool.not_true, Bool.not_false, decide_true, decide_false]); (with_reducible exact rfl))))) :
 S1 P ops Q rest d op ty ps af ts df w := by obtain ⟨hr, e⟩ := hr; exact ⟨⟨bM hr (e ▸ h)⟩⟩
theorem kJ {dd : Option Nat} (h : wpList P ops Q (Oper.mk dd op ty ps af none :: rest) (Act.mk ts.toArray df) w) (h1 : (ops[j]?).bind (·.dst) = some e := by rfl) (h2 : ts.getD e undef = .bool b := by rfl) (h3 : b = want := by (with_reducible rfl)) :
 G1 P ops Q rest dd op ty ps af j want ts df w := ⟨⟨qG h1 h2 (fun _ => h) (fun h' => (by rw [h3] at h'; cases want <;> cases h'))⟩⟩
theorem pP (h : wpList P ops Q rest (Act.mk ts'.toArray df) w) (h1 : (ops[j]?).bind (·.dst) = some e := by rfl) (h2 : ts.getD e undef = .bool b := by rfl) (h3 : b = !want := by (first | (with_reducible exact (rfl : true = !false)) | (with_reducible exact (rfl : false = !true)) | (exact Bool.not_false.symm) | (exact Bool.not_true.symm))) (e : ts.set d undef = ts' := by ((simp only [List.set_cons_succ, List.set_cons_zero, List.getD_cons_succ, List.getD_cons_zero, List.length_map, if_true, Bool.false_eq_true, if_false, Int.toNat_natCast, Int.toNat_zero, Int.toNat_one, Nat.zero_mul, Bool.not_true, Bool.not_false, decide_true, decide_false]); (with_reducible exact rfl))) :
 G1 P ops Q rest (some d) op ty ps af j want ts df w := ⟨⟨IV h1 h2 h3 (e ▸ h)⟩⟩
theorem pQ (h : wpList P ops Q rest (Act.mk ts'.toArray df) w) (h1 : (ops[j]?).bind (·.dst) = some e := by rfl) (h2 : ts.getD e undef = undef := by rfl) (e : ts.set d undef = ts' := by ((simp only [List.set_cons_succ, List.set_cons_zero, List.getD_cons_succ, List.getD_cons_zero, List.length_map, if_true, Bool.false_eq_true, if_false, Int.toNat_natCast, Int.toNat_zero, Int.toNat_one, Nat.zero_mul, Bool.not_true, Bool.not_false, decide_true, decide_false]); (with_reducible exact rfl))) :
 G1 P ops Q rest (some d) op ty ps af j want ts df w := ⟨⟨QA ⟨h1, h2⟩ (e ▸ h)⟩⟩
theorem pR (h : wpList P ops Q rest (Act.mk ts.toArray df) w) (h1 : (ops[j]?).bind (·.dst) = some e := by rfl) (h2 : ts.getD e undef = .bool b := by rfl) (h3 : b = !want := by (first | (with_reducible exact (rfl : true = !false)) | (with_reducible exact (rfl : false = !true)) | (exact Bool.not_false.symm) | (exact Bool.not_true.symm))) :
 G1 P ops Q rest none op ty ps af j want ts df w := ⟨⟨KO (GV.mk h1 h2 ⟨fun h' => (by rw [h3] at h'; cases want <;> cases h'), fun _ => h⟩)⟩⟩
theorem pG (k1 : p1 → wpList P ops Q (Oper.mk (some d) op ty ps af none :: rest) (Act.mk t1.toArray df) w) (k0 : p0 → wpList P ops Q rest (Act.mk t0.toArray df) w)
 (h1 : (ops[j]?).bind (·.dst) = some e := by rfl) (h2 : ts.getD e undef = .bool b := by rfl) (hp1 : (b = want) = p1 := by ((first | (simp only [decide_eq_true_eq, decide_eq_false_iff_not, Bool.not_true, Bool.not_false]; (with_reducible exact rfl)) | (with_reducible exact rfl)))) (hp0 : (b = !want) = p0 := by ((first | (simp only [decide_eq_true_eq, decide_eq_false_iff_not, Bool.not_true, Bool.not_false]; (with_reducible exact rfl)) | (with_reducible exact rfl))))
 (e1 : b = want → ts = t1 := by (intro hcW; (try simp only [hcW, Bool.not_true, Bool.not_false]); (try simp only [List.set_cons_succ, List.set_cons_zero, List.getD_cons_succ, List.getD_cons_zero, List.length_map, if_true, Bool.false_eq_true, if_false, Int.toNat_natCast, Int.toNat_zero, Int.toNat_one, Nat.zero_mul, Bool.not_true, Bool.not_false, decide_true, decide_false]); (with_reducible exact rfl))) (e0 : b = !want → ts.set d undef = t0 := by (intro hcW; (try simp only [hcW, Bool.not_true, Bool.not_false]); (try simp only [List.set_cons_succ, List.set_cons_zero, List.getD_cons_succ, List.getD_cons_zero, List.length_map, if_true, Bool.false_eq_true, if_false, Int.toNat_natCast, Int.toNat_zero, Int.toNat_one, Nat.zero_mul, Bool.not_true, Bool.not_false, decide_true, decide_false]); (with_reducible exact rfl))) : G1 P ops Q rest (some d) op ty ps af j want ts df w :=
 ⟨⟨QB ⟨h1, h2, fun h => e1 h ▸ k1 (hp1 ▸ h), fun h => e0 h ▸ k0 (hp0 ▸ h)⟩⟩⟩
theorem pH (k1 : p1 → wpList P ops Q (Oper.mk none op ty ps af none :: rest) (Act.mk t1.toArray df) w) (k0 : p0 → wpList P ops Q rest (Act.mk t0.toArray df) w)
 (h1 : (ops[j]?).bind (·.dst) = some e := by rfl) (h2 : ts.getD e undef = .bool b := by rfl) (hp1 : (b = want) = p1 := by ((first | (simp only [decide_eq_true_eq, decide_eq_false_iff_not, Bool.not_true, Bool.not_false]; (with_reducible exact rfl)) | (with_reducible exact rfl)))) (hp0 : (b = !want) = p0 := by ((first | (simp only [decide_eq_true_eq, decide_eq_false_iff_not, Bool.not_true, Bool.not_false]; (with_reducible exact rfl)) | (with_reducible exact rfl))))
 (e1 : b = want → ts = t1 := by (intro hcW; (try simp only [hcW, Bool.not_true, Bool.not_false]); (try simp only [List.set_cons_succ, List.set_cons_zero, List.getD_cons_succ, List.getD_cons_zero, List.length_map, if_true, Bool.false_eq_true, if_false, Int.toNat_natCast, Int.toNat_zero, Int.toNat_one, Nat.zero_mul, Bool.not_true, Bool.not_false, decide_true, decide_false]); (with_reducible exact rfl))) (e0 : b = !want → ts = t0 := by (intro hcW; (try simp only [hcW, Bool.not_true, Bool.not_false]); (try simp only [List.set_cons_succ, List.set_cons_zero, List.getD_cons_succ, List.getD_cons_zero, List.length_map, if_true, Bool.false_eq_true, if_false, Int.toNat_natCast, Int.toNat_zero, Int.toNat_one, Nat.zero_mul, Bool.not_true, Bool.not_false, decide_true, decide_false]); (with_reducible exact rfl))) : G1 P ops Q rest none op ty ps af j want ts df w :=
 ⟨⟨KO ⟨h1, h2, fun h => e1 h ▸ k1 (hp1 ▸ h), fun h => e0 h ▸ k0 (hp0 ▸ h)⟩⟩⟩
structure Sq (P : Program) (ops : Array Oper) (C : World → Prop) (QQ : Act → Prop) (rest : List Oper) (o : Oper) (ts : List Value) (df : List Deferred) : Prop where
 out : wpQuiet P ops C QQ (o :: rest) (Act.mk ts.toArray df)
structure Q1 (P : Program) (ops : Array Oper) (C : World → Prop) (QQ : Act → Prop) (rest : List Oper) (d : Nat) (op : Op) (ty : TypeId) (ps : String) (af : Array Edge) (ts : List Value) (df : List Deferred) : Prop where
 out : Sq P ops C QQ rest (Oper.mk (some d) op ty ps af none) ts df
structure QG (P : Program) (ops : Array Oper) (C : World → Prop) (QQ : Act → Prop) (rest : List Oper) (d : Nat) (op : Op) (ty : TypeId) (ps : String) (af : Array Edge) (j : Nat) (want : Bool) (ts : List Value) (df : List Deferred) : Prop where
 out : Sq P ops C QQ rest (Oper.mk (some d) op ty ps af (some (j, want))) ts df
inductive SRq (P : Program) (o : Oper) (ts : List Value) (df : List Deferred) (C : World → Prop) (d : Nat) (ts' : List Value) : Prop
 | mk {v : Value} (h1 : ∀ w, C w → Runs P o (Act.mk ts.toArray df) w v) (h2 : ts.set d v = ts') : SRq P o ts df C d ts'
variable {C : World → Prop} {QQ : Act → Prop}
theorem VA (h : Sq P ops C QQ rest o ts df) : wpQuiet P ops C QQ (o :: rest) (Act.mk ts.toArray df) := h.out
theorem VB (h : Q1 P ops C QQ rest d op ty ps af ts df) : Sq P ops C QQ rest (Oper.mk (some d) op ty ps af none) ts df := h.out
theorem VC (h : QG P ops C QQ rest d op ty ps af j want ts df) : Sq P ops C QQ rest (Oper.mk (some d) op ty ps af (some (j, want))) ts df := h.out
theorem VV (h : wpQuiet P ops C QQ rest (Act.mk ts'.toArray df)) (hr : SRq P (Oper.mk (some d) op ty ps af none) ts df C d ts' := by (apply SRq.mk; (intro _ _; exact rn); (((simp only [List.set_cons_succ, List.set_cons_zero, List.getD_cons_succ, List.getD_cons_zero, List.length_map, if_true, Bool.false_eq_true, if_false, Int.toNat_natCast, Int.toNat_zero, Int.toNat_one, Nat.zero_mul, Bool.not_true, Bool.not_false, decide_true, decide_false]); (with_reducible exact rfl))))) : Q1 P ops C QQ rest d op ty ps af ts df := by
 obtain ⟨hr, e⟩ := hr; exact ⟨⟨fU hr (e ▸ h)⟩⟩
theorem VD (h : wpQuiet P ops C QQ (Oper.mk (some d) op ty ps af none :: rest) (Act.mk ts.toArray df)) (h1 : (ops[j]?).bind (·.dst) = some e := by rfl) (h2 : ts.getD e undef = .bool b := by rfl) (h3 : b = want := by (with_reducible rfl)) : QG P ops C QQ rest d op ty ps af j want ts df := by
 refine ⟨⟨?_⟩⟩
 have hw := uR (op := op) (ty := ty) (ps := ps) (af := af) (o := some d) h1 h2 h3
 unfold wpQuiet at h ⊢
 rw [if_pos hw]
 rw [if_pos (by simp [Region.wanted])] at h
 exact h
theorem VE (h : wpQuiet P ops C QQ rest (Act.mk ts'.toArray df)) (h1 : (ops[j]?).bind (·.dst) = some e := by rfl) (h2 : ts.getD e undef = .bool b := by rfl) (h3 : b = !want := by (first | (with_reducible exact (rfl : true = !false)) | (with_reducible exact (rfl : false = !true)) | (exact Bool.not_false.symm) | (exact Bool.not_true.symm))) (e : ts.set d undef = ts' := by ((simp only [List.set_cons_succ, List.set_cons_zero, List.getD_cons_succ, List.getD_cons_zero, List.length_map, if_true, Bool.false_eq_true, if_false, Int.toNat_natCast, Int.toNat_zero, Int.toNat_one, Nat.zero_mul, Bool.not_true, Bool.not_false, decide_true, decide_false]); (with_reducible exact rfl))) : QG P ops C QQ rest d op ty ps af j want ts df :=
 ⟨⟨zH h1 h2 h3 (e ▸ h)⟩⟩
theorem VF (h : wpQuiet P ops C QQ rest (Act.mk ts'.toArray df)) (h1 : (ops[j]?).bind (·.dst) = some e := by rfl) (h2 : ts.getD e undef = undef := by rfl) (e : ts.set d undef = ts' := by ((simp only [List.set_cons_succ, List.set_cons_zero, List.getD_cons_succ, List.getD_cons_zero, List.length_map, if_true, Bool.false_eq_true, if_false, Int.toNat_natCast, Int.toNat_zero, Int.toNat_one, Nat.zero_mul, Bool.not_true, Bool.not_false, decide_true, decide_false]); (with_reducible exact rfl))) : QG P ops C QQ rest d op ty ps af j want ts df :=
 ⟨⟨CU (zG ⟨h1, h2⟩) (e ▸ h)⟩⟩
theorem VG {a : Act} (h : QQ a) : wpQuiet P ops C QQ [] a := HL h
end
section
variable {P : Program} {Q : Exit → Act → World → Prop} {S : World → Prop} {l : List Oper} {ts : List Value} {df : List Deferred} {d : Nat} {ty : TypeId} {ps : String} {af : Array Edge} {g : Option (Nat × Bool)} {w : World} {fuel : Nat} {listed : List Bool}
theorem tk (i : Nat) {fuel2 : Nat} {op : Op} {v : Value} (h : wpAnyH P .any l.toArray Q S fuel (listed.set i true).toArray (Act.mk (ts.set d v).toArray df) w)
 (hi : l[i]? = some (Oper.mk (some d) op ty ps af g) := by rfl) (hfu : fuel2 = fuel + 1 := by rfl) (hs : Region.noSelect l.toArray = true := by decide +kernel) (hf : Region.free .any l.toArray listed.toArray i = true := by decide +kernel) (hr : (Region.ready .any l.toArray listed.toArray).contains i = true := by decide +kernel)
 (hw : Region.wanted (Oper.mk (some d) op ty ps af g) (yielded l.toArray ts.toArray) = true := by rfl) (hS : S w := by (repeat (first | (with_reducible assumption) | exact Ext.refl _ | (refine Ext.trans ?_ (by with_reducible assumption)))))
 (hy : ∀ w', S w' → Runs P (Oper.mk (some d) op ty ps af g) (Act.mk ts.toArray df) w' v := by (intro _ _; exact rn)) (hQ : ∀ c a w, Q (.panic c) (a.put (some d) v) w → Q (.panic c) a w := by exact fun _ _ _ h => h) : wpAnyH P .any l.toArray Q S fuel2 listed.toArray (Act.mk ts.toArray df) w :=
 bP hi hfu hs hf hr hw hS hy hQ h
theorem nA (i : Nat) {fuel2 : Nat} {op : Op} (h : wpAnyH P .any l.toArray Q S fuel (listed.set i true).toArray (Act.mk (ts.set d undef).toArray df) w)
 (hi : l[i]? = some (Oper.mk (some d) op ty ps af g) := by rfl) (hfu : fuel2 = fuel + 1 := by rfl) (hs : Region.noSelect l.toArray = true := by decide +kernel) (hf : Region.free .any l.toArray listed.toArray i = true := by decide +kernel) (hr : (Region.ready .any l.toArray listed.toArray).contains i = true := by decide +kernel)
 (hQ : ∀ c a w, Q (.panic c) (a.put (some d) undef) w → Q (.panic c) a w := by exact fun _ _ _ h => h) (hw : Region.wanted (Oper.mk (some d) op ty ps af g) (yielded l.toArray ts.toArray) = false := by rfl) (hS : S w := by (repeat (first | (with_reducible assumption) | exact Ext.refl _ | (refine Ext.trans ?_ (by with_reducible assumption))))) : wpAnyH P .any l.toArray Q S fuel2 listed.toArray (Act.mk ts.toArray df) w :=
 KQ hi hfu hs hf hr hQ hw hS h
end
structure Hid (G : Prop) : Prop where
 out : G
section
variable {P : Program} {ops : Array Oper} {Q : Exit → Act → World → Prop} {rest : List Oper} {o : Oper} {ts : List Value} {df : List Deferred} {w : World} {C : World → Prop} {QQ : Act → Prop} {l : List Oper} {a : Act}
theorem fM {G' : Prop} (h : G') (e : Hid G' → St P ops Q rest o ts df w := by (intro hk; (first | (refine gW ?_; refine jA ?_) | (refine jG ?_; first | refine kJ ?_ | refine pP ?_ | refine pR ?_ | refine pQ ?_)); (repeat ((with_reducible refine bR ?_); (first | (refine gW ?_; refine jA ?_) | (refine jG ?_; first | refine kJ ?_ | refine pP ?_ | refine pR ?_ | refine pQ ?_)))); exact hk.out)) : St P ops Q rest o ts df w := e ⟨h⟩
structure Qh (P : Program) (ops : Array Oper) (C : World → Prop) (QQ : Act → Prop) (l : List Oper) (a : Act) : Prop where
 out : wpQuiet P ops C QQ l a
theorem VH (h : Qh P ops C QQ l a) : wpQuiet P ops C QQ l a := h.out
theorem VW {G' : Prop} (h : G') (e : Hid G' → wpQuiet P ops C QQ l a := by (intro hk; (repeat (first | ((with_reducible refine VA ?_); (first | (refine VB ?_; refine VV ?_) | (refine VC ?_; first | refine VD ?_ | refine VE ?_ | refine VF ?_))) | (with_reducible refine VG ?_))); exact hk.out)) : Qh P ops C QQ l a := ⟨e ⟨h⟩⟩
theorem dN {G1 G0 p1 p0 : Prop} (h1 : p1 → G1) (h0 : p0 → G0) (e : (p1 → G1) → (p0 → G0) → St P ops Q rest o ts df w := by (intro hk1 hk0; refine jG ?_; first | exact pG hk1 hk0 | exact pH hk1 hk0)) : St P ops Q rest o ts df w := e h1 h0
structure NoOp (G G' : Prop) : Prop where
 out : G = G'
theorem KR : NoOp (wpList P ops Q (o :: rest) (Act.mk ts.toArray df) w) (wpList P ops Q (o :: rest) (Act.mk ts.toArray df) w) := ⟨rfl⟩
end
inductive TkI (P : Program) (Q : Exit → Act → World → Prop) (k : Nat) (F : World → Prop) (l : List Oper) (ts : List Value) (df : List Deferred) (listed : List Bool) (fuel2 i fuel : Nat) (ts' : List Value) : Prop
 | mk {d op ty ps af g v} (hi : l[i]? = some (Oper.mk (some d) op ty ps af g)) (hfu : fuel2 = fuel + 1) (hik : decide (i ≠ k) = true) (hk : uK .any l.toArray l.length k i = true) (hs : Region.noSelect l.toArray = true) (hf : Region.free .any l.toArray listed.toArray i = true) (hr : (Region.ready .any l.toArray listed.toArray).contains i = true)
   (hw : Region.wanted (Oper.mk (some d) op ty ps af g) (yielded l.toArray ts.toArray) = true) (hy : ∀ w', F w' → Runs P (Oper.mk (some d) op ty ps af g) (Act.mk ts.toArray df) w' v) (hQ : ∀ c a w, Q (.panic c) (a.put (some d) v) w → Q (.panic c) a w) (e : ts.set d v = ts') : TkI P Q k F l ts df listed fuel2 i fuel ts'
theorem eL (i : Nat) {P : Program} {Q : Exit → Act → World → Prop} {k : Nat} {F : World → Prop} {l : List Oper} {ts ts' : List Value} {df : List Deferred} {listed : List Bool} {fuel2 fuel : Nat} {w : World} (h : BL P Q k F l fuel (listed.set i true) (Act.mk ts'.toArray df) w)
 (e : TkI P Q k F l ts df listed fuel2 i fuel ts' := by refine TkI.mk (by rfl) (by rfl) (by decide +kernel) (by decide +kernel) (by decide +kernel) (by decide +kernel) (by decide +kernel) (by rfl) (by (intro _ _; exact rn)) (fun _ _ _ h => h) (by ((simp only [List.set_cons_succ, List.set_cons_zero, List.getD_cons_succ, List.getD_cons_zero, List.length_map, if_true, Bool.false_eq_true, if_false, Int.toNat_natCast, Int.toNat_zero, Int.toNat_one, Nat.zero_mul, Bool.not_true, Bool.not_false, decide_true, decide_false]); (with_reducible exact rfl)))) : BL P Q k F l fuel2 listed (Act.mk ts.toArray df) w := by
 obtain ⟨hi, hfu, hik, hk, hs, hf, hr, hw, hy, hQ, e⟩ := e
 exact bQ hi hfu hik hk hs hf hr hw hy hQ (e ▸ h)
inductive TkP (P : Program) (Q : Exit → Act → World → Prop) (k : Nat) (F : World → Prop) (l : List Oper) (ts : List Value) (df : List Deferred) (listed : List Bool) (fuel2 i fuel : Nat) (ts' : List Value) : Prop
 | mk {d op ty ps af g v} (hi : l[i]? = some (Oper.mk (some d) op ty ps af g)) (hfu : fuel2 = fuel + 1) (hik : decide (i ≠ k) = true) (hs : Region.noSelect l.toArray = true) (hf : Region.free .any l.toArray listed.toArray i = true) (hr : (Region.ready .any l.toArray listed.toArray).contains i = true)
   (hw : Region.wanted (Oper.mk (some d) op ty ps af g) (yielded l.toArray ts.toArray) = true) (hy : ∀ w', Runs P (Oper.mk (some d) op ty ps af g) (Act.mk ts.toArray df) w' v) (hQ : ∀ c a w, Q (.panic c) (a.put (some d) v) w → Q (.panic c) a w) (e : ts.set d v = ts') : TkP P Q k F l ts df listed fuel2 i fuel ts'
theorem iN (i : Nat) {P : Program} {Q : Exit → Act → World → Prop} {k : Nat} {F : World → Prop} {l : List Oper} {ts ts' : List Value} {df : List Deferred} {listed : List Bool} {fuel2 fuel : Nat} {w : World} (h : BL P Q k F l fuel (listed.set i true) (Act.mk ts'.toArray df) w)
 (e : TkP P Q k F l ts df listed fuel2 i fuel ts' := by refine TkP.mk (by rfl) (by rfl) (by decide +kernel) (by decide +kernel) (by decide +kernel) (by decide +kernel) (by rfl) (by (intro _; exact rn)) (fun _ _ _ h => h) (by ((simp only [List.set_cons_succ, List.set_cons_zero, List.getD_cons_succ, List.getD_cons_zero, List.length_map, if_true, Bool.false_eq_true, if_false, Int.toNat_natCast, Int.toNat_zero, Int.toNat_one, Nat.zero_mul, Bool.not_true, Bool.not_false, decide_true, decide_false]); (with_reducible exact rfl)))) : BL P Q k F l fuel2 listed (Act.mk ts.toArray df) w := by
 obtain ⟨hi, hfu, hik, hs, hf, hr, hw, hy, hQ, e⟩ := e
 exact dU hi hfu hik hs hf hr hw hy hQ (e ▸ h)
theorem kK (i : Nat) {P : Program} {Q : Exit → Act → World → Prop} {k : Nat} {F : World → Prop} {l : List Oper} {ts : List Value} {df : List Deferred} {listed : List Bool} {fuel2 fuel d ty : Nat} {op : Op} {ps : String} {af : Array Edge} {g : Option (Nat × Bool)} {v : Value} {w : World}
 (hi : l[i]? = some (Oper.mk (some d) op ty ps af g)) (hy : ∀ w', Runs P (Oper.mk (some d) op ty ps af g) (Act.mk ts.toArray df) w' v) (h : BL P Q k F l fuel (listed.set i true) (Act.mk (ts.set d v).toArray df) w)
 (hfu : fuel2 = fuel + 1 := by rfl) (hik : decide (i ≠ k) = true := by decide +kernel) (hs : Region.noSelect l.toArray = true := by decide +kernel) (hf : Region.free .any l.toArray listed.toArray i = true := by decide +kernel) (hr : (Region.ready .any l.toArray listed.toArray).contains i = true := by decide +kernel)
 (hw : Region.wanted (Oper.mk (some d) op ty ps af g) (yielded l.toArray ts.toArray) = true := by rfl) (hQ : ∀ c a w, Q (.panic c) (a.put (some d) v) w → Q (.panic c) a w := by exact fun _ _ _ h => h) : BL P Q k F l fuel2 listed (Act.mk ts.toArray df) w := dU hi hfu hik hs hf hr hw hy hQ h
theorem cY {G G' : Prop} (h : G') (e : NoOp G G' := by ((fail_if_success (with_reducible exact KR)); exact ⟨rfl⟩)) : G := e.out.mpr h
end Go.Proofs.X
set_option linter.unusedVariables false
set_option linter.unusedSimpArgs false
namespace Go.Proofs.X
open Go.RowKit
set_option maxRecDepth 100000
section
variable {P : Program} {w : World} {ts : List Value} {df : List Deferred} {d : Option Nat} {ty : TypeId} {ps : String} {af : Array Edge} {g : Option (Nat × Bool)}
theorem Runs.fieldLitK {s : TypeId} {m n b o : Nat} (k : Nat) (h : ts.getD m undef = .pointer (some ⟨b, o, none⟩)) (hf : jO P s n (n + k) = true) :
 Runs P (Oper.mk d (.fieldAddr s (.tmp m) n) ty ps af g) (Act.mk ts.toArray df) w (bL (ts.getD m undef) (n + k)) := by
 obtain ⟨fs, f, i, ht, hf, ho, hie, hz⟩ := jQ hf
 have e1 : (Act.mk ts.toArray df).eval (.tmp m) = .pointer (some ⟨b, o, none⟩) := by rw [eW]; exact h
 constructor
 rw [h]
 simp [execOp, e1, Instr.fieldAt, Instr.sureAddr, run_underlying ht, hf, fieldPlace, sizeOf, typeInfo, hie, hz, bL, ho]
theorem Runs.isNilN {t u : TypeId} {x y : Operand} {a : Act} (hx : a.eval x = .pointer none) (hy : a.eval y = .pointer none) (ht : P.underlying t = some (.pointer (P.pointee t))) :
 Runs P (Oper.mk d (.binOp .eql t x y u) ty ps af g) a w (.bool true) := by
 constructor
 simp [execOp, hx, hy, eqGuard, run_eql_pointer_nil w t none ht]
theorem Runs.isNilS {t u : TypeId} {x y : Operand} {a : Act} {p : Addr} (hx : a.eval x = .pointer (some p)) (hy : a.eval y = .pointer none) (ht : P.underlying t = some (.pointer (P.pointee t))) :
 Runs P (Oper.mk d (.binOp .eql t x y u) ty ps af g) a w (.bool false) := by
 constructor
 simp [execOp, hx, hy, eqGuard, run_eql_pointer_nil w t (some p) ht]
theorem Runs.notNilN {t u : TypeId} {x y : Operand} {a : Act} (hx : a.eval x = .pointer none) (hy : a.eval y = .pointer none) (ht : P.underlying t = some (.pointer (P.pointee t))) :
 Runs P (Oper.mk d (.binOp .neq t x y u) ty ps af g) a w (.bool false) := by
 constructor
 simp [execOp, hx, hy, eqGuard, run_neq_pointer_nil w t none ht]
theorem Runs.notNilS {t u : TypeId} {x y : Operand} {a : Act} {p : Addr} (hx : a.eval x = .pointer (some p)) (hy : a.eval y = .pointer none) (ht : P.underlying t = some (.pointer (P.pointee t))) :
 Runs P (Oper.mk d (.binOp .neq t x y u) ty ps af g) a w (.bool true) := by
 constructor
 simp [execOp, hx, hy, eqGuard, run_neq_pointer_nil w t (some p) ht]
end
theorem QC {P : Program} {o : Oper} {a : Act} {w : World} {v : Value} (h : Runs P o a w v := by (first | exact rn | ((apply Runs.fieldLitK (k := 1)); (rfl); (decide +kernel)) | ((apply Runs.fieldLitK (k := 6)); (rfl); (decide +kernel)) | ((apply Runs.fieldLitK (k := 4)); (rfl); (decide +kernel)) | ((apply Runs.fieldLitK (k := 3)); (rfl); (decide +kernel)) | ((apply Runs.isNilN); (rfl); (rfl); (kernel_rfl)) | ((apply Runs.isNilS); (rfl); (rfl); (kernel_rfl)) | ((apply Runs.notNilN); (rfl); (rfl); (kernel_rfl)) | ((apply Runs.notNilS); (rfl); (rfl); (kernel_rfl)))) : Runs P o a w v := h
section
variable {P : Program} {ops : Array Oper} {Q : Exit → Act → World → Prop} {rest : List Oper} {o : Oper} {ts ts' t1 t0 : List Value} {df : List Deferred} {w : World} {d e j : Nat} {op : Op} {ty : TypeId} {ps : String} {af : Array Edge} {b want : Bool} {v : Value} {p1 p0 : Prop} {C : World → Prop} {QQ : Act → Prop} {l : List Oper} {a : Act}
theorem FQ (h : wpList P ops Q rest (Act.mk ts'.toArray df) w) (hr : SR P (Oper.mk (some d) op ty ps af none) ts df w d ts' := by (apply SR.mk; (exact QC); (((simp only [List.set_cons_succ, List.set_cons_zero, List.getD_cons_succ, List.getD_cons_zero, List.length_map, if_true, Bool.false_eq_true, if_false, Int.toNat_natCast, Int.toNat_zero, Int.toNat_one, Nat.zero_mul, Bool.not_true, Bool.not_false, decide_true, decide_false]); (with_reducible exact rfl))))) :
 S1 P ops Q rest d op ty ps af ts df w := by obtain ⟨hr, e⟩ := hr; exact ⟨⟨bM hr (e ▸ h)⟩⟩
theorem TZ (h : wpQuiet P ops C QQ rest (Act.mk ts'.toArray df)) (hr : SRq P (Oper.mk (some d) op ty ps af none) ts df C d ts' := by (apply SRq.mk; (intro _ _; exact QC); (((simp only [List.set_cons_succ, List.set_cons_zero, List.getD_cons_succ, List.getD_cons_zero, List.length_map, if_true, Bool.false_eq_true, if_false, Int.toNat_natCast, Int.toNat_zero, Int.toNat_one, Nat.zero_mul, Bool.not_true, Bool.not_false, decide_true, decide_false]); (with_reducible exact rfl))))) : Q1 P ops C QQ rest d op ty ps af ts df := by
 obtain ⟨hr, e⟩ := hr; exact ⟨⟨fU hr (e ▸ h)⟩⟩
theorem iI {G' : Prop} (h : G') (e : Hid G' → St P ops Q rest o ts df w := by (intro hk; (first | (refine gW ?_; refine FQ ?_) | (refine jG ?_; first | refine kJ ?_ | refine pP ?_ | refine pR ?_ | refine pQ ?_)); (repeat ((with_reducible refine bR ?_); (first | (refine gW ?_; refine FQ ?_) | (refine jG ?_; first | refine kJ ?_ | refine pP ?_ | refine pR ?_ | refine pQ ?_)))); exact hk.out)) : St P ops Q rest o ts df w := e ⟨h⟩
theorem VX {G' : Prop} (h : G') (e : Hid G' → wpQuiet P ops C QQ l a := by (intro hk; (repeat (first | ((with_reducible refine VA ?_); (first | (refine VB ?_; refine TZ ?_) | (refine VC ?_; first | refine VD ?_ | refine VE ?_ | refine VF ?_))) | (with_reducible refine VG ?_))); exact hk.out)) : Qh P ops C QQ l a := ⟨e ⟨h⟩⟩
end
inductive TkI1 (P : Program) (Q : Exit → Act → World → Prop) (k : Nat) (F : World → Prop) (l : List Oper) (ts : List Value) (df : List Deferred) (listed : List Bool) (fuel2 i fuel : Nat) (ts' : List Value) : Prop
 | mk {d op ty ps af g v} (hi : l[i]? = some (Oper.mk (some d) op ty ps af g)) (hfu : fuel2 = fuel + 1) (hik : decide (i ≠ k) = true) (hk : uK .any l.toArray l.length k i = true) (hs : Region.noSelect l.toArray = true) (hf : Region.free .any l.toArray listed.toArray i = true) (hr : (Region.ready .any l.toArray listed.toArray).contains i = true)
   (hw : Region.wanted (Oper.mk (some d) op ty ps af g) (yielded l.toArray ts.toArray) = true) (hy : ∀ w', F w' → Runs P (Oper.mk (some d) op ty ps af g) (Act.mk ts.toArray df) w' v) (hQ : ∀ c a w, Q (.panic c) (a.put (some d) v) w → Q (.panic c) a w) (e : ts.set d v = ts') : TkI1 P Q k F l ts df listed fuel2 i fuel ts'
theorem PI (i : Nat) {P : Program} {Q : Exit → Act → World → Prop} {k : Nat} {F : World → Prop} {l : List Oper} {ts ts' : List Value} {df : List Deferred} {listed : List Bool} {fuel2 fuel : Nat} {w : World} (h : BL P Q k F l fuel (listed.set i true) (Act.mk ts'.toArray df) w)
 (e : TkI1 P Q k F l ts df listed fuel2 i fuel ts' := by refine TkI1.mk (by rfl) (by rfl) (by decide +kernel) (by decide +kernel) (by decide +kernel) (by decide +kernel) (by decide +kernel) (by rfl) (by (intro _ _; exact QC)) (fun _ _ _ h => h) (by ((simp only [List.set_cons_succ, List.set_cons_zero, List.getD_cons_succ, List.getD_cons_zero, List.length_map, if_true, Bool.false_eq_true, if_false, Int.toNat_natCast, Int.toNat_zero, Int.toNat_one, Nat.zero_mul, Bool.not_true, Bool.not_false, decide_true, decide_false]); (with_reducible exact rfl)))) : BL P Q k F l fuel2 listed (Act.mk ts.toArray df) w := by
 obtain ⟨hi, hfu, hik, hk, hs, hf, hr, hw, hy, hQ, e⟩ := e
 exact bQ hi hfu hik hk hs hf hr hw hy hQ (e ▸ h)
inductive TkP1 (P : Program) (Q : Exit → Act → World → Prop) (k : Nat) (F : World → Prop) (l : List Oper) (ts : List Value) (df : List Deferred) (listed : List Bool) (fuel2 i fuel : Nat) (ts' : List Value) : Prop
 | mk {d op ty ps af g v} (hi : l[i]? = some (Oper.mk (some d) op ty ps af g)) (hfu : fuel2 = fuel + 1) (hik : decide (i ≠ k) = true) (hs : Region.noSelect l.toArray = true) (hf : Region.free .any l.toArray listed.toArray i = true) (hr : (Region.ready .any l.toArray listed.toArray).contains i = true)
   (hw : Region.wanted (Oper.mk (some d) op ty ps af g) (yielded l.toArray ts.toArray) = true) (hy : ∀ w', Runs P (Oper.mk (some d) op ty ps af g) (Act.mk ts.toArray df) w' v) (hQ : ∀ c a w, Q (.panic c) (a.put (some d) v) w → Q (.panic c) a w) (e : ts.set d v = ts') : TkP1 P Q k F l ts df listed fuel2 i fuel ts'
theorem PJ (i : Nat) {P : Program} {Q : Exit → Act → World → Prop} {k : Nat} {F : World → Prop} {l : List Oper} {ts ts' : List Value} {df : List Deferred} {listed : List Bool} {fuel2 fuel : Nat} {w : World} (h : BL P Q k F l fuel (listed.set i true) (Act.mk ts'.toArray df) w)
 (e : TkP1 P Q k F l ts df listed fuel2 i fuel ts' := by refine TkP1.mk (by rfl) (by rfl) (by decide +kernel) (by decide +kernel) (by decide +kernel) (by decide +kernel) (by rfl) (by (intro _; exact QC)) (fun _ _ _ h => h) (by ((simp only [List.set_cons_succ, List.set_cons_zero, List.getD_cons_succ, List.getD_cons_zero, List.length_map, if_true, Bool.false_eq_true, if_false, Int.toNat_natCast, Int.toNat_zero, Int.toNat_one, Nat.zero_mul, Bool.not_true, Bool.not_false, decide_true, decide_false]); (with_reducible exact rfl)))) : BL P Q k F l fuel2 listed (Act.mk ts.toArray df) w := by
 obtain ⟨hi, hfu, hik, hs, hf, hr, hw, hy, hQ, e⟩ := e
 exact dU hi hfu hik hs hf hr hw hy hQ (e ▸ h)
section
variable {P : Program} {Q : Exit → Act → World → Prop} {S : World → Prop} {l : List Oper} {ts : List Value} {df : List Deferred} {d : Nat} {ty : TypeId} {ps : String} {af : Array Edge} {g : Option (Nat × Bool)} {w : World} {fuel : Nat} {listed : List Bool}
theorem eQ (i : Nat) {fuel2 : Nat} {op : Op} {v : Value} (h : wpAnyH P .any l.toArray Q S fuel (listed.set i true).toArray (Act.mk (ts.set d v).toArray df) w)
 (hi : l[i]? = some (Oper.mk (some d) op ty ps af g) := by rfl) (hfu : fuel2 = fuel + 1 := by rfl) (hs : Region.noSelect l.toArray = true := by decide +kernel) (hf : Region.free .any l.toArray listed.toArray i = true := by decide +kernel) (hr : (Region.ready .any l.toArray listed.toArray).contains i = true := by decide +kernel)
 (hw : Region.wanted (Oper.mk (some d) op ty ps af g) (yielded l.toArray ts.toArray) = true := by rfl) (hS : S w := by (repeat (first | (with_reducible assumption) | exact Ext.refl _ | (refine Ext.trans ?_ (by with_reducible assumption)))))
 (hy : ∀ w', S w' → Runs P (Oper.mk (some d) op ty ps af g) (Act.mk ts.toArray df) w' v := by (intro _ _; exact QC)) (hQ : ∀ c a w, Q (.panic c) (a.put (some d) v) w → Q (.panic c) a w := by exact fun _ _ _ h => h) : wpAnyH P .any l.toArray Q S fuel2 listed.toArray (Act.mk ts.toArray df) w :=
 bP hi hfu hs hf hr hw hS hy hQ h
end
end Go.Proofs.X
set_option linter.unusedVariables false
set_option linter.unusedSimpArgs false
namespace Go.Proofs.X
open Go.RowKit
section
variable {P : Program} {Q : Exit → Act → World → Prop} {S : World → Prop} {l : List Oper} {ts : List Value} {df : List Deferred} {w : World} {fuel : Nat} {listed : List Bool}
end
end Go.Proofs.X
set_option linter.unusedVariables false
set_option linter.unusedSimpArgs false
namespace Go.Proofs.X
open Go.RowKit
theorem rD {α : Type} [Inhabited α] (enc : α → List Value) (k : Nat) (hk : ∀ x, (enc x).length = k) (l : List α) : (Sort.flatK enc k l.toArray).toList = (l.map enc).flatten := by
 have hall : ∀ x ∈ l.map enc, x.length = k := by
  intro x hx
  obtain ⟨y, _, rfl⟩ := List.mem_map.1 hx
  exact hk y
 have hfl := aY hall
 have h : Sort.flatK enc k l.toArray = ((l.map enc).flatten).toArray := by
  refine Sort.ext_get! (by simp [hfl]) fun t ht => ?_
  have ht' : t < l.length * k := by simpa using ht
  rw [Sort.get_flatK _ _ _ t (by simpa using ht')]
  have k0 : 0 < k := by
   rcases Nat.eq_zero_or_pos k with h | h
   ·subst h; simp at ht'
   ·exact h
  have hd : t / k < l.length := Nat.div_lt_of_lt_mul (by rw [Nat.mul_comm]; exact ht')
  have hm : t % k < k := Nat.mod_lt _ k0
  have e1 : l.toArray[t / k]! = l[t / k] := by rw [getElem!_pos _ _ (by simpa using hd)]; simp
  rw [e1]
  have h1 := iK hall (i := t / k) (j := t % k) (e := enc l[t / k]) (x := (enc l[t / k])[t % k]'(by rw [hk]; exact hm)) (by simp [hd]) (List.getElem?_eq_getElem (by rw [hk]; exact hm))
  rw [show t / k * k + t % k = t by rw [Nat.mul_comm]; exact Nat.div_add_mod t k] at h1
  have h2 : t < (l.map enc).flatten.length := (List.getElem?_eq_some_iff.1 h1).1
  rw [getElem!_pos _ t (by simpa using h2)]
  have h3 := (List.getElem?_eq_some_iff.1 h1).2
  simp only [List.getElem_toArray]
  rw [h3, getElem!_pos _ _ (by rw [hk]; exact hm)]
 rw [h]
theorem Own.holdsF {B k e g cap n : Nat} {w : World} {es : List (List Value)} (h : Own B k e w (.slice (some ⟨g, 0, none⟩) n cap) es) : Sort.Holds id w g 0 es.flatten.toArray := by
 rcases h.row.2 with ⟨h0, _⟩ | ⟨g', cap', cur, fz, hv, hb, hg, hfz, hnc, hcm, hcs, htake⟩
 ·cases h0
 ·simp only [Value.slice.injEq, Option.some.injEq, Addr.mk.injEq, and_true, true_and] at hv
  obtain ⟨rfl, _, rfl⟩ := hv
  have hlen := aY h.each
  have hck : es.length * k ≤ cap * k := Nat.mul_le_mul_right k hnc
  intro j hj
  have hj' : j < es.flatten.length := by simpa using hj
  have hjc : j < cur.size := by omega
  constructor
  ·rw [Nat.zero_add, cell_of_row w g j cur e fz hg]
   have := congrArg (·[j]?) htake
   simp only [List.getElem?_take, if_pos (show j < es.length * k by omega), List.getElem?_eq_getElem hj'] at this
   rw [← Array.getElem?_toList, this]
   rw [getElem!_pos _ j hj]
   simp
  ·rw [Nat.zero_add]; exact qD hg hfz hjc
theorem Own.putRowF {B k e g cap : Nat} {w : World} {es fs : List (List Value)} (h : Own B k e w (.slice (some ⟨g, 0, none⟩) es.length cap) es) (hl : fs.length = es.length) (hf : ∀ x ∈ fs, x.length = k) (n : Nat) (os : Array Obj) :
 Own B k e (Sort.grow (Sort.putRow id (Sort.ahead w n) g 0 fs.flatten.toArray) os) (.slice (some ⟨g, 0, none⟩) es.length cap) fs ∧ Mv (some g) w (Sort.grow (Sort.putRow id (Sort.ahead w n) g 0 fs.flatten.toArray) os) := by
 rcases h.row.2 with ⟨h0, _⟩ | ⟨g', cap', cur, fz, hv, hb, hg, hfz, hnc, hcm, hcs, htake⟩
 ·cases h0
 ·simp only [Value.slice.injEq, Option.some.injEq, Addr.mk.injEq, and_true, true_and] at hv
  obtain ⟨rfl, rfl⟩ := hv
  have hgs : g < w.heap.size := (Array.getElem?_eq_some_iff.1 hg).1
  have hg2 : (Sort.grow (Sort.putRow id (Sort.ahead w n) g 0 fs.flatten.toArray) os).heap[g]? = some (.cells (Sort.putCells id 0 fs.flatten.toArray cur) e fz) := by
   simp only [Sort.grow, Sort.putRow, Sort.mapBlock, Sort.ahead]
   rw [Array.getElem?_append_left (by simpa using hgs), Array.getElem?_modify, if_pos rfl, hg]
   rfl
  have hsz : (Sort.putCells id 0 fs.flatten.toArray cur).size = cur.size := by simp [Sort.putCells]
  have hlen := aY hf
  have hck : es.length * k ≤ cap * k := Nat.mul_le_mul_right k hnc
  refine ⟨⟨⟨hlen, .inr ⟨g, cap, _, fz, by rw [hl], hb, hg2, by rw [hsz]; exact hfz, by omega, hcm, by rw [hsz]; exact hcs, ?_⟩⟩, hf⟩, ⟨rfl, rfl, rfl, ?_, ?_, Nat.le_add_right _ _⟩⟩
  ·apply List.ext_getElem?
   intro j
   simp only [List.getElem?_take]
   by_cases hj : j < fs.length * k
   ·have hpk : fs.length * k = es.length * k := by rw [hl]
    have hjf : j < fs.flatten.length := by omega
    have hjc : j < cur.toList.length := by rw [Array.length_toList]; omega
    rw [if_pos hj, List.getElem?_eq_getElem hjf]
    simp only [Sort.putCells, Array.toList_mapIdx, List.getElem?_mapIdx]
    rw [List.getElem?_eq_getElem hjc, Option.map_some]
    have hc : (0 ≤ j ∧ j < 0 + fs.flatten.toArray.size) := by constructor; omega; simp only [List.size_toArray]; omega
    rw [if_pos hc]
    simp only [Nat.sub_zero, id]
    rw [getElem!_pos _ j (by simpa only [List.size_toArray] using hjf), List.getElem_toArray]
   ·rw [if_neg hj, List.getElem?_eq_none (by omega)]
  ·simp only [Sort.grow, Sort.putRow, Sort.mapBlock, Sort.ahead, Array.size_append, Array.size_modify]; omega
  ·intro k hk hne
   simp only [Sort.grow, Sort.putRow, Sort.mapBlock, Sort.ahead]
   rw [Array.getElem?_append_left (by simpa using hk), Array.getElem?_modify, if_neg (fun e => hne (by rw [e]))]
end Go.Proofs.X
namespace Go.Proofs.X
open Go
def IW : Nat → List UInt8 → Option (List (List UInt8))
 | _, [] => some []
 | 0, _ :: _ => none
 | f + 1, k :: t => if k.toNat < 1 ∨ 63 < k.toNat ∨ t.length < k.toNat then none else (IW f (t.drop k.toNat)).map (t.take k.toNat :: ·)
theorem sL : ∀ (f : Nat) (l : List UInt8), l.length ≤ f → IW f l = IW l.length l
 | 0, [], _ => rfl
 | f + 1, [], _ => rfl
 | f + 1, k :: t, h => by
   simp only [List.length_cons] at h ⊢
   unfold IW
   split
   ·rfl
   ·rw [sL f (t.drop k.toNat) (by simp; omega), sL t.length (t.drop k.toNat) (by simp)]
def gH (l : List UInt8) : Option (List (List UInt8)) := IW l.length l
theorem sM : gH [] = some [] := rfl
theorem jY (k : UInt8) (t : List UInt8) : gH (k :: t) = if k.toNat < 1 ∨ 63 < k.toNat ∨ t.length < k.toNat then none else (gH (t.drop k.toNat)).map (t.take k.toNat :: ·) := by
 unfold gH
 simp only [List.length_cons]
 rw [IW]
 split
 ·rfl
 ·rw [sL t.length (t.drop k.toNat) (by simp)]
def bF (n : List UInt8) : Option (List (List UInt8)) := if 254 < n.length then none else gH n
def sN (b : UInt8) : UInt8 := if 65 ≤ b.toNat ∧ b.toNat ≤ 90 then b + 32 else b
def low (l : List UInt8) : List UInt8 := l.map sN
def enc (ls : List (List UInt8)) : List UInt8 := (ls.map fun x => UInt8.ofNat x.length :: x).flatten
def kS (x : List UInt8) : Bool := decide (1 ≤ x.length) && decide (x.length ≤ 63)
def lW (ls : List (List UInt8)) : Option (List UInt8) := if ls.all kS = true ∧ (enc ls).length ≤ 254 then some (enc ls) else none
def fold (n : List UInt8) : List UInt8 := match bF n with | none => n | some ls => (lW (ls.map low)).getD []
def kT (l : List UInt8) (k : Nat) : List UInt8 := low (l.take k) ++ l.drop k
theorem nH (l : List UInt8) (k : Nat) : (kT l k).length = l.length := by simp [kT, low]; omega
theorem zI (l : List UInt8) : kT l 0 = l := by simp [kT, low]
theorem DD (l : List UInt8) : kT l l.length = low l := by simp [kT]
theorem uY (l : List UInt8) (k : Nat) (h : k < l.length) : (kT l k)[k]? = some l[k] := by
 have hm : (low (l.take k)).length = k := by simp [low]; omega
 rw [kT, List.getElem?_append_right (by omega), hm]
 simp [h]
theorem sO (l : List UInt8) (k : Nat) (h : k < l.length) : kT l (k + 1) = (kT l k).set k (sN l[k]) := by
 have hm : (low (l.take k)).length = k := by simp [low]; omega
 have h1 : l.take (k + 1) = l.take k ++ [l[k]] := by rw [List.take_add_one, List.getElem?_eq_getElem h]; rfl
 have h2 : l.drop k = l[k] :: l.drop (k + 1) := List.drop_eq_getElem_cons h
 unfold kT
 rw [List.set_append_right _ _ (by omega), hm, h2, h1, Nat.sub_self, List.set_cons_zero]
 simp only [low, List.map_append, List.map_cons, List.map_nil, List.append_assoc, List.singleton_append]
theorem sP (l : List UInt8) (k : Nat) (h : k < l.length) (hs : sN l[k] = l[k]) : kT l (k + 1) = kT l k := by
 rw [sO l k h, hs]
 apply List.ext_getElem?
 intro j
 by_cases hj : k = j
 ·subst hj; rw [List.getElem?_set_self (by rw [nH]; exact h), uY l k h]
 ·rw [List.getElem?_set_ne hj]
theorem BM {b : UInt8} (h : ¬ (65 ≤ b.toNat ∧ b.toNat ≤ 90)) : sN b = b := by rw [sN, if_neg h]
def qJ {α : Type} (f : α → α) (l : List α) (k : Nat) : List α := (l.take k).map f ++ l.drop k
theorem tI {α : Type} (f : α → α) (l : List α) (k : Nat) : (qJ f l k).length = l.length := by simp [qJ]; omega
theorem zJ {α : Type} (f : α → α) (l : List α) : qJ f l 0 = l := by simp [qJ]
theorem DE {α : Type} (f : α → α) (l : List α) : qJ f l l.length = l.map f := by simp [qJ]
theorem DF {α : Type} (f : α → α) (l : List α) (k : Nat) (h : k < l.length) : (qJ f l k)[k]? = some l[k] := by
 have hm : ((l.take k).map f).length = k := by simp; omega
 rw [qJ, List.getElem?_append_right (by omega), hm]
 simp [h]
theorem zK {α : Type} (f : α → α) (l : List α) (k : Nat) (h : k < l.length) : qJ f l (k + 1) = (qJ f l k).set k (f l[k]) := by
 have hm : ((l.take k).map f).length = k := by simp; omega
 have h1 : l.take (k + 1) = l.take k ++ [l[k]] := by rw [List.take_add_one, List.getElem?_eq_getElem h]; rfl
 have h2 : l.drop k = l[k] :: l.drop (k + 1) := List.drop_eq_getElem_cons h
 unfold qJ
 rw [List.set_append_right _ _ (by omega), hm, h2, h1, Nat.sub_self, List.set_cons_zero]
 simp only [List.map_append, List.map_cons, List.map_nil, List.append_assoc, List.singleton_append]
theorem zL : ∀ (n : Nat) (l : List UInt8), l.length ≤ n → ∀ ls, gH l = some ls → ls.all kS = true ∧ enc ls = l
 | _, [], _, ls, h => by
   rw [sM] at h; cases h; exact ⟨rfl, rfl⟩
 | 0, _ :: _, hn, _, _ => by simp at hn
 | n + 1, k :: t, hn, ls, h => by
   rw [jY] at h
   split at h
   ·cases h
   ·rename_i hk
    cases hp : gH (t.drop k.toNat) with
    | none => rw [hp] at h; cases h
    | some ms =>
     rw [hp] at h
     cases h
     obtain ⟨h1, h2⟩ := zL n (t.drop k.toNat) (by simp at hn ⊢; omega) ms hp
     have hlen : (t.take k.toNat).length = k.toNat := by simp; omega
     refine ⟨?_, ?_⟩
     ·simp only [List.all_cons, h1, Bool.and_true, kS, hlen, Bool.and_eq_true, decide_eq_true_eq]; omega
     ·have : enc (t.take k.toNat :: ms) = UInt8.ofNat (t.take k.toNat).length :: (t.take k.toNat) ++ enc ms := by simp [enc]
      rw [this, h2, hlen]
      simp
theorem eC {l : List UInt8} {ls : List (List UInt8)} (h : bF l = some ls) : ls.all kS = true ∧ enc ls = l ∧ l.length ≤ 254 := by
 unfold bF at h
 split at h
 ·cases h
 ·have := zL l.length l (Nat.le_refl _) ls h
  exact ⟨this.1, this.2, by omega⟩
theorem uZ (l : List UInt8) : (low l).length = l.length := by simp [low]
theorem lX : ∀ ls : List (List UInt8), (enc ls).length = (ls.map fun x => x.length + 1).sum
 | [] => rfl
 | x :: ls => by
   have := lX ls
   have e : enc (x :: ls) = UInt8.ofNat x.length :: x ++ enc ls := by simp [enc]
   rw [e]
   simp [this]; omega
theorem vD (ls : List (List UInt8)) : (enc (ls.map low)).length = (enc ls).length := by
 rw [lX, lX, List.map_map]
 congr 1
 apply List.map_congr_left
 intro x _
 simp [uZ]
theorem gN (ls : List (List UInt8)) : ls.length ≤ (enc ls).length := by
 rw [lX]
 induction ls with
 | nil => simp
 | cons x ls ih => simp; omega
theorem gO {x : List UInt8} : ∀ {ls : List (List UInt8)}, x ∈ ls → x.length < (enc ls).length
 | y :: ls, h => by
   have e : enc (y :: ls) = UInt8.ofNat y.length :: y ++ enc ls := by simp [enc]
   rw [e]
   rcases List.mem_cons.1 h with rfl | h
   ·simp; omega
   ·have := gO h
    simp; omega
def jH (a b : List UInt8) : Int := if Op.bytesLess a b = true then -1 else if Op.bytesLess a b = false ∧ a ≠ b then 1 else 0
def gG : List (List UInt8) → List (List UInt8) → Int
 | [], [] => 0
 | [], _ :: _ => -1
 | _ :: _, [] => 1
 | x :: xs, y :: ys => if jH x y ≠ 0 then jH x y else gG xs ys
def dJ (n : List UInt8) : Option (List (List UInt8)) := (bF (fold n)).map List.reverse
def gP (a b : List UInt8) : Int := match dJ a, dJ b with
 | none, none => jH a b
 | none, some _ => -1
 | some _, none => 1
 | some x, some y => gG x y
def fE (s : List UInt8) : Option (List UInt8) := if Lib.hasSuffix s [0] = true ∧ (bF (Lib.trimSuffix s [0])).isSome = true then some (Lib.trimSuffix s [0]) else none
def eZ (k : Int) : Int := if k = 33 then 6 else if k = 15 then 2 else if k = 2 ∨ k = 5 ∨ k = 12 then 0 else -1
def fZ (k : Int) (d : List UInt8) : List UInt8 × Int :=
 if eZ k < 0 then ([], 5) else if (d.length : Int) < eZ k then ([], 2) else match fE (d.drop (eZ k).toNat) with
  | none => ([], 2)
  | some n => (n, 0)
def zM : Nat → List UInt8 → Nat
 | _, [] => 0
 | 0, _ :: _ => 0
 | f + 1, k :: t => if k.toNat = 0 then 0 else 1 + k.toNat + zM f (t.drop k.toNat)
theorem qK : ∀ (f : Nat) (l : List UInt8), l.length ≤ f → zM f l = zM l.length l
 | 0, [], _ => rfl
 | f + 1, [], _ => rfl
 | f + 1, k :: t, h => by
   simp only [List.length_cons] at h ⊢
   unfold zM
   split
   ·rfl
   ·rw [qK f (t.drop k.toNat) (by simp; omega), qK t.length (t.drop k.toNat) (by simp)]
def fN (l : List UInt8) : Nat := zM l.length l
theorem qL (k : UInt8) (t : List UInt8) : fN (k :: t) = if k.toNat = 0 then 0 else 1 + k.toNat + fN (t.drop k.toNat) := by
 unfold fN
 simp only [List.length_cons]
 rw [zM]
 split
 ·rfl
 ·rw [qK t.length (t.drop k.toNat) (by simp)]
def bU (s : List UInt8) : List UInt8 × List UInt8 × Bool :=
 if s.length ≤ fN s then ([], [], false) else ((fE (s.take (fN s + 1))).getD [], s.drop (fN s + 1), (fE (s.take (fN s + 1))).isSome)
def nI : Nat → List UInt8 → Bool
 | _, [] => true
 | 0, _ :: _ => true
 | f + 1, k :: t => if t.length < k.toNat then false else nI f (t.drop k.toNat)
theorem nJ : ∀ (f : Nat) (l : List UInt8), l.length ≤ f → nI f l = nI l.length l
 | 0, [], _ => rfl
 | f + 1, [], _ => rfl
 | f + 1, k :: t, h => by
   simp only [List.length_cons] at h ⊢
   unfold nI
   split
   ·rfl
   ·rw [nJ f (t.drop k.toNat) (by simp; omega), nJ t.length (t.drop k.toNat) (by simp)]
def kU (l : List UInt8) : Bool := nI l.length l
theorem nK (k : UInt8) (t : List UInt8) : kU (k :: t) = if t.length < k.toNat then false else kU (t.drop k.toNat) := by
 unfold kU
 simp only [List.length_cons]
 rw [nI]
 split
 ·rfl
 ·rw [nJ t.length (t.drop k.toNat) (by simp)]
def qM (l : List UInt8) : Bool := !decide (l = []) && kU l
def numP (r : List UInt8) (i : Nat) : Nat → Nat
 | 0 => 0
 | k + 1 => numP r i k * 256 + (r.getD (4 * i + k) 0).toNat
theorem HO (r : List UInt8) (i : Nat) : ∀ k, numP r i k < 256 ^ k
 | 0 => by simp [numP]
 | k + 1 => by
   have h1 := HO r i k
   have h2 : (r.getD (4 * i + k) 0).toNat < 256 := UInt8.toNat_lt _
   rw [numP, Nat.pow_succ]
   omega
def yP (n : Nat) : List UInt8 := [UInt8.ofNat (n / 16777216), UInt8.ofNat (n / 65536), UInt8.ofNat (n / 256), UInt8.ofNat n]
structure SoaR where
 main : List UInt8
 mail : List UInt8
 serial : Int
 refresh : Int
 retry : Int
 expire : Int
 minimum : Int
 deriving DecidableEq, Inhabited
def SoaR.cells (s : SoaR) : List Value := [aI s.main, aI s.mail, .int .i64 s.serial, .int .i64 s.refresh, .int .i64 s.retry, .int .i64 s.expire, .int .i64 s.minimum]
def fV (n : Int) : Bool := decide (0 ≤ n) && decide (n ≤ 2147483647)
def SoaR.ok (s : SoaR) : Bool := (bF s.main).isSome && (bF s.mail).isSome && decide (0 ≤ s.serial) && decide (s.serial ≤ 4294967295) && fV s.refresh && fV s.retry && fV s.expire && fV s.minimum
def SoaR.data (s : SoaR) : List UInt8 := s.main ++ [0] ++ (s.mail ++ [0]) ++ yP s.serial.toNat ++ yP s.refresh.toNat ++ yP s.retry.toNat ++ yP s.expire.toNat ++ yP s.minimum.toNat
def cO (d : List UInt8) : SoaR :=
 let f := bU d
 let g := bU f.2.1
 { main := f.1, mail := g.1, serial := numP g.2.1 0 4, refresh := numP g.2.1 1 4, retry := numP g.2.1 2 4, expire := numP g.2.1 3 4, minimum := numP g.2.1 4 4 }
def cD (d : List UInt8) : Option SoaR :=
 let f := bU d
 let g := bU f.2.1
 if f.2.2 = true ∧ g.2.2 = true ∧ g.2.1.length = 20 ∧ (cO d).ok = true then some (cO d) else none
def fits (k : Int) (d : List UInt8) : Bool :=
 if k = 1 then decide (d.length = 4) else if k = 28 then decide (d.length = 16) else if k = 16 then qM d else if k = 6 then (cD d).isSome else decide ((fZ k d).2 ≠ 2)
structure Rec where
 name : List UInt8
 kind : Int
 ttl : Int
 data : List UInt8
 deriving DecidableEq, Inhabited
def aW (r : Rec) : Int :=
 if r.kind = 41 ∨ r.kind = 251 ∨ r.kind = 252 ∨ r.kind = 255 then 1
 else if r.kind < 1 ∨ 65535 < r.kind ∨ r.ttl < 0 ∨ 2147483647 < r.ttl ∨ 4000 < r.data.length ∨ fits r.kind r.data = false then 1
 else if (bF r.name).isSome = true then 0 else 1
end Go.Proofs.X
set_option linter.unusedVariables false
set_option linter.unusedSimpArgs false
namespace Go.Proofs.X
open Go
structure TPO {α : Type} (c : α → α → Int) : Prop where
 anti : ∀ x y, c y x = - c x y
 tr : ∀ x y z, c x y ≤ 0 → c y z ≤ 0 → c x z ≤ 0
variable {α : Type} {c d : α → α → Int}
theorem TPO.refl (h : TPO c) (x : α) : c x x = 0 := by have := h.anti x x; omega
theorem TPO.swo (h : TPO c) : Sort.SWO (Go.Proofs.ltOf c) where
 irrefl x := by simp [Go.Proofs.ltOf, h.refl x]
 trans x y z h1 h2 := by
  simp only [Go.Proofs.ltOf, decide_eq_true_eq] at *
  have h3 := h.tr x y z (by omega) (by omega)
  rcases Int.lt_or_eq_of_le h3 with h4 | h4
  ·exact h4
  ·have a1 := h.anti x z
   have a2 := h.anti y z
   have a3 := h.anti x y
   have := h.tr z x y (by omega) (by omega)
   omega
 ntrans x y z h1 h2 := by
  simp only [Go.Proofs.ltOf, decide_eq_false_iff_not] at *
  have a1 := h.anti x y
  have a2 := h.anti y z
  have a3 := h.anti x z
  have := h.tr z y x (by omega) (by omega)
  omega
theorem TPO.eqL (h : TPO c) {x y z : α} (e : c x y = 0) : c x z ≤ 0 ↔ c y z ≤ 0 := by
 have a := h.anti x y
 exact ⟨fun h1 => h.tr y x z (by omega) h1, fun h1 => h.tr x y z (by omega) h1⟩
def QD (c d : α → α → Int) (x y : α) : Int := if c x y ≠ 0 then c x y else d x y
theorem TPO.lex (h : TPO c) (k : TPO d) : TPO (QD c d) where
 anti x y := by
  have a := h.anti x y
  have b := k.anti x y
  unfold QD
  split <;> split <;> omega
 tr x y z := by
  have a1 := h.anti x y
  have a2 := h.anti y z
  have a3 := h.anti x z
  have t1 := h.tr x y z
  have t2 := h.tr z x y
  have t3 := h.tr y z x
  have t4 := k.tr x y z
  unfold QD
  intro h1 h2
  split at h1 <;> split at h2 <;> split <;> omega
theorem TPO.comap {β : Type} (h : TPO c) (f : β → α) : TPO (fun x y => c (f x) (f y)) := ⟨fun x y => h.anti _ _, fun x y z => h.tr _ _ _⟩
theorem NQ : TPO (fun a b : Int => if a < b then (-1 : Int) else if b < a then 1 else 0) where
 anti x y := by split <;> split <;> (try split) <;> omega
 tr x y z := by
  intro h1 h2
  split at h1 <;> split at h2 <;> split <;> (try omega)
  all_goals (split <;> (try omega))
  all_goals (first | (split at h1 <;> omega) | (split at h2 <;> omega) | (split at h1 <;> split at h2 <;> omega))
theorem zN {a b : List UInt8} : Op.bytesLess a b = true ↔ a < b := by rw [Go.Proofs.bytesLess_eq]; simp
theorem lH (a b : List UInt8) : jH a b = if a < b then -1 else if a = b then 0 else 1 := by
 unfold jH
 by_cases h : a < b
 ·simp [zN.2 h, h]
 ·have : Op.bytesLess a b = false := by
   cases h2 : Op.bytesLess a b with
   | false => rfl
   | true => exact absurd (zN.1 h2) h
  simp [this, h]
theorem gI : TPO jH where
 anti x y := by
  rw [lH, lH]
  rcases Std.lt_trichotomy x y with h | h | h
  ·have h2 : ¬ y < x := fun h9 => Std.lt_irrefl (Std.lt_trans h h9)
   have h3 : x ≠ y := fun e => Std.lt_irrefl (e ▸ h)
   simp [h, h2, h3, Ne.symm h3]
  ·subst h
   simp [Std.lt_irrefl]
  ·have h2 : ¬ x < y := fun h9 => Std.lt_irrefl (Std.lt_trans h h9)
   have h3 : x ≠ y := fun e => Std.lt_irrefl (e ▸ h)
   simp [h, h2, h3, Ne.symm h3]
 tr x y z := by
  rw [lH, lH, lH]
  intro h1 h2
  by_cases hxy : x < y
  ·by_cases hyz : y < z
   ·simp [Std.lt_trans hxy hyz]
   ·by_cases e : y = z
    ·subst e; simp [hxy]
    ·simp [hyz, e] at h2
  ·by_cases e : x = y
   ·subst e; exact h2
   ·simp [hxy, e] at h1
theorem DG : TPO gG where
 anti := by
  intro x
  induction x with
  | nil => intro y; cases y <;> rfl
  | cons a x ih =>
   intro y
   cases y with
   | nil => rfl
   | cons b y =>
    have h1 := gI.anti a b
    have h2 := ih y
    simp only [gG]
    split <;> split <;> omega
 tr := by
  intro x
  induction x with
  | nil => intro y z _ _; cases z <;> simp [gG]
  | cons a x ih =>
   intro y z h1 h2
   cases y with
   | nil => simp [gG] at h1
   | cons b y =>
    cases z with
    | nil => simp [gG] at h2
    | cons e z =>
     have a1 := gI.anti a b
     have a2 := gI.anti b e
     have a3 := gI.anti a e
     have t1 := gI.tr a b e
     have t2 := gI.tr e a b
     have t3 := gI.tr b e a
     have t4 := ih y z
     simp only [gG] at *
     split at h1 <;> split at h2 <;> split <;> omega
theorem DH : TPO gP where
 anti x y := by
  have h1 := gI.anti x y
  unfold gP
  cases hx : dJ x <;> cases hy : dJ y <;> simp only [] <;> first | exact h1 | rfl | exact DG.anti _ _
 tr x y z := by
  have h1 := gI.tr x y z
  unfold gP
  cases hx : dJ x <;> cases hy : dJ y <;> cases hz : dJ z <;> simp only [] <;> first | exact h1 | exact DG.tr _ _ _ | (intros; omega)
end Go.Proofs.X
set_option linter.unusedVariables false
set_option linter.unusedSimpArgs false
namespace Go.Proofs.X
open Go.RowKit
def bytesOf (P : Program) (e : TypeId) : Nat := match P.info? e with | some i => i.bytes | none => 0
section
variable {P : Program} {ops : Array Oper} {Q : Exit → Act → World → Prop} {rest : List Oper} {ts : List Value} {df : List Deferred}
inductive ElemIs (a : Act) (x : Operand) (k : Nat) (ce : List Value) : Prop
 | mk {c : Value} (h1 : a.eval x = c) (h2 : c.cells.toList = ce) (h3 : ce.length = k) (h4 : ∀ u ∈ ce, u.oneCell' = true) : ElemIs a x k ce
theorem FS (ce : List Value) {B k e t d1 d2 m ty1 ty2 : Nat} {ps1 ps2 : String} {af1 af2 : Array Edge} {x : Operand} {es : List (List Value)} {w0 w : World}
 (hx : Ext w0 w) (ho : Own B k e w (ts.getD m undef) es) (hl : es.length + 1 ≤ 1000000)
 (hk : ∀ s v' w1 w', Ext w w1 → Mv (ts.getD m undef).ownBlock w1 w' → Ext w0 w' → Own B k e w' v' (es ++ [ce]) → wpList P ops Q rest (Act.mk ((ts.set d1 s).set d2 v').toArray df) w')
 (hc : ElemIs (Act.mk ts.toArray df) x k ce := by (apply ElemIs.mk; (rfl); (rfl); (rfl); (simp [aI, Value.oneCell'])))
 (ht : jN P t e k (bytesOf P e) = true := by decide +kernel) (hby : bytesOf P e ≤ 1000000 := by decide +kernel) (hk16 : k ≤ 1000 := by decide) (hne : d1 ≠ m := by decide) (hdl : d1 < ts.length := by first | (simp; done) | (simp; omega))
 (hB : w0.heap.size ≤ B := by first | exact Nat.le_refl _ | omega) (hBw : B ≤ w.heap.size := by first | exact Ext.size (by assumption) | omega) :
 wpList P ops Q (Oper.mk (some d1) (.buildSlice t 1 #[(0, x)]) ty1 ps1 af1 none :: Oper.mk (some d2) (.call ⟨.builtin .append, #[.tmp m, .tmp d1], #[t, t]⟩) ty2 ps2 af2 none :: rest) (Act.mk ts.toArray df) w := by
 obtain ⟨hc, hce, hcs, h1⟩ := hc
 rename_i c
 have hcs' : c.cells.size = k := by rw [← Array.length_toList, hce]; exact hcs
 refine bZ (k := k) (e := e) (bytes := bytesOf P e) (xs := [c]) (parts := [(0, x)]) rfl (by simp [hc]) rfl (by simpa using hcs') ht (by simp; omega) ?_
 intro s w1 x1 _ sl _
 have e1 : (ts.set d1 s).getD m undef = ts.getD m undef := by
  simp only [List.getD_eq_getElem?_getD]; rw [List.getElem?_set_ne hne]
 have ho1 := ho.ext x1
 rw [← e1] at ho1
 refine fT (x := s) (B := B) (k := k) (e := e) (bytes := bytesOf P e) rfl ho1 (by rw [eW]; simp [hdl]) sl ht (by simpa [hce] using h1) (Nat.le_trans hBw x1.size) ?_ ?_ ?_
 ·simp only [List.length_map, List.length_cons, List.length_nil]
  calc (es.length + (0 + 1)) * bytesOf P e ≤ 1000000 * 1000000 := Nat.mul_le_mul (by omega) hby
   _ ≤ _ := by decide
 ·simp only [List.length_map, List.length_cons, List.length_nil]; omega
 ·intro v' w' o' m' _
  rw [e1] at m'
  exact hk s v' w1 w' x1 m' ((ho.ext x1).mvx m' (hx.trans x1) hB) (by simpa [hce] using o')
end
section
variable {P : Program} {w : World} {a : Act} {d : Option Nat} {ty : TypeId} {ps : String} {af : Array Edge} {g : Option (Nat × Bool)}
theorem Runs.remN {t u : TypeId} {x y : Operand} {m n : Nat} (hx : a.eval x = .int .i64 (m : Nat)) (hy : a.eval y = .int .i64 (n : Nat)) (hn : 0 < n) (hm : m < 9223372036854775808) :
 Runs P (Oper.mk d (.binOp .rem t x y u) ty ps af g) a w (.int .i64 ((m % n : Nat) : Int)) := by
 have hle : m % n ≤ m := Nat.mod_le _ _
 have e : Int.tmod (m : Int) (n : Int) = ((m % n : Nat) : Int) := by rw [Int.tmod_eq_emod_of_nonneg (by omega)]; simp
 have h0 : n ≠ 0 := by omega
 have hb : -9223372036854775808 ≤ (m : Int) % (n : Int) ∧ (m : Int) % (n : Int) ≤ 9223372036854775807 := by
  rw [show (m : Int) % (n : Int) = ((m % n : Nat) : Int) by simp]; omega
 constructor
 simp [execOp, hx, hy, eqGuard, binOp, Op.intDiv, h0, e, IntWalk.i64_in _ hb]
theorem Runs.quoN {t u : TypeId} {x y : Operand} {m n : Nat} (hx : a.eval x = .int .i64 (m : Nat)) (hy : a.eval y = .int .i64 (n : Nat)) (hn : 0 < n) (hm : m < 9223372036854775808) :
 Runs P (Oper.mk d (.binOp .quo t x y u) ty ps af g) a w (.int .i64 ((m / n : Nat) : Int)) := by
 have hle : m / n ≤ m := Nat.div_le_self _ _
 have e : Int.tdiv (m : Int) (n : Int) = ((m / n : Nat) : Int) := by rw [Int.tdiv_eq_ediv_of_nonneg (by omega)]; simp
 have h0 : n ≠ 0 := by omega
 have hb : -9223372036854775808 ≤ (m : Int) / (n : Int) ∧ (m : Int) / (n : Int) ≤ 9223372036854775807 := by
  rw [show (m : Int) / (n : Int) = ((m / n : Nat) : Int) by simp]
  generalize m / n = q at hle
  omega
 constructor
 simp [execOp, hx, hy, eqGuard, binOp, Op.intDiv, h0, e, IntWalk.i64_in _ hb]
end
section
variable {P : Program} {ops : Array Oper} {Q : Exit → Act → World → Prop} {w : World} {rest : List Oper} {ts : List Value} {df : List Deferred} {ty : TypeId} {ps : String} {af : Array Edge}
theorem yR (z : Value) (n : Nat) : (madeCells #[z] n).toList = List.replicate n z := by
 apply List.ext_getElem?
 intro i
 simp [madeCells, List.getElem?_replicate]
 split <;> simp_all [Nat.mod_one]
theorem IX {t e d n : Nat} {z : Value} {x y : Operand} (h : ∀ v w', Ext w w' → Own w.heap.size 1 e w' v (List.replicate n [z]) → wpList P ops Q rest (Act.mk (ts.set d v).toArray df) w')
 (hx : (Act.mk ts.toArray df).eval x = .int .i64 (n : Nat)) (hy : (Act.mk ts.toArray df).eval y = .int .i64 (n : Nat)) (hn : n ≤ 1000000)
 (ht : jN P t e 1 (bytesOf P e) = true := by decide +kernel) (hz : sJ P e [z] = true := by decide +kernel) (hby : bytesOf P e ≤ 1000000 := by decide +kernel) :
 wpList P ops Q (Oper.mk (some d) (.makeSlice t x y) ty ps af none :: rest) (Act.mk ts.toArray df) w := by
 obtain ⟨hu, i, z', hi, hzi, hzc, hs, hb, hk⟩ := fS ht
 obtain ⟨i2, v2, hi2, hz2, hc2⟩ := kN hz
 rw [hi] at hi2; cases hi2
 rw [hzi] at hz2; cases hz2
 have hbn : (i.bytes : Int) * (n : Int) ≤ 281474976710656 := by
  rw [hb]
  have : bytesOf P e * n ≤ 1000000 * 1000000 := Nat.mul_le_mul hby hn
  have h2 : ((bytesOf P e * n : Nat) : Int) = (bytesOf P e : Int) * (n : Int) := by simp
  rw [← h2]; omega
 have hr := run_makeSlice (P := P) w t e i z' hu hi hzi .i64 .i64 (n : Int) (n : Int) (by omega) (Int.le_refl _) (by rw [hs]; omega) hbn (by omega)
 rw [Int.toNat_natCast, hs, hc2] at hr
 have hr' : (execOp (Act.mk ts.toArray df).eval (Oper.mk (some d) (.makeSlice t x y) ty ps af none)).run P w = .ok (.value (.slice (some ⟨w.heap.size, 0, none⟩) n n)) (w.alloc (.cells (madeCells [z].toArray (n * 1)) e)) := by
  simp only [execOp, hx, hy, Sem.run_bind, hr, Result.andThen_ok, Sem.run_pure]
 have hm : (madeCells [z].toArray (n * 1)).toList = List.replicate n z := by rw [Nat.mul_one]; exact yR z n
 have hmz : (madeCells [z].toArray (n * 1)).size = n := by rw [← Array.length_toList, hm]; simp
 refine kP rfl hr' (h _ _ (Ext.alloc _ _) ⟨⟨by simp, ?_⟩, by simp⟩)
 refine .inr ⟨w.heap.size, n, _, (0, 0), by simp, Nat.le_refl _, heap_alloc_new w _, .inl (Nat.le_refl _), by simp, by unfold maxLen; omega, by rw [hmz]; omega, ?_⟩
 rw [hm, List.take_of_length_le (by simp)]
 exact (List.flatten_replicate_singleton ..).symm
end
section
variable {P : Program} {ops : Array Oper} {Q : Exit → Act → World → Prop} {w : World} {rest : List Oper} {ts : List Value} {df : List Deferred} {ty : TypeId} {ps : String} {af : Array Edge}
theorem cP {t e k B d : Nat} {x0 y : Operand} {v0 x : Value} {es fs : List (List Value)} (h0 : (Act.mk ts.toArray df).eval x0 = v0)
 (h : Own B k e w v0 es) (hy : (Act.mk ts.toArray df).eval y = x) (hx : Sl k w x fs) (h1 : ∀ f ∈ fs, ∀ u ∈ f, u.oneCell' = true)
 (hB : B ≤ w.heap.size) (hm : es.length + fs.length ≤ 1000000)
 (hk : ∀ v' w', Own B k e w' v' (es ++ fs) → Mv v0.ownBlock w w' → (v'.ownBlock = v0.ownBlock ∨ v'.ownBlock = some w.heap.size) → wpList P ops Q rest (Act.mk (ts.set d v').toArray df) w')
 (ht : jN P t e k (bytesOf P e) = true := by decide +kernel) (hby : bytesOf P e ≤ 1000000 := by decide +kernel) :
 wpList P ops Q (Oper.mk (some d) (.call ⟨.builtin .append, #[x0, y], #[t, t]⟩) ty ps af none :: rest) (Act.mk ts.toArray df) w := by
 have hb : (es.length + fs.length) * bytesOf P e ≤ 140737488355328 :=
  calc (es.length + fs.length) * bytesOf P e ≤ 1000000 * 1000000 := Nat.mul_le_mul hm hby
   _ ≤ _ := by decide
 obtain ⟨v', w', hr, ho, hmv, hkin⟩ := nD (ty := ty) ht h hx h1 hB hb (by omega)
 refine kP rfl ?_ (hk v' w' ho hmv hkin)
 simp [execOp, resolve, invoke, builtin, h0, hy, hr]
end
section
variable {P : Program} {Q : Exit → Act → World → Prop} {S : World → Prop} {l : List Oper} {fuel : Nat} {listed : List Bool} {w : World}
theorem IY {fuel2 : Nat} {i j k : Nat} {o o' o2 : Oper} {a : Act} (hr : Region.ready .any l.toArray listed.toArray = [i, j, k]) (hi : l[i]? = some o) (hj : l[j]? = some o') (hk : l[k]? = some o2) (hfu : fuel2 = fuel + 1)
 (h1 : wpList P l.toArray (NP Q fun a' w' => S w' ∧ wpAnyH P .any l.toArray Q S fuel (listed.set i true).toArray a' w') [o] a w)
 (h2 : wpList P l.toArray (NP Q fun a' w' => S w' ∧ wpAnyH P .any l.toArray Q S fuel (listed.set j true).toArray a' w') [o'] a w)
 (h3 : wpList P l.toArray (NP Q fun a' w' => S w' ∧ wpAnyH P .any l.toArray Q S fuel (listed.set k true).toArray a' w') [o2] a w) : wpAnyH P .any l.toArray Q S fuel2 listed.toArray a w := by
 subst hfu
 refine wpAnyH_all hr (by simp) fun n hn => ?_
 have : n = i ∨ n = j ∨ n = k := by simpa using hn
 rcases this with rfl | rfl | rfl
 ·refine qH (o := o) (by simpa using hi) ?_
  simpa using h1
 ·refine qH (o := o') (by simpa using hj) ?_
  simpa using h2
 ·refine qH (o := o2) (by simpa using hk) ?_
  simpa using h3
end
end Go.Proofs.X
set_option linter.unusedVariables false
set_option linter.unusedSimpArgs false
namespace Go.Proofs.X
open Go.RowKit
theorem rE {k : Nat} : ∀ (es : List (List Value)) (i : Nat), (∀ x ∈ es, x.length = k) → (es.take i).flatten = es.flatten.take (i * k)
 | [], i, _ => by simp
 | x :: es, 0, _ => by simp
 | x :: es, i + 1, h => by
   have hx := h x (by simp)
   have ih := rE es i (fun y hy => h y (by simp [hy]))
   rw [List.take_succ_cons, List.flatten_cons, List.flatten_cons, ih, show (i + 1) * k = x.length + i * k by rw [hx, Nat.add_mul]; omega, List.take_length_add_append]
theorem lY {k : Nat} : ∀ (es : List (List Value)) (i : Nat), (∀ x ∈ es, x.length = k) → (es.drop i).flatten = es.flatten.drop (i * k)
 | [], i, _ => by simp
 | x :: es, 0, _ => by simp
 | x :: es, i + 1, h => by
   have hx := h x (by simp)
   have ih := lY es i (fun y hy => h y (by simp [hy]))
   rw [List.drop_succ_cons, List.flatten_cons, ih, show (i + 1) * k = x.length + i * k by rw [hx, Nat.add_mul]; omega, List.drop_length_add_append]
theorem IZ {α : Type} (c F : List α) (a n : Nat) (h : a + F.length ≤ n) (hn : n ≤ c.length) : (c.take a ++ F ++ c.drop (a + F.length)).take n = (c.take n).take a ++ F ++ (c.take n).drop (a + F.length) := by
 have hA : (c.take a ++ F).length = a + F.length := by simp; omega
 rw [List.take_append, hA, List.take_of_length_le (by omega), List.take_take, Nat.min_eq_left (by omega), List.drop_take]
theorem DI {α : Type} {z : List α} (hz : 0 < z.length) : ∀ (n i : Nat), i < n * z.length → (List.replicate n z).flatten[i]? = some (z[i % z.length]'(Nat.mod_lt _ hz))
 | 0, i, h => by simp at h
 | n + 1, i, h => by
   rw [List.replicate_succ, List.flatten_cons, List.getElem?_append]
   split
   ·rename_i hi
    rw [List.getElem?_eq_getElem hi]
    simp only [Nat.mod_eq_of_lt hi]
   ·rename_i hi
    have hge : z.length ≤ i := by omega
    rw [DI hz n (i - z.length) (by rw [Nat.add_mul] at h; omega)]
    have : (i - z.length) % z.length = i % z.length := by rw [← Nat.mod_eq_sub_mod hge]
    simp only [this]
theorem Own.over {B k e g cap i : Nat} {w : World} {es fs : List (List Value)} (h : Own B k e w (.slice (some ⟨g, 0, none⟩) es.length cap) es) (hi : i + fs.length ≤ es.length) (hf : ∀ f ∈ fs, f.length = k) :
 ∃ cur fz, w.heap[g]? = some (.cells cur e fz) ∧ (fz.2 ≤ fz.1 ∨ cur.size ≤ fz.1) ∧ es.length ≤ cap ∧ i * k + fs.flatten.length ≤ es.length * k ∧ es.length * k ≤ cur.size ∧
   Own B k e (w.setRow g (cur.toList.take (i * k) ++ fs.flatten ++ cur.toList.drop (i * k + fs.flatten.length)).toArray) (.slice (some ⟨g, 0, none⟩) es.length cap) (es.take i ++ fs ++ es.drop (i + fs.length)) ∧
   Mv (some g) w (w.setRow g (cur.toList.take (i * k) ++ fs.flatten ++ cur.toList.drop (i * k + fs.flatten.length)).toArray) := by
 rcases h.row.2 with ⟨h0, _⟩ | ⟨g', cap', cur, fz, hv, hb, hg, hfz, hnc, hcm, hcs, htake⟩
 ·cases h0
 ·simp only [Value.slice.injEq, Option.some.injEq, Addr.mk.injEq, and_true, true_and] at hv
  obtain ⟨rfl, rfl⟩ := hv
  have hall := h.each
  have hfl := aY hf
  have hil : i * k + fs.length * k ≤ es.length * k := by rw [← Nat.add_mul]; exact Nat.mul_le_mul_right k hi
  have hck : es.length * k ≤ cap * k := Nat.mul_le_mul_right k hnc
  have hlen : (es.take i ++ fs ++ es.drop (i + fs.length)).length = es.length := by simp; omega
  have hall2 : ∀ x ∈ es.take i ++ fs ++ es.drop (i + fs.length), x.length = k := by
   intro x hx
   rcases List.mem_append.1 hx with hx | hx
   ·rcases List.mem_append.1 hx with hx | hx
    ·exact hall x (List.mem_of_mem_take hx)
    ·exact hf x hx
   ·exact hall x (List.mem_of_mem_drop hx)
  have hsz : (cur.toList.take (i * k) ++ fs.flatten ++ cur.toList.drop (i * k + fs.flatten.length)).length = cur.size := by
   rw [List.length_append, List.length_append, List.length_take, List.length_drop, Array.length_toList, hfl, hcs]; omega
  refine ⟨cur, fz, hg, hfz, hnc, by rw [hfl]; exact hil, by rw [hcs]; exact hck, ⟨⟨?_, .inr ⟨g, cap, (cur.toList.take (i * k) ++ fs.flatten ++ cur.toList.drop (i * k + fs.flatten.length)).toArray, fz, ?_, hb, setRow_heap w g cur _ e _ hg, ?_, ?_, hcm, ?_, ?_⟩⟩, hall2⟩, ⟨rfl, rfl, rfl, by simp, fun k _ hk => setRow_other w g k _ (fun e => hk (by simp [e])), Nat.le_refl _⟩⟩
  ·rw [aY hall2]
  ·rw [hlen]
  ·rw [List.size_toArray, hsz]; exact hfz
  ·rw [hlen]; exact hnc
  ·rw [List.size_toArray, hsz]; exact hcs
  ·rw [hlen, List.flatten_append, List.flatten_append, rE es i hall, lY es _ hall, ← htake, List.toList_toArray]
   have e1 : (i + fs.length) * k = i * k + fs.flatten.length := by rw [hfl, Nat.add_mul]
   rw [e1]
   have hcl : cur.toList.length = cap * k := by rw [← hcs]; exact Array.length_toList
   exact IZ _ _ _ _ (by rw [hfl]; exact hil) (by rw [hcl]; exact hck)
theorem tJ {z : List Value} (hz : 0 < z.length) : ∀ n, (madeCells z.toArray (n * z.length)).toList = (List.replicate n z).flatten := by
 intro n
 apply List.ext_getElem?
 intro i
 have hl : (List.replicate n z).flatten.length = n * z.length := by simp
 by_cases hi : i < n * z.length
 ·have h1 : (madeCells z.toArray (n * z.length)).toList[i]? = some (z[i % z.length]'(Nat.mod_lt _ hz)) := by
   simp [madeCells, List.getElem?_range hi, Nat.mod_lt _ hz]
  rw [h1]
  symm
  exact DI hz n i hi
 ·rw [List.getElem?_eq_none (by simp [madeCells]; omega), List.getElem?_eq_none (by rw [hl]; omega)]
section
variable {P : Program} {ops : Array Oper} {Q : Exit → Act → World → Prop} {w : World} {rest : List Oper} {ts : List Value} {df : List Deferred} {ty : TypeId} {ps : String} {af : Array Edge}
end
end Go.Proofs.X
