/- Laws and walks that the proof of the statement is made of (part 2). -/
import Derived.Test.YtgljkfpcadempaaGreatP1
set_option linter.unusedVariables false
set_option linter.unusedSimpArgs false
namespace Go.Proofs.X
open Go.RowKit
set_option maxRecDepth 100000
theorem aA {G G':Prop} (h:G') (e:G=G':=by ((simp only [List.set_cons_succ,List.set_cons_zero,List.getD_cons_succ,List.getD_cons_zero,List.length_map,if_true,Bool.false_eq_true,if_false,Int.toNat_natCast,Int.toNat_zero,Int.toNat_one,Nat.zero_mul,Bool.not_true,Bool.not_false,decide_true,decide_false]);(with_reducible exact rfl))):G:=e.mpr h
theorem eU {w w':World} (h:Ext w w':=by (repeat (first | (with_reducible assumption) | exact Ext.refl _ | (refine Ext.trans ?_ (by with_reducible assumption))))):Ext w w':=h
theorem rn {P:Program} {o:Oper} {a:Act} {w:World} {v:Value} (h:Runs P o a w v:=by (first | exact Runs.moveT _ | exact Runs.assignT _ | exact Runs.moveC _ | exact Runs.assignC _ | ((apply Runs.pickTC);(rfl)) | ((apply Runs.pickCT);(rfl)) | ((apply Runs.pickT);(rfl)) | ((apply Runs.len);((first | assumption | (apply Sl.ext;(assumption);(repeat (first | (with_reducible assumption) | exact Ext.refl _ | (refine Ext.trans ?_ (by with_reducible assumption)))))));(decide +kernel)) | ((apply Runs.lenS);(rfl);(decide +kernel)) | ((apply Runs.idxT);(rfl);((first | assumption | (apply Sl.ext;(assumption);(repeat (first | (with_reducible assumption) | exact Ext.refl _ | (refine Ext.trans ?_ (by with_reducible assumption)))))));((first | assumption | omega | (simp only [List.length_map,List.length_cons,Int.toNat_natCast,Int.toNat_zero,Int.toNat_one];omega)));(decide +kernel)) | ((apply Runs.fieldLit);(rfl);(decide +kernel)) | ((apply Runs.fieldTn);((first | assumption | (apply Pts.ext;(assumption);(repeat (first | (with_reducible assumption) | exact Ext.refl _ | (refine Ext.trans ?_ (by with_reducible assumption)))))));(decide +kernel)) | ((apply Runs.loadP);((first | rfl | (simp only [List.getD_cons_succ,List.getD_cons_zero];with_reducible rfl)));((first | assumption | (apply Pts.ext;(assumption);(repeat (first | (with_reducible assumption) | exact Ext.refl _ | (refine Ext.trans ?_ (by with_reducible assumption)))))));(rfl);(decide +kernel)) | ((apply Runs.load);((first | assumption | (apply Pts.ext;(assumption);(repeat (first | (with_reducible assumption) | exact Ext.refl _ | (refine Ext.trans ?_ (by with_reducible assumption)))))));(decide +kernel)) | ((apply Runs.loadN);((first | assumption | (apply Pts.ext;(assumption);(repeat (first | (with_reducible assumption) | exact Ext.refl _ | (refine Ext.trans ?_ (by with_reducible assumption)))))));((first | (simp only [List.length_cons,List.length_nil,Nat.zero_add,Nat.reduceAdd];done) | (simp only [List.length_cons,List.length_nil,Nat.zero_add,Nat.reduceAdd];rfl)));(decide +kernel)) | ((apply Runs.extract);(rfl);(rfl)) | ((apply Runs.not);(rfl)) | ((apply Runs.lss);(rfl);(rfl)) | ((apply Runs.leq);(rfl);(rfl)) | ((apply Runs.gtr);(rfl);(rfl)) | ((apply Runs.geq);(rfl);(rfl)) | ((apply Runs.eql);(rfl);(rfl)) | ((apply Runs.neq);(rfl);(rfl)) | ((apply Runs.inc);(rfl);(rfl);((first | assumption | omega | (simp only [List.length_map,List.length_cons,Int.toNat_natCast,Int.toNat_zero,Int.toNat_one];omega)))) | ((apply Runs.add);(rfl);(rfl);((first | assumption | omega | (simp only [List.length_map,List.length_cons,Int.toNat_natCast,Int.toNat_zero,Int.toNat_one];omega)))) | ((apply Runs.sub);(rfl);(rfl);((first | assumption | omega | (simp only [List.length_map,List.length_cons,Int.toNat_natCast,Int.toNat_zero,Int.toNat_one];omega)))) | ((apply Runs.addU);(rfl);(rfl)) | ((apply Runs.subU);(rfl);(rfl)) | ((apply Runs.eqlS);(rfl);(rfl)) | ((apply Runs.neqS);(rfl);(rfl)) | ((apply Runs.lssS);(rfl);(rfl)) | ((apply Runs.geqS);(rfl);(rfl)) | ((apply Runs.gtrS);(rfl);(rfl)) | ((apply Runs.idxS);(rfl);(rfl);((first | assumption | omega | (simp only [List.length_map,List.length_cons,Int.toNat_natCast,Int.toNat_zero,Int.toNat_one];omega)));(decide +kernel)) | ((apply Runs.idxTI);(rfl);((first | assumption | (apply Sl.ext;(assumption);(repeat (first | (with_reducible assumption) | exact Ext.refl _ | (refine Ext.trans ?_ (by with_reducible assumption)))))));((first | assumption | omega | (simp only [List.length_map,List.length_cons,Int.toNat_natCast,Int.toNat_zero,Int.toNat_one];omega)));((first | assumption | omega | (simp only [List.length_map,List.length_cons,Int.toNat_natCast,Int.toNat_zero,Int.toNat_one];omega)));(decide +kernel)) | ((apply Runs.idxSI);(rfl);(rfl);((first | assumption | omega | (simp only [List.length_map,List.length_cons,Int.toNat_natCast,Int.toNat_zero,Int.toNat_one];omega)));((first | assumption | omega | (simp only [List.length_map,List.length_cons,Int.toNat_natCast,Int.toNat_zero,Int.toNat_one];omega)));(decide +kernel)) | ((apply Runs.convB);(rfl);(decide +kernel);(decide +kernel)) | ((apply Runs.cutSI);(rfl);(rfl);(rfl);((first | assumption | omega | (simp only [List.length_map,List.length_cons,Int.toNat_natCast,Int.toNat_zero,Int.toNat_one];omega)));((first | assumption | omega | (simp only [List.length_map,List.length_cons,Int.toNat_natCast,Int.toNat_zero,Int.toNat_one];omega)));((first | assumption | omega | (simp only [List.length_map,List.length_cons,Int.toNat_natCast,Int.toNat_zero,Int.toNat_one];omega)));(decide +kernel)) | ((apply Runs.dropSI);(rfl);(rfl);((first | assumption | omega | (simp only [List.length_map,List.length_cons,Int.toNat_natCast,Int.toNat_zero,Int.toNat_one];omega)));((first | assumption | omega | (simp only [List.length_map,List.length_cons,Int.toNat_natCast,Int.toNat_zero,Int.toNat_one];omega)));(decide +kernel)) | ((apply Runs.takeSI);(rfl);(rfl);((first | assumption | omega | (simp only [List.length_map,List.length_cons,Int.toNat_natCast,Int.toNat_zero,Int.toNat_one];omega)));((first | assumption | omega | (simp only [List.length_map,List.length_cons,Int.toNat_natCast,Int.toNat_zero,Int.toNat_one];omega)));(decide +kernel)) | ((apply Runs.cutTI);(rfl);(rfl);((first | assumption | (apply Sl.ext;(assumption);(repeat (first | (with_reducible assumption) | exact Ext.refl _ | (refine Ext.trans ?_ (by with_reducible assumption)))))));((first | assumption | omega | (simp only [List.length_map,List.length_cons,Int.toNat_natCast,Int.toNat_zero,Int.toNat_one];omega)));((first | assumption | omega | (simp only [List.length_map,List.length_cons,Int.toNat_natCast,Int.toNat_zero,Int.toNat_one];omega)));((first | assumption | omega | (simp only [List.length_map,List.length_cons,Int.toNat_natCast,Int.toNat_zero,Int.toNat_one];omega)));(decide +kernel)) | ((apply Runs.dropTI);(rfl);((first | assumption | (apply Sl.ext;(assumption);(repeat (first | (with_reducible assumption) | exact Ext.refl _ | (refine Ext.trans ?_ (by with_reducible assumption)))))));((first | assumption | omega | (simp only [List.length_map,List.length_cons,Int.toNat_natCast,Int.toNat_zero,Int.toNat_one];omega)));((first | assumption | omega | (simp only [List.length_map,List.length_cons,Int.toNat_natCast,Int.toNat_zero,Int.toNat_one];omega)));(decide +kernel)) | ((apply Runs.takeTI);(rfl);((first | assumption | (apply Sl.ext;(assumption);(repeat (first | (with_reducible assumption) | exact Ext.refl _ | (refine Ext.trans ?_ (by with_reducible assumption)))))));((first | assumption | omega | (simp only [List.length_map,List.length_cons,Int.toNat_natCast,Int.toNat_zero,Int.toNat_one];omega)));((first | assumption | omega | (simp only [List.length_map,List.length_cons,Int.toNat_natCast,Int.toNat_zero,Int.toNat_one];omega)));(decide +kernel)) | ((apply Runs.shr);(rfl);(rfl);(decide +kernel);(decide +kernel)) | ((apply Runs.shl8);(rfl);(rfl);((first | assumption | omega | (simp only [List.length_map,List.length_cons,Int.toNat_natCast,Int.toNat_zero,Int.toNat_one];omega)))) | ((apply Runs.or8);(rfl);(rfl);((first | assumption | omega | (simp only [List.length_map,List.length_cons,Int.toNat_natCast,Int.toNat_zero,Int.toNat_one];omega)));((first | assumption | omega | (simp only [List.length_map,List.length_cons,Int.toNat_natCast,Int.toNat_zero,Int.toNat_one];omega)))) | ((apply Runs.mul);(rfl);(rfl);((first | assumption | omega | (simp only [List.length_map,List.length_cons,Int.toNat_natCast,Int.toNat_zero,Int.toNat_one];omega)))) | exact Runs.func1 | exact Runs.func0 | exact Runs.func2 | exact Runs.func3 | ((apply Runs.nilS);((first | assumption | (apply Sl.ext;(assumption);(repeat (first | (with_reducible assumption) | exact Ext.refl _ | (refine Ext.trans ?_ (by with_reducible assumption)))))));(decide +kernel)) | ((apply Runs.nilP);(rfl)) | ((apply Runs.nilPts);((first | assumption | (apply Pts.ext;(assumption);(repeat (first | (with_reducible assumption) | exact Ext.refl _ | (refine Ext.trans ?_ (by with_reducible assumption)))))))) | ((apply Runs.minI);(rfl);(rfl)) | ((apply Runs.strOf (e:=5));((first | assumption | (apply Sl.ext;(assumption);(repeat (first | (with_reducible assumption) | exact Ext.refl _ | (refine Ext.trans ?_ (by with_reducible assumption)))))));(decide +kernel);(decide +kernel)) | ((apply Runs.addS);(rfl);(rfl);((first | omega | (simp only [List.length_append,List.length_cons,List.length_nil];omega)))) | ((apply Runs.convU);(rfl);(decide +kernel);(decide +kernel)) | ((apply Runs.convS);(rfl);(decide +kernel);(decide +kernel)))):Runs P o a w v:=h
structure St (P:Program) (ops:Array Oper) (Q:Exit→Act→World→Prop) (rest:List Oper) (o:Oper) (ts:List Value) (df:List Deferred) (w:World):Prop where
 out:wpList P ops Q (o :: rest) (Act.mk ts.toArray df) w
section
variable {P:Program} {ops:Array Oper} {Q:Exit→Act→World→Prop} {rest:List Oper} {o:Oper} {ts ts' t1 t0:List Value} {df:List Deferred} {w:World} {d e j:Nat} {op:Op} {ty:TypeId} {ps:String} {af:Array Edge} {b want:Bool} {v:Value} {p1 p0:Prop}
theorem cJ (h:St P ops Q rest o ts df w):wpList P ops Q (o :: rest) (Act.mk ts.toArray df) w:=h.out
inductive SR (P:Program) (o:Oper) (ts:List Value) (df:List Deferred) (w:World) (d:Nat) (ts':List Value):Prop
 | mk {v:Value} (h1:Runs P o (Act.mk ts.toArray df) w v) (h2:ts.set d v=ts'):SR P o ts df w d ts'
structure S1 (P:Program) (ops:Array Oper) (Q:Exit→Act→World→Prop) (rest:List Oper) (d:Nat) (op:Op) (ty:TypeId) (ps:String) (af:Array Edge) (ts:List Value) (df:List Deferred) (w:World):Prop where
 out:St P ops Q rest (Oper.mk (some d) op ty ps af none) ts df w
structure G1 (P:Program) (ops:Array Oper) (Q:Exit→Act→World→Prop) (rest:List Oper) (dd:Option Nat) (op:Op) (ty:TypeId) (ps:String) (af:Array Edge) (j:Nat) (want:Bool) (ts:List Value) (df:List Deferred) (w:World):Prop where
 out:St P ops Q rest (Oper.mk dd op ty ps af (some (j,want))) ts df w
theorem jO (h:S1 P ops Q rest d op ty ps af ts df w):St P ops Q rest (Oper.mk (some d) op ty ps af none) ts df w:=h.out
theorem oN {dd:Option Nat} (h:G1 P ops Q rest dd op ty ps af j want ts df w):St P ops Q rest (Oper.mk dd op ty ps af (some (j,want))) ts df w:=h.out
theorem GO (h:wpList P ops Q rest (Act.mk ts'.toArray df) w) (hr:SR P (Oper.mk (some d) op ty ps af none) ts df w d ts':=by (apply SR.mk;(exact rn);(((simp only [List.set_cons_succ,List.set_cons_zero,List.getD_cons_succ,List.getD_cons_zero,List.length_map,if_true,Bool.false_eq_true,if_false,Int.toNat_natCast,Int.toNat_zero,Int.toNat_one,Nat.zero_mul,Bool.not_true,Bool.not_false,decide_true,decide_false]);(with_reducible exact rfl))))) :
 S1 P ops Q rest d op ty ps af ts df w:=by obtain ⟨hr,e⟩:=hr;exact ⟨⟨aT hr (e ▸ h)⟩⟩
theorem qV {dd:Option Nat} (h:wpList P ops Q (Oper.mk dd op ty ps af none :: rest) (Act.mk ts.toArray df) w) (h1:(ops[j]?).bind (·.dst)=some e:=by rfl) (h2:ts.getD e undef=.bool b:=by rfl) (h3:b=want:=by (with_reducible rfl)) :
 G1 P ops Q rest dd op ty ps af j want ts df w:=⟨⟨rG h1 h2 (fun _=>h) (fun h'=>(by rw [h3] at h';cases want <;> cases h'))⟩⟩
theorem JH (h:wpList P ops Q rest (Act.mk ts'.toArray df) w) (h1:(ops[j]?).bind (·.dst)=some e:=by rfl) (h2:ts.getD e undef=.bool b:=by rfl) (h3:b = !want:=by (first | (with_reducible exact (rfl:true = !false)) | (with_reducible exact (rfl:false = !true)) | (exact Bool.not_false.symm) | (exact Bool.not_true.symm))) (e:ts.set d undef=ts':=by ((simp only [List.set_cons_succ,List.set_cons_zero,List.getD_cons_succ,List.getD_cons_zero,List.length_map,if_true,Bool.false_eq_true,if_false,Int.toNat_natCast,Int.toNat_zero,Int.toNat_one,Nat.zero_mul,Bool.not_true,Bool.not_false,decide_true,decide_false]);(with_reducible exact rfl))) :
 G1 P ops Q rest (some d) op ty ps af j want ts df w:=⟨⟨JG h1 h2 h3 (e ▸ h)⟩⟩
theorem JI (h:wpList P ops Q rest (Act.mk ts'.toArray df) w) (h1:(ops[j]?).bind (·.dst)=some e:=by rfl) (h2:ts.getD e undef=undef:=by rfl) (e:ts.set d undef=ts':=by ((simp only [List.set_cons_succ,List.set_cons_zero,List.getD_cons_succ,List.getD_cons_zero,List.length_map,if_true,Bool.false_eq_true,if_false,Int.toNat_natCast,Int.toNat_zero,Int.toNat_one,Nat.zero_mul,Bool.not_true,Bool.not_false,decide_true,decide_false]);(with_reducible exact rfl))) :
 G1 P ops Q rest (some d) op ty ps af j want ts df w:=⟨⟨RG ⟨h1,h2⟩ (e ▸ h)⟩⟩
theorem JJ (h:wpList P ops Q rest (Act.mk ts.toArray df) w) (h1:(ops[j]?).bind (·.dst)=some e:=by rfl) (h2:ts.getD e undef=.bool b:=by rfl) (h3:b = !want:=by (first | (with_reducible exact (rfl:true = !false)) | (with_reducible exact (rfl:false = !true)) | (exact Bool.not_false.symm) | (exact Bool.not_true.symm))) :
 G1 P ops Q rest none op ty ps af j want ts df w:=⟨⟨LE (GV.mk h1 h2 ⟨fun h'=>(by rw [h3] at h';cases want <;> cases h'),fun _=>h⟩)⟩⟩
theorem IA (k1:p1→wpList P ops Q (Oper.mk (some d) op ty ps af none :: rest) (Act.mk t1.toArray df) w) (k0:p0→wpList P ops Q rest (Act.mk t0.toArray df) w)
 (h1:(ops[j]?).bind (·.dst)=some e:=by rfl) (h2:ts.getD e undef=.bool b:=by rfl) (hp1:(b=want)=p1:=by ((first | (simp only [decide_eq_true_eq,decide_eq_false_iff_not,Bool.not_true,Bool.not_false];(with_reducible exact rfl)) | (with_reducible exact rfl)))) (hp0:(b = !want)=p0:=by ((first | (simp only [decide_eq_true_eq,decide_eq_false_iff_not,Bool.not_true,Bool.not_false];(with_reducible exact rfl)) | (with_reducible exact rfl))))
 (e1:b=want→ts=t1:=by (intro hcW;(try simp only [hcW,Bool.not_true,Bool.not_false]);(try simp only [List.set_cons_succ,List.set_cons_zero,List.getD_cons_succ,List.getD_cons_zero,List.length_map,if_true,Bool.false_eq_true,if_false,Int.toNat_natCast,Int.toNat_zero,Int.toNat_one,Nat.zero_mul,Bool.not_true,Bool.not_false,decide_true,decide_false]);(with_reducible exact rfl))) (e0:b = !want→ts.set d undef=t0:=by (intro hcW;(try simp only [hcW,Bool.not_true,Bool.not_false]);(try simp only [List.set_cons_succ,List.set_cons_zero,List.getD_cons_succ,List.getD_cons_zero,List.length_map,if_true,Bool.false_eq_true,if_false,Int.toNat_natCast,Int.toNat_zero,Int.toNat_one,Nat.zero_mul,Bool.not_true,Bool.not_false,decide_true,decide_false]);(with_reducible exact rfl))):G1 P ops Q rest (some d) op ty ps af j want ts df w :=
 ⟨⟨RH ⟨h1,h2,fun h=>e1 h ▸ k1 (hp1 ▸ h),fun h=>e0 h ▸ k0 (hp0 ▸ h)⟩⟩⟩
theorem IB (k1:p1→wpList P ops Q (Oper.mk none op ty ps af none :: rest) (Act.mk t1.toArray df) w) (k0:p0→wpList P ops Q rest (Act.mk t0.toArray df) w)
 (h1:(ops[j]?).bind (·.dst)=some e:=by rfl) (h2:ts.getD e undef=.bool b:=by rfl) (hp1:(b=want)=p1:=by ((first | (simp only [decide_eq_true_eq,decide_eq_false_iff_not,Bool.not_true,Bool.not_false];(with_reducible exact rfl)) | (with_reducible exact rfl)))) (hp0:(b = !want)=p0:=by ((first | (simp only [decide_eq_true_eq,decide_eq_false_iff_not,Bool.not_true,Bool.not_false];(with_reducible exact rfl)) | (with_reducible exact rfl))))
 (e1:b=want→ts=t1:=by (intro hcW;(try simp only [hcW,Bool.not_true,Bool.not_false]);(try simp only [List.set_cons_succ,List.set_cons_zero,List.getD_cons_succ,List.getD_cons_zero,List.length_map,if_true,Bool.false_eq_true,if_false,Int.toNat_natCast,Int.toNat_zero,Int.toNat_one,Nat.zero_mul,Bool.not_true,Bool.not_false,decide_true,decide_false]);(with_reducible exact rfl))) (e0:b = !want→ts=t0:=by (intro hcW;(try simp only [hcW,Bool.not_true,Bool.not_false]);(try simp only [List.set_cons_succ,List.set_cons_zero,List.getD_cons_succ,List.getD_cons_zero,List.length_map,if_true,Bool.false_eq_true,if_false,Int.toNat_natCast,Int.toNat_zero,Int.toNat_one,Nat.zero_mul,Bool.not_true,Bool.not_false,decide_true,decide_false]);(with_reducible exact rfl))):G1 P ops Q rest none op ty ps af j want ts df w :=
 ⟨⟨LE ⟨h1,h2,fun h=>e1 h ▸ k1 (hp1 ▸ h),fun h=>e0 h ▸ k0 (hp0 ▸ h)⟩⟩⟩
structure Sq (P:Program) (ops:Array Oper) (C:World→Prop) (QQ:Act→Prop) (rest:List Oper) (o:Oper) (ts:List Value) (df:List Deferred):Prop where
 out:wpQuiet P ops C QQ (o :: rest) (Act.mk ts.toArray df)
structure Q1 (P:Program) (ops:Array Oper) (C:World→Prop) (QQ:Act→Prop) (rest:List Oper) (d:Nat) (op:Op) (ty:TypeId) (ps:String) (af:Array Edge) (ts:List Value) (df:List Deferred):Prop where
 out:Sq P ops C QQ rest (Oper.mk (some d) op ty ps af none) ts df
structure QG (P:Program) (ops:Array Oper) (C:World→Prop) (QQ:Act→Prop) (rest:List Oper) (d:Nat) (op:Op) (ty:TypeId) (ps:String) (af:Array Edge) (j:Nat) (want:Bool) (ts:List Value) (df:List Deferred):Prop where
 out:Sq P ops C QQ rest (Oper.mk (some d) op ty ps af (some (j,want))) ts df
inductive SRq (P:Program) (o:Oper) (ts:List Value) (df:List Deferred) (C:World→Prop) (d:Nat) (ts':List Value):Prop
 | mk {v:Value} (h1:∀ w,C w→Runs P o (Act.mk ts.toArray df) w v) (h2:ts.set d v=ts'):SRq P o ts df C d ts'
variable {C:World→Prop} {QQ:Act→Prop}
theorem XA (h:Sq P ops C QQ rest o ts df):wpQuiet P ops C QQ (o :: rest) (Act.mk ts.toArray df):=h.out
theorem XB (h:Q1 P ops C QQ rest d op ty ps af ts df):Sq P ops C QQ rest (Oper.mk (some d) op ty ps af none) ts df:=h.out
theorem XC (h:QG P ops C QQ rest d op ty ps af j want ts df):Sq P ops C QQ rest (Oper.mk (some d) op ty ps af (some (j,want))) ts df:=h.out
theorem XV (h:wpQuiet P ops C QQ rest (Act.mk ts'.toArray df)) (hr:SRq P (Oper.mk (some d) op ty ps af none) ts df C d ts':=by (apply SRq.mk;(intro _ _;exact rn);(((simp only [List.set_cons_succ,List.set_cons_zero,List.getD_cons_succ,List.getD_cons_zero,List.length_map,if_true,Bool.false_eq_true,if_false,Int.toNat_natCast,Int.toNat_zero,Int.toNat_one,Nat.zero_mul,Bool.not_true,Bool.not_false,decide_true,decide_false]);(with_reducible exact rfl))))):Q1 P ops C QQ rest d op ty ps af ts df:=by
 obtain ⟨hr,e⟩:=hr;exact ⟨⟨sI hr (e ▸ h)⟩⟩
theorem XD (h:wpQuiet P ops C QQ (Oper.mk (some d) op ty ps af none :: rest) (Act.mk ts.toArray df)) (h1:(ops[j]?).bind (·.dst)=some e:=by rfl) (h2:ts.getD e undef=.bool b:=by rfl) (h3:b=want:=by (with_reducible rfl)):QG P ops C QQ rest d op ty ps af j want ts df:=by
 refine ⟨⟨?_⟩⟩
 have hw:=wT (op:=op) (ty:=ty) (ps:=ps) (af:=af) (o:=some d) h1 h2 h3
 unfold wpQuiet at h ⊢
 rw [if_pos hw]
 rw [if_pos (by simp [Region.wanted])] at h
 exact h
theorem XE (h:wpQuiet P ops C QQ rest (Act.mk ts'.toArray df)) (h1:(ops[j]?).bind (·.dst)=some e:=by rfl) (h2:ts.getD e undef=.bool b:=by rfl) (h3:b = !want:=by (first | (with_reducible exact (rfl:true = !false)) | (with_reducible exact (rfl:false = !true)) | (exact Bool.not_false.symm) | (exact Bool.not_true.symm))) (e:ts.set d undef=ts':=by ((simp only [List.set_cons_succ,List.set_cons_zero,List.getD_cons_succ,List.getD_cons_zero,List.length_map,if_true,Bool.false_eq_true,if_false,Int.toNat_natCast,Int.toNat_zero,Int.toNat_one,Nat.zero_mul,Bool.not_true,Bool.not_false,decide_true,decide_false]);(with_reducible exact rfl))):QG P ops C QQ rest d op ty ps af j want ts df :=
 ⟨⟨AE h1 h2 h3 (e ▸ h)⟩⟩
theorem XF (h:wpQuiet P ops C QQ rest (Act.mk ts'.toArray df)) (h1:(ops[j]?).bind (·.dst)=some e:=by rfl) (h2:ts.getD e undef=undef:=by rfl) (e:ts.set d undef=ts':=by ((simp only [List.set_cons_succ,List.set_cons_zero,List.getD_cons_succ,List.getD_cons_zero,List.length_map,if_true,Bool.false_eq_true,if_false,Int.toNat_natCast,Int.toNat_zero,Int.toNat_one,Nat.zero_mul,Bool.not_true,Bool.not_false,decide_true,decide_false]);(with_reducible exact rfl))):QG P ops C QQ rest d op ty ps af j want ts df :=
 ⟨⟨DJ (AD ⟨h1,h2⟩) (e ▸ h)⟩⟩
theorem XG {a:Act} (h:QQ a):wpQuiet P ops C QQ [] a:=HY h
end
section
variable {P:Program} {Q:Exit→Act→World→Prop} {S:World→Prop} {l:List Oper} {ts:List Value} {df:List Deferred} {d:Nat} {ty:TypeId} {ps:String} {af:Array Edge} {g:Option (Nat × Bool)} {w:World} {fuel:Nat} {listed:List Bool}
theorem tk (i:Nat) {fuel2:Nat} {op:Op} {v:Value} (h:wpAnyH P .any l.toArray Q S fuel (listed.set i true).toArray (Act.mk (ts.set d v).toArray df) w)
 (hi:l[i]? = some (Oper.mk (some d) op ty ps af g):=by rfl) (hfu:fuel2=fuel + 1:=by rfl) (hs:Region.noSelect l.toArray=true:=by decide +kernel) (hf:Region.free .any l.toArray listed.toArray i=true:=by decide +kernel) (hr:(Region.ready .any l.toArray listed.toArray).contains i=true:=by decide +kernel)
 (hw:Region.wanted (Oper.mk (some d) op ty ps af g) (yielded l.toArray ts.toArray)=true:=by rfl) (hS:S w:=by (repeat (first | (with_reducible assumption) | exact Ext.refl _ | (refine Ext.trans ?_ (by with_reducible assumption)))))
 (hy:∀ w',S w'→Runs P (Oper.mk (some d) op ty ps af g) (Act.mk ts.toArray df) w' v:=by (intro _ _;exact rn)) (hQ:∀ c a w,Q (.panic c) (a.put (some d) v) w→Q (.panic c) a w:=by exact fun _ _ _ h=>h):wpAnyH P .any l.toArray Q S fuel2 listed.toArray (Act.mk ts.toArray df) w :=
 cO hi hfu hs hf hr hw hS hy hQ h
theorem gS (i:Nat) {fuel2:Nat} {op:Op} (h:wpAnyH P .any l.toArray Q S fuel (listed.set i true).toArray (Act.mk (ts.set d undef).toArray df) w)
 (hi:l[i]? = some (Oper.mk (some d) op ty ps af g):=by rfl) (hfu:fuel2=fuel + 1:=by rfl) (hs:Region.noSelect l.toArray=true:=by decide +kernel) (hf:Region.free .any l.toArray listed.toArray i=true:=by decide +kernel) (hr:(Region.ready .any l.toArray listed.toArray).contains i=true:=by decide +kernel)
 (hQ:∀ c a w,Q (.panic c) (a.put (some d) undef) w→Q (.panic c) a w:=by exact fun _ _ _ h=>h) (hw:Region.wanted (Oper.mk (some d) op ty ps af g) (yielded l.toArray ts.toArray)=false:=by rfl) (hS:S w:=by (repeat (first | (with_reducible assumption) | exact Ext.refl _ | (refine Ext.trans ?_ (by with_reducible assumption))))):wpAnyH P .any l.toArray Q S fuel2 listed.toArray (Act.mk ts.toArray df) w :=
 LG hi hfu hs hf hr hQ hw hS h
end
structure Hid (G:Prop):Prop where
 out:G
section
variable {P:Program} {ops:Array Oper} {Q:Exit→Act→World→Prop} {rest:List Oper} {o:Oper} {ts:List Value} {df:List Deferred} {w:World} {C:World→Prop} {QQ:Act→Prop} {l:List Oper} {a:Act}
theorem eS {G':Prop} (h:G') (e:Hid G'→St P ops Q rest o ts df w:=by (intro hk;(first | (refine jO ?_;refine GO ?_) | (refine oN ?_;first | refine qV ?_ | refine JH ?_ | refine JJ ?_ | refine JI ?_));(repeat ((with_reducible refine cJ ?_);(first | (refine jO ?_;refine GO ?_) | (refine oN ?_;first | refine qV ?_ | refine JH ?_ | refine JJ ?_ | refine JI ?_))));exact hk.out)):St P ops Q rest o ts df w:=e ⟨h⟩
structure Qh (P:Program) (ops:Array Oper) (C:World→Prop) (QQ:Act→Prop) (l:List Oper) (a:Act):Prop where
 out:wpQuiet P ops C QQ l a
theorem OE (h:Qh P ops C QQ l a):wpQuiet P ops C QQ l a:=h.out
theorem OJ {G':Prop} (h:G') (e:Hid G'→wpQuiet P ops C QQ l a:=by (intro hk;(repeat (first | ((with_reducible refine XA ?_);(first | (refine XB ?_;refine XV ?_) | (refine XC ?_;first | refine XD ?_ | refine XE ?_ | refine XF ?_))) | (with_reducible refine XG ?_)));exact hk.out)):Qh P ops C QQ l a:=⟨e ⟨h⟩⟩
theorem dD {G1 G0 p1 p0:Prop} (h1:p1→G1) (h0:p0→G0) (e:(p1→G1)→(p0→G0)→St P ops Q rest o ts df w:=by (intro hk1 hk0;refine oN ?_;first | exact IA hk1 hk0 | exact IB hk1 hk0)):St P ops Q rest o ts df w:=e h1 h0
structure NoOp (G G':Prop):Prop where
 out:G=G'
theorem LH:NoOp (wpList P ops Q (o :: rest) (Act.mk ts.toArray df) w) (wpList P ops Q (o :: rest) (Act.mk ts.toArray df) w):=⟨rfl⟩
end
inductive TkI (P:Program) (Q:Exit→Act→World→Prop) (k:Nat) (F:World→Prop) (l:List Oper) (ts:List Value) (df:List Deferred) (listed:List Bool) (fuel2 i fuel:Nat) (ts':List Value):Prop
 | mk {d op ty ps af g v} (hi:l[i]? = some (Oper.mk (some d) op ty ps af g)) (hfu:fuel2=fuel + 1) (hik:decide (i≠k)=true) (hk:vY .any l.toArray l.length k i=true) (hs:Region.noSelect l.toArray=true) (hf:Region.free .any l.toArray listed.toArray i=true) (hr:(Region.ready .any l.toArray listed.toArray).contains i=true)
   (hw:Region.wanted (Oper.mk (some d) op ty ps af g) (yielded l.toArray ts.toArray)=true) (hy:∀ w',F w'→Runs P (Oper.mk (some d) op ty ps af g) (Act.mk ts.toArray df) w' v) (hQ:∀ c a w,Q (.panic c) (a.put (some d) v) w→Q (.panic c) a w) (e:ts.set d v=ts'):TkI P Q k F l ts df listed fuel2 i fuel ts'
theorem GH (i:Nat) {P:Program} {Q:Exit→Act→World→Prop} {k:Nat} {F:World→Prop} {l:List Oper} {ts ts':List Value} {df:List Deferred} {listed:List Bool} {fuel2 fuel:Nat} {w:World} (h:zK P Q k F l fuel (listed.set i true) (Act.mk ts'.toArray df) w)
 (e:TkI P Q k F l ts df listed fuel2 i fuel ts':=by refine TkI.mk (by rfl) (by rfl) (by decide +kernel) (by decide +kernel) (by decide +kernel) (by decide +kernel) (by decide +kernel) (by rfl) (by (intro _ _;exact rn)) (fun _ _ _ h=>h) (by ((simp only [List.set_cons_succ,List.set_cons_zero,List.getD_cons_succ,List.getD_cons_zero,List.length_map,if_true,Bool.false_eq_true,if_false,Int.toNat_natCast,Int.toNat_zero,Int.toNat_one,Nat.zero_mul,Bool.not_true,Bool.not_false,decide_true,decide_false]);(with_reducible exact rfl)))):zK P Q k F l fuel2 listed (Act.mk ts.toArray df) w:=by
 obtain ⟨hi,hfu,hik,hk,hs,hf,hr,hw,hy,hQ,e⟩:=e
 exact bD hi hfu hik hk hs hf hr hw hy hQ (e ▸ h)
inductive TkP (P:Program) (Q:Exit→Act→World→Prop) (k:Nat) (F:World→Prop) (l:List Oper) (ts:List Value) (df:List Deferred) (listed:List Bool) (fuel2 i fuel:Nat) (ts':List Value):Prop
 | mk {d op ty ps af g v} (hi:l[i]? = some (Oper.mk (some d) op ty ps af g)) (hfu:fuel2=fuel + 1) (hik:decide (i≠k)=true) (hs:Region.noSelect l.toArray=true) (hf:Region.free .any l.toArray listed.toArray i=true) (hr:(Region.ready .any l.toArray listed.toArray).contains i=true)
   (hw:Region.wanted (Oper.mk (some d) op ty ps af g) (yielded l.toArray ts.toArray)=true) (hy:∀ w',Runs P (Oper.mk (some d) op ty ps af g) (Act.mk ts.toArray df) w' v) (hQ:∀ c a w,Q (.panic c) (a.put (some d) v) w→Q (.panic c) a w) (e:ts.set d v=ts'):TkP P Q k F l ts df listed fuel2 i fuel ts'
theorem RI (i:Nat) {P:Program} {Q:Exit→Act→World→Prop} {k:Nat} {F:World→Prop} {l:List Oper} {ts ts':List Value} {df:List Deferred} {listed:List Bool} {fuel2 fuel:Nat} {w:World} (h:zK P Q k F l fuel (listed.set i true) (Act.mk ts'.toArray df) w)
 (e:TkP P Q k F l ts df listed fuel2 i fuel ts':=by refine TkP.mk (by rfl) (by rfl) (by decide +kernel) (by decide +kernel) (by decide +kernel) (by decide +kernel) (by rfl) (by (intro _;exact rn)) (fun _ _ _ h=>h) (by ((simp only [List.set_cons_succ,List.set_cons_zero,List.getD_cons_succ,List.getD_cons_zero,List.length_map,if_true,Bool.false_eq_true,if_false,Int.toNat_natCast,Int.toNat_zero,Int.toNat_one,Nat.zero_mul,Bool.not_true,Bool.not_false,decide_true,decide_false]);(with_reducible exact rfl)))):zK P Q k F l fuel2 listed (Act.mk ts.toArray df) w:=by
 obtain ⟨hi,hfu,hik,hs,hf,hr,hw,hy,hQ,e⟩:=e
 exact dL hi hfu hik hs hf hr hw hy hQ (e ▸ h)
theorem TR (i:Nat) {P:Program} {Q:Exit→Act→World→Prop} {k:Nat} {F:World→Prop} {l:List Oper} {ts:List Value} {df:List Deferred} {listed:List Bool} {fuel2 fuel d ty:Nat} {op:Op} {ps:String} {af:Array Edge} {g:Option (Nat × Bool)} {v:Value} {w:World}
 (hi:l[i]? = some (Oper.mk (some d) op ty ps af g)) (hy:∀ w',Runs P (Oper.mk (some d) op ty ps af g) (Act.mk ts.toArray df) w' v) (h:zK P Q k F l fuel (listed.set i true) (Act.mk (ts.set d v).toArray df) w)
 (hfu:fuel2=fuel + 1:=by rfl) (hik:decide (i≠k)=true:=by decide +kernel) (hs:Region.noSelect l.toArray=true:=by decide +kernel) (hf:Region.free .any l.toArray listed.toArray i=true:=by decide +kernel) (hr:(Region.ready .any l.toArray listed.toArray).contains i=true:=by decide +kernel)
 (hw:Region.wanted (Oper.mk (some d) op ty ps af g) (yielded l.toArray ts.toArray)=true:=by rfl) (hQ:∀ c a w,Q (.panic c) (a.put (some d) v) w→Q (.panic c) a w:=by exact fun _ _ _ h=>h):zK P Q k F l fuel2 listed (Act.mk ts.toArray df) w:=dL hi hfu hik hs hf hr hw hy hQ h
theorem cY {G G':Prop} (h:G') (e:NoOp G G':=by ((fail_if_success (with_reducible exact LH));exact ⟨rfl⟩)):G:=e.out.mpr h
end Go.Proofs.X
set_option linter.unusedVariables false
set_option linter.unusedSimpArgs false
namespace Go.Proofs.X
open Go.RowKit
set_option maxRecDepth 100000
section
variable {P:Program} {w:World} {ts:List Value} {df:List Deferred} {d:Option Nat} {ty:TypeId} {ps:String} {af:Array Edge} {g:Option (Nat × Bool)}
theorem Runs.fieldLitK {s:TypeId} {m n b o:Nat} (k:Nat) (h:ts.getD m undef=.pointer (some ⟨b,o,none⟩)) (hf:lS P s n (n + k)=true) :
 Runs P (Oper.mk d (.fieldAddr s (.tmp m) n) ty ps af g) (Act.mk ts.toArray df) w (dT (ts.getD m undef) (n + k)):=by
 obtain ⟨fs,f,i,ht,hf,ho,hie,hz⟩:=jY hf
 have e1:(Act.mk ts.toArray df).eval (.tmp m)=.pointer (some ⟨b,o,none⟩):=by rw [fP];exact h
 constructor
 rw [h]
 simp [execOp,e1,Instr.fieldAt,Instr.sureAddr,run_underlying ht,hf,fieldPlace,sizeOf,typeInfo,hie,hz,dT,ho]
theorem Runs.isNilN {t u:TypeId} {x y:Operand} {a:Act} (hx:a.eval x=.pointer none) (hy:a.eval y=.pointer none) (ht:P.underlying t=some (.pointer (P.pointee t))) :
 Runs P (Oper.mk d (.binOp .eql t x y u) ty ps af g) a w (.bool true):=by
 constructor
 simp [execOp,hx,hy,eqGuard,run_eql_pointer_nil w t none ht]
theorem Runs.isNilS {t u:TypeId} {x y:Operand} {a:Act} {p:Addr} (hx:a.eval x=.pointer (some p)) (hy:a.eval y=.pointer none) (ht:P.underlying t=some (.pointer (P.pointee t))) :
 Runs P (Oper.mk d (.binOp .eql t x y u) ty ps af g) a w (.bool false):=by
 constructor
 simp [execOp,hx,hy,eqGuard,run_eql_pointer_nil w t (some p) ht]
theorem Runs.notNilN {t u:TypeId} {x y:Operand} {a:Act} (hx:a.eval x=.pointer none) (hy:a.eval y=.pointer none) (ht:P.underlying t=some (.pointer (P.pointee t))) :
 Runs P (Oper.mk d (.binOp .neq t x y u) ty ps af g) a w (.bool false):=by
 constructor
 simp [execOp,hx,hy,eqGuard,run_neq_pointer_nil w t none ht]
theorem Runs.notNilS {t u:TypeId} {x y:Operand} {a:Act} {p:Addr} (hx:a.eval x=.pointer (some p)) (hy:a.eval y=.pointer none) (ht:P.underlying t=some (.pointer (P.pointee t))) :
 Runs P (Oper.mk d (.binOp .neq t x y u) ty ps af g) a w (.bool true):=by
 constructor
 simp [execOp,hx,hy,eqGuard,run_neq_pointer_nil w t (some p) ht]
end
theorem OK {P:Program} {o:Oper} {a:Act} {w:World} {v:Value} (h:Runs P o a w v:=by (first | exact rn | ((apply Runs.fieldLitK (k:=1));(rfl);(decide +kernel)) | ((apply Runs.fieldLitK (k:=6));(rfl);(decide +kernel)) | ((apply Runs.fieldLitK (k:=4));(rfl);(decide +kernel)) | ((apply Runs.fieldLitK (k:=3));(rfl);(decide +kernel)) | ((apply Runs.isNilN);(rfl);(rfl);(kernel_rfl)) | ((apply Runs.isNilS);(rfl);(rfl);(kernel_rfl)) | ((apply Runs.notNilN);(rfl);(rfl);(kernel_rfl)) | ((apply Runs.notNilS);(rfl);(rfl);(kernel_rfl)))):Runs P o a w v:=h
section
variable {P:Program} {ops:Array Oper} {Q:Exit→Act→World→Prop} {rest:List Oper} {o:Oper} {ts ts' t1 t0:List Value} {df:List Deferred} {w:World} {d e j:Nat} {op:Op} {ty:TypeId} {ps:String} {af:Array Edge} {b want:Bool} {v:Value} {p1 p0:Prop} {C:World→Prop} {QQ:Act→Prop} {l:List Oper} {a:Act}
theorem fV (h:wpList P ops Q rest (Act.mk ts'.toArray df) w) (hr:SR P (Oper.mk (some d) op ty ps af none) ts df w d ts':=by (apply SR.mk;(exact OK);(((simp only [List.set_cons_succ,List.set_cons_zero,List.getD_cons_succ,List.getD_cons_zero,List.length_map,if_true,Bool.false_eq_true,if_false,Int.toNat_natCast,Int.toNat_zero,Int.toNat_one,Nat.zero_mul,Bool.not_true,Bool.not_false,decide_true,decide_false]);(with_reducible exact rfl))))) :
 S1 P ops Q rest d op ty ps af ts df w:=by obtain ⟨hr,e⟩:=hr;exact ⟨⟨aT hr (e ▸ h)⟩⟩
theorem VS (h:wpQuiet P ops C QQ rest (Act.mk ts'.toArray df)) (hr:SRq P (Oper.mk (some d) op ty ps af none) ts df C d ts':=by (apply SRq.mk;(intro _ _;exact OK);(((simp only [List.set_cons_succ,List.set_cons_zero,List.getD_cons_succ,List.getD_cons_zero,List.length_map,if_true,Bool.false_eq_true,if_false,Int.toNat_natCast,Int.toNat_zero,Int.toNat_one,Nat.zero_mul,Bool.not_true,Bool.not_false,decide_true,decide_false]);(with_reducible exact rfl))))):Q1 P ops C QQ rest d op ty ps af ts df:=by
 obtain ⟨hr,e⟩:=hr;exact ⟨⟨sI hr (e ▸ h)⟩⟩
theorem iZ {G':Prop} (h:G') (e:Hid G'→St P ops Q rest o ts df w:=by (intro hk;(first | (refine jO ?_;refine fV ?_) | (refine oN ?_;first | refine qV ?_ | refine JH ?_ | refine JJ ?_ | refine JI ?_));(repeat ((with_reducible refine cJ ?_);(first | (refine jO ?_;refine fV ?_) | (refine oN ?_;first | refine qV ?_ | refine JH ?_ | refine JJ ?_ | refine JI ?_))));exact hk.out)):St P ops Q rest o ts df w:=e ⟨h⟩
theorem XW {G':Prop} (h:G') (e:Hid G'→wpQuiet P ops C QQ l a:=by (intro hk;(repeat (first | ((with_reducible refine XA ?_);(first | (refine XB ?_;refine VS ?_) | (refine XC ?_;first | refine XD ?_ | refine XE ?_ | refine XF ?_))) | (with_reducible refine XG ?_)));exact hk.out)):Qh P ops C QQ l a:=⟨e ⟨h⟩⟩
end
inductive TkI1 (P:Program) (Q:Exit→Act→World→Prop) (k:Nat) (F:World→Prop) (l:List Oper) (ts:List Value) (df:List Deferred) (listed:List Bool) (fuel2 i fuel:Nat) (ts':List Value):Prop
 | mk {d op ty ps af g v} (hi:l[i]? = some (Oper.mk (some d) op ty ps af g)) (hfu:fuel2=fuel + 1) (hik:decide (i≠k)=true) (hk:vY .any l.toArray l.length k i=true) (hs:Region.noSelect l.toArray=true) (hf:Region.free .any l.toArray listed.toArray i=true) (hr:(Region.ready .any l.toArray listed.toArray).contains i=true)
   (hw:Region.wanted (Oper.mk (some d) op ty ps af g) (yielded l.toArray ts.toArray)=true) (hy:∀ w',F w'→Runs P (Oper.mk (some d) op ty ps af g) (Act.mk ts.toArray df) w' v) (hQ:∀ c a w,Q (.panic c) (a.put (some d) v) w→Q (.panic c) a w) (e:ts.set d v=ts'):TkI1 P Q k F l ts df listed fuel2 i fuel ts'
theorem cV (i:Nat) {P:Program} {Q:Exit→Act→World→Prop} {k:Nat} {F:World→Prop} {l:List Oper} {ts ts':List Value} {df:List Deferred} {listed:List Bool} {fuel2 fuel:Nat} {w:World} (h:zK P Q k F l fuel (listed.set i true) (Act.mk ts'.toArray df) w)
 (e:TkI1 P Q k F l ts df listed fuel2 i fuel ts':=by refine TkI1.mk (by rfl) (by rfl) (by decide +kernel) (by decide +kernel) (by decide +kernel) (by decide +kernel) (by decide +kernel) (by rfl) (by (intro _ _;exact OK)) (fun _ _ _ h=>h) (by ((simp only [List.set_cons_succ,List.set_cons_zero,List.getD_cons_succ,List.getD_cons_zero,List.length_map,if_true,Bool.false_eq_true,if_false,Int.toNat_natCast,Int.toNat_zero,Int.toNat_one,Nat.zero_mul,Bool.not_true,Bool.not_false,decide_true,decide_false]);(with_reducible exact rfl)))):zK P Q k F l fuel2 listed (Act.mk ts.toArray df) w:=by
 obtain ⟨hi,hfu,hik,hk,hs,hf,hr,hw,hy,hQ,e⟩:=e
 exact bD hi hfu hik hk hs hf hr hw hy hQ (e ▸ h)
inductive TkP1 (P:Program) (Q:Exit→Act→World→Prop) (k:Nat) (F:World→Prop) (l:List Oper) (ts:List Value) (df:List Deferred) (listed:List Bool) (fuel2 i fuel:Nat) (ts':List Value):Prop
 | mk {d op ty ps af g v} (hi:l[i]? = some (Oper.mk (some d) op ty ps af g)) (hfu:fuel2=fuel + 1) (hik:decide (i≠k)=true) (hs:Region.noSelect l.toArray=true) (hf:Region.free .any l.toArray listed.toArray i=true) (hr:(Region.ready .any l.toArray listed.toArray).contains i=true)
   (hw:Region.wanted (Oper.mk (some d) op ty ps af g) (yielded l.toArray ts.toArray)=true) (hy:∀ w',Runs P (Oper.mk (some d) op ty ps af g) (Act.mk ts.toArray df) w' v) (hQ:∀ c a w,Q (.panic c) (a.put (some d) v) w→Q (.panic c) a w) (e:ts.set d v=ts'):TkP1 P Q k F l ts df listed fuel2 i fuel ts'
theorem zL (i:Nat) {P:Program} {Q:Exit→Act→World→Prop} {k:Nat} {F:World→Prop} {l:List Oper} {ts ts':List Value} {df:List Deferred} {listed:List Bool} {fuel2 fuel:Nat} {w:World} (h:zK P Q k F l fuel (listed.set i true) (Act.mk ts'.toArray df) w)
 (e:TkP1 P Q k F l ts df listed fuel2 i fuel ts':=by refine TkP1.mk (by rfl) (by rfl) (by decide +kernel) (by decide +kernel) (by decide +kernel) (by decide +kernel) (by rfl) (by (intro _;exact OK)) (fun _ _ _ h=>h) (by ((simp only [List.set_cons_succ,List.set_cons_zero,List.getD_cons_succ,List.getD_cons_zero,List.length_map,if_true,Bool.false_eq_true,if_false,Int.toNat_natCast,Int.toNat_zero,Int.toNat_one,Nat.zero_mul,Bool.not_true,Bool.not_false,decide_true,decide_false]);(with_reducible exact rfl)))):zK P Q k F l fuel2 listed (Act.mk ts.toArray df) w:=by
 obtain ⟨hi,hfu,hik,hs,hf,hr,hw,hy,hQ,e⟩:=e
 exact dL hi hfu hik hs hf hr hw hy hQ (e ▸ h)
section
variable {P:Program} {Q:Exit→Act→World→Prop} {S:World→Prop} {l:List Oper} {ts:List Value} {df:List Deferred} {d:Nat} {ty:TypeId} {ps:String} {af:Array Edge} {g:Option (Nat × Bool)} {w:World} {fuel:Nat} {listed:List Bool}
theorem iF (i:Nat) {fuel2:Nat} {op:Op} {v:Value} (h:wpAnyH P .any l.toArray Q S fuel (listed.set i true).toArray (Act.mk (ts.set d v).toArray df) w)
 (hi:l[i]? = some (Oper.mk (some d) op ty ps af g):=by rfl) (hfu:fuel2=fuel + 1:=by rfl) (hs:Region.noSelect l.toArray=true:=by decide +kernel) (hf:Region.free .any l.toArray listed.toArray i=true:=by decide +kernel) (hr:(Region.ready .any l.toArray listed.toArray).contains i=true:=by decide +kernel)
 (hw:Region.wanted (Oper.mk (some d) op ty ps af g) (yielded l.toArray ts.toArray)=true:=by rfl) (hS:S w:=by (repeat (first | (with_reducible assumption) | exact Ext.refl _ | (refine Ext.trans ?_ (by with_reducible assumption)))))
 (hy:∀ w',S w'→Runs P (Oper.mk (some d) op ty ps af g) (Act.mk ts.toArray df) w' v:=by (intro _ _;exact OK)) (hQ:∀ c a w,Q (.panic c) (a.put (some d) v) w→Q (.panic c) a w:=by exact fun _ _ _ h=>h):wpAnyH P .any l.toArray Q S fuel2 listed.toArray (Act.mk ts.toArray df) w :=
 cO hi hfu hs hf hr hw hS hy hQ h
end
end Go.Proofs.X
set_option linter.unusedVariables false
set_option linter.unusedSimpArgs false
namespace Go.Proofs.X
open Go.RowKit
def hY (b:Bool):Nat:=if b=true then 0 else 1
section
variable {P:Program} {Q:Exit→Act→World→Prop} {S:World→Prop} {l:List Oper} {ts:List Value} {df:List Deferred} {w:World} {fuel:Nat} {listed:List Bool}
theorem sK {ops:Array Oper} {Inv:Nat→List Bool→Act→World→Prop}
 (hs:∀ m L a w,Inv (m + 1) L a w→0 < (Region.ready .any ops L.toArray).length∧∀ i ∈ Region.ready .any ops L.toArray,wpOp P ops Q i (fun a' w'=>S w'∧Inv m (L.set i true) a' w') a w)
 (he:∀ L a w,Inv 0 L a w→wpAnyH P .any ops Q S fuel L.toArray a w):∀ m L a w,Inv m L a w→wpAnyH P .any ops Q S (fuel + m) L.toArray a w:=by
 intro m
 induction m with
 | zero=>exact he
 | succ m ih =>
  intro L a w h
  obtain ⟨h1,h2⟩:=hs m L a w h
  refine ⟨fun e=>by rw [e] at h1;simp at h1,fun i hi=>wpOp_mono (fun a' w' hh=>⟨hh.1,?_⟩) (h2 i hi)⟩
  have:=ih _ _ _ hh.2
  simpa using this
theorem cW {b:Bool} (h:hY b=0):b=true:=by
 cases b with
 | true=>rfl
 | false=>simp [hY] at h
theorem TS (i1 i2 i3:Nat) (d1 d2 d3:Nat) (c q1 q2 q3:Bool→Bool→Bool→Bool) (F:Bool→Bool→Bool→Value→Value→Value→World→Prop)
 {fuel2:Nat} {o1 o2 o3:Oper}
 (hF:F false false false (List.getD ts d1 undef) (List.getD ts d2 undef) (List.getD ts d3 undef) w)
 (h1:∀ b1 b2 b3:Bool,∀ v1 v2 v3:Value,∀ w1:World,(q1 false b2 b3 && c false b2 b3)=true→F false b2 b3 v1 v2 v3 w1→wpList P l.toArray (oM Q fun a w2=>S w2∧∃ u,a=Act.mk (List.set (List.set (List.set ts d1 u) d2 v2) d3 v3).toArray df∧F true b2 b3 u v2 v3 w2) [o1] (Act.mk (List.set (List.set (List.set ts d1 v1) d2 v2) d3 v3).toArray df) w1)
 (h2:∀ b1 b2 b3:Bool,∀ v1 v2 v3:Value,∀ w1:World,(q2 b1 false b3 && c b1 false b3)=true→F b1 false b3 v1 v2 v3 w1→wpList P l.toArray (oM Q fun a w2=>S w2∧∃ u,a=Act.mk (List.set (List.set (List.set ts d1 v1) d2 u) d3 v3).toArray df∧F b1 true b3 v1 u v3 w2) [o2] (Act.mk (List.set (List.set (List.set ts d1 v1) d2 v2) d3 v3).toArray df) w1)
 (h3:∀ b1 b2 b3:Bool,∀ v1 v2 v3:Value,∀ w1:World,(q3 b1 b2 false && c b1 b2 false)=true→F b1 b2 false v1 v2 v3 w1→wpList P l.toArray (oM Q fun a w2=>S w2∧∃ u,a=Act.mk (List.set (List.set (List.set ts d1 v1) d2 v2) d3 u).toArray df∧F b1 b2 true v1 v2 u w2) [o3] (Act.mk (List.set (List.set (List.set ts d1 v1) d2 v2) d3 v3).toArray df) w1)
 (hG:∀ v1 v2 v3:Value,∀ w1:World,F true true true v1 v2 v3 w1→wpAnyH P .any l.toArray Q S fuel (List.set (List.set (List.set listed i1 true) i2 true) i3 true).toArray (Act.mk (List.set (List.set (List.set ts d1 v1) d2 v2) d3 v3).toArray df) w1)
 (hi:l[i1]? = some o1∧l[i2]? = some o2∧l[i3]? = some o3:=by refine ⟨rfl,rfl,rfl⟩)
 (hr:(∀ b1 b2 b3:Bool,c b1 b2 b3=true→(b1 && b2 && b3)=false→(decide (0 < (Region.ready .any l.toArray (List.set (List.set (List.set listed i1 b1) i2 b2) i3 b3).toArray).length) && (Region.ready .any l.toArray (List.set (List.set (List.set listed i1 b1) i2 b2) i3 b3).toArray).all fun i=>(i == i1 && (!b1 && ((q1 false b2 b3 && c false b2 b3) && c true b2 b3))) || (i == i2 && (!b2 && ((q2 b1 false b3 && c b1 false b3) && c b1 true b3))) || (i == i3 && (!b3 && ((q3 b1 b2 false && c b1 b2 false) && c b1 b2 true))))=true):=by decide +kernel) (hc0:c false false false=true:=by rfl)
 (hf:fuel2=fuel + 3:=by rfl) (hn:i1≠i2∧i1≠i3∧i2≠i3:=by decide) (hl0:(List.set (List.set (List.set listed i1 false) i2 false) i3 false)=listed:=by rfl) (ht0:(List.set (List.set (List.set ts d1 (List.getD ts d1 undef)) d2 (List.getD ts d2 undef)) d3 (List.getD ts d3 undef))=ts:=by rfl)
 : wpAnyH P .any l.toArray Q S fuel2 listed.toArray (Act.mk ts.toArray df) w:=by
 obtain ⟨e1,e2,e3⟩:=hi
 obtain ⟨n1_2,n1_3,n2_3⟩:=hn
 rw [hf]
 refine sK (Inv:=fun m L a w=>∃ b1 b2 b3:Bool,∃ v1 v2 v3:Value,c b1 b2 b3=true∧m=hY b1 + hY b2 + hY b3∧L=(List.set (List.set (List.set listed i1 b1) i2 b2) i3 b3)∧a=Act.mk (List.set (List.set (List.set ts d1 v1) d2 v2) d3 v3).toArray df∧F b1 b2 b3 v1 v2 v3 w) ?_ ?_ 3 listed _ w ⟨false,false,false,(List.getD ts d1 undef),(List.getD ts d2 undef),(List.getD ts d3 undef),hc0,by rfl,hl0.symm,by rw [ht0],hF⟩
 ·rintro m L a w ⟨b1,b2,b3,v1,v2,v3,hcc,hm,rfl,rfl,hf⟩
  have hb:(b1 && b2 && b3)=false:=by
   cases hq:(b1 && b2 && b3) with
   | false=>rfl
   | true =>
    exfalso
    simp only [Bool.and_eq_true] at hq
    obtain ⟨⟨p1,p2⟩,p3⟩:=hq
    subst p1 p2 p3
    simp [hY] at hm
  have hr:=hr b1 b2 b3 hcc hb
  simp only [Bool.and_eq_true,decide_eq_true_eq,List.all_eq_true,Bool.or_eq_true,beq_iff_eq,Bool.not_eq_true'] at hr
  refine ⟨hr.1,fun i hi => ?_⟩
  rcases hr.2 i hi with ((⟨rfl,rfl,c1,cc1⟩ | ⟨rfl,rfl,c2,cc2⟩) | ⟨rfl,rfl,c3,cc3⟩)
  ·refine wpOp_mono ?_ (dO (by simpa using e1) (h1 true b2 b3 v1 v2 v3 w (Bool.and_eq_true_iff.2 c1) hf))
   rintro a w2 ⟨hS,u,rfl,hf2⟩
   refine ⟨hS,true,b2,b3,u,v2,v3,cc1,?_,?_,rfl,hf2⟩
   ·simp only [hY,Bool.false_eq_true,if_true,if_false] at hm ⊢;omega
   ·rw [List.set_comm _ _ n1_3.symm,List.set_comm _ _ n1_2.symm,List.set_set]
  ·refine wpOp_mono ?_ (dO (by simpa using e2) (h2 b1 true b3 v1 v2 v3 w (Bool.and_eq_true_iff.2 c2) hf))
   rintro a w2 ⟨hS,u,rfl,hf2⟩
   refine ⟨hS,b1,true,b3,v1,u,v3,cc2,?_,?_,rfl,hf2⟩
   ·simp only [hY,Bool.false_eq_true,if_true,if_false] at hm ⊢;omega
   ·rw [List.set_comm _ _ n2_3.symm,List.set_set]
  ·refine wpOp_mono ?_ (dO (by simpa using e3) (h3 b1 b2 true v1 v2 v3 w (Bool.and_eq_true_iff.2 c3) hf))
   rintro a w2 ⟨hS,u,rfl,hf2⟩
   refine ⟨hS,b1,b2,true,v1,v2,u,cc3,?_,?_,rfl,hf2⟩
   ·simp only [hY,Bool.false_eq_true,if_true,if_false] at hm ⊢;omega
   ·rw [List.set_set]
 ·rintro L a w ⟨b1,b2,b3,v1,v2,v3,hcc,hm,rfl,rfl,hf⟩
  have p1:b1=true:=cW (by omega)
  have p2:b2=true:=cW (by omega)
  have p3:b3=true:=cW (by omega)
  subst p1 p2 p3
  exact hG v1 v2 v3 w hf
theorem TT (i1 i2 i3 i4:Nat) (d1 d2 d3 d4:Nat) (c q1 q2 q3 q4:Bool→Bool→Bool→Bool→Bool) (F:Bool→Bool→Bool→Bool→Value→Value→Value→Value→World→Prop)
 {fuel2:Nat} {o1 o2 o3 o4:Oper}
 (hF:F false false false false (List.getD ts d1 undef) (List.getD ts d2 undef) (List.getD ts d3 undef) (List.getD ts d4 undef) w)
 (h1:∀ b1 b2 b3 b4:Bool,∀ v1 v2 v3 v4:Value,∀ w1:World,(q1 false b2 b3 b4 && c false b2 b3 b4)=true→F false b2 b3 b4 v1 v2 v3 v4 w1→wpList P l.toArray (oM Q fun a w2=>S w2∧∃ u,a=Act.mk (List.set (List.set (List.set (List.set ts d1 u) d2 v2) d3 v3) d4 v4).toArray df∧F true b2 b3 b4 u v2 v3 v4 w2) [o1] (Act.mk (List.set (List.set (List.set (List.set ts d1 v1) d2 v2) d3 v3) d4 v4).toArray df) w1)
 (h2:∀ b1 b2 b3 b4:Bool,∀ v1 v2 v3 v4:Value,∀ w1:World,(q2 b1 false b3 b4 && c b1 false b3 b4)=true→F b1 false b3 b4 v1 v2 v3 v4 w1→wpList P l.toArray (oM Q fun a w2=>S w2∧∃ u,a=Act.mk (List.set (List.set (List.set (List.set ts d1 v1) d2 u) d3 v3) d4 v4).toArray df∧F b1 true b3 b4 v1 u v3 v4 w2) [o2] (Act.mk (List.set (List.set (List.set (List.set ts d1 v1) d2 v2) d3 v3) d4 v4).toArray df) w1)
 (h3:∀ b1 b2 b3 b4:Bool,∀ v1 v2 v3 v4:Value,∀ w1:World,(q3 b1 b2 false b4 && c b1 b2 false b4)=true→F b1 b2 false b4 v1 v2 v3 v4 w1→wpList P l.toArray (oM Q fun a w2=>S w2∧∃ u,a=Act.mk (List.set (List.set (List.set (List.set ts d1 v1) d2 v2) d3 u) d4 v4).toArray df∧F b1 b2 true b4 v1 v2 u v4 w2) [o3] (Act.mk (List.set (List.set (List.set (List.set ts d1 v1) d2 v2) d3 v3) d4 v4).toArray df) w1)
 (h4:∀ b1 b2 b3 b4:Bool,∀ v1 v2 v3 v4:Value,∀ w1:World,(q4 b1 b2 b3 false && c b1 b2 b3 false)=true→F b1 b2 b3 false v1 v2 v3 v4 w1→wpList P l.toArray (oM Q fun a w2=>S w2∧∃ u,a=Act.mk (List.set (List.set (List.set (List.set ts d1 v1) d2 v2) d3 v3) d4 u).toArray df∧F b1 b2 b3 true v1 v2 v3 u w2) [o4] (Act.mk (List.set (List.set (List.set (List.set ts d1 v1) d2 v2) d3 v3) d4 v4).toArray df) w1)
 (hG:∀ v1 v2 v3 v4:Value,∀ w1:World,F true true true true v1 v2 v3 v4 w1→wpAnyH P .any l.toArray Q S fuel (List.set (List.set (List.set (List.set listed i1 true) i2 true) i3 true) i4 true).toArray (Act.mk (List.set (List.set (List.set (List.set ts d1 v1) d2 v2) d3 v3) d4 v4).toArray df) w1)
 (hi:l[i1]? = some o1∧l[i2]? = some o2∧l[i3]? = some o3∧l[i4]? = some o4:=by refine ⟨rfl,rfl,rfl,rfl⟩)
 (hr:(∀ b1 b2 b3 b4:Bool,c b1 b2 b3 b4=true→(b1 && b2 && b3 && b4)=false→(decide (0 < (Region.ready .any l.toArray (List.set (List.set (List.set (List.set listed i1 b1) i2 b2) i3 b3) i4 b4).toArray).length) && (Region.ready .any l.toArray (List.set (List.set (List.set (List.set listed i1 b1) i2 b2) i3 b3) i4 b4).toArray).all fun i=>(i == i1 && (!b1 && ((q1 false b2 b3 b4 && c false b2 b3 b4) && c true b2 b3 b4))) || (i == i2 && (!b2 && ((q2 b1 false b3 b4 && c b1 false b3 b4) && c b1 true b3 b4))) || (i == i3 && (!b3 && ((q3 b1 b2 false b4 && c b1 b2 false b4) && c b1 b2 true b4))) || (i == i4 && (!b4 && ((q4 b1 b2 b3 false && c b1 b2 b3 false) && c b1 b2 b3 true))))=true):=by decide +kernel) (hc0:c false false false false=true:=by rfl)
 (hf:fuel2=fuel + 4:=by rfl) (hn:i1≠i2∧i1≠i3∧i1≠i4∧i2≠i3∧i2≠i4∧i3≠i4:=by decide) (hl0:(List.set (List.set (List.set (List.set listed i1 false) i2 false) i3 false) i4 false)=listed:=by rfl) (ht0:(List.set (List.set (List.set (List.set ts d1 (List.getD ts d1 undef)) d2 (List.getD ts d2 undef)) d3 (List.getD ts d3 undef)) d4 (List.getD ts d4 undef))=ts:=by rfl)
 : wpAnyH P .any l.toArray Q S fuel2 listed.toArray (Act.mk ts.toArray df) w:=by
 obtain ⟨e1,e2,e3,e4⟩:=hi
 obtain ⟨n1_2,n1_3,n1_4,n2_3,n2_4,n3_4⟩:=hn
 rw [hf]
 refine sK (Inv:=fun m L a w=>∃ b1 b2 b3 b4:Bool,∃ v1 v2 v3 v4:Value,c b1 b2 b3 b4=true∧m=hY b1 + hY b2 + hY b3 + hY b4∧L=(List.set (List.set (List.set (List.set listed i1 b1) i2 b2) i3 b3) i4 b4)∧a=Act.mk (List.set (List.set (List.set (List.set ts d1 v1) d2 v2) d3 v3) d4 v4).toArray df∧F b1 b2 b3 b4 v1 v2 v3 v4 w) ?_ ?_ 4 listed _ w ⟨false,false,false,false,(List.getD ts d1 undef),(List.getD ts d2 undef),(List.getD ts d3 undef),(List.getD ts d4 undef),hc0,by rfl,hl0.symm,by rw [ht0],hF⟩
 ·rintro m L a w ⟨b1,b2,b3,b4,v1,v2,v3,v4,hcc,hm,rfl,rfl,hf⟩
  have hb:(b1 && b2 && b3 && b4)=false:=by
   cases hq:(b1 && b2 && b3 && b4) with
   | false=>rfl
   | true =>
    exfalso
    simp only [Bool.and_eq_true] at hq
    obtain ⟨⟨⟨p1,p2⟩,p3⟩,p4⟩:=hq
    subst p1 p2 p3 p4
    simp [hY] at hm
  have hr:=hr b1 b2 b3 b4 hcc hb
  simp only [Bool.and_eq_true,decide_eq_true_eq,List.all_eq_true,Bool.or_eq_true,beq_iff_eq,Bool.not_eq_true'] at hr
  refine ⟨hr.1,fun i hi => ?_⟩
  rcases hr.2 i hi with (((⟨rfl,rfl,c1,cc1⟩ | ⟨rfl,rfl,c2,cc2⟩) | ⟨rfl,rfl,c3,cc3⟩) | ⟨rfl,rfl,c4,cc4⟩)
  ·refine wpOp_mono ?_ (dO (by simpa using e1) (h1 true b2 b3 b4 v1 v2 v3 v4 w (Bool.and_eq_true_iff.2 c1) hf))
   rintro a w2 ⟨hS,u,rfl,hf2⟩
   refine ⟨hS,true,b2,b3,b4,u,v2,v3,v4,cc1,?_,?_,rfl,hf2⟩
   ·simp only [hY,Bool.false_eq_true,if_true,if_false] at hm ⊢;omega
   ·rw [List.set_comm _ _ n1_4.symm,List.set_comm _ _ n1_3.symm,List.set_comm _ _ n1_2.symm,List.set_set]
  ·refine wpOp_mono ?_ (dO (by simpa using e2) (h2 b1 true b3 b4 v1 v2 v3 v4 w (Bool.and_eq_true_iff.2 c2) hf))
   rintro a w2 ⟨hS,u,rfl,hf2⟩
   refine ⟨hS,b1,true,b3,b4,v1,u,v3,v4,cc2,?_,?_,rfl,hf2⟩
   ·simp only [hY,Bool.false_eq_true,if_true,if_false] at hm ⊢;omega
   ·rw [List.set_comm _ _ n2_4.symm,List.set_comm _ _ n2_3.symm,List.set_set]
  ·refine wpOp_mono ?_ (dO (by simpa using e3) (h3 b1 b2 true b4 v1 v2 v3 v4 w (Bool.and_eq_true_iff.2 c3) hf))
   rintro a w2 ⟨hS,u,rfl,hf2⟩
   refine ⟨hS,b1,b2,true,b4,v1,v2,u,v4,cc3,?_,?_,rfl,hf2⟩
   ·simp only [hY,Bool.false_eq_true,if_true,if_false] at hm ⊢;omega
   ·rw [List.set_comm _ _ n3_4.symm,List.set_set]
  ·refine wpOp_mono ?_ (dO (by simpa using e4) (h4 b1 b2 b3 true v1 v2 v3 v4 w (Bool.and_eq_true_iff.2 c4) hf))
   rintro a w2 ⟨hS,u,rfl,hf2⟩
   refine ⟨hS,b1,b2,b3,true,v1,v2,v3,u,cc4,?_,?_,rfl,hf2⟩
   ·simp only [hY,Bool.false_eq_true,if_true,if_false] at hm ⊢;omega
   ·rw [List.set_set]
 ·rintro L a w ⟨b1,b2,b3,b4,v1,v2,v3,v4,hcc,hm,rfl,rfl,hf⟩
  have p1:b1=true:=cW (by omega)
  have p2:b2=true:=cW (by omega)
  have p3:b3=true:=cW (by omega)
  have p4:b4=true:=cW (by omega)
  subst p1 p2 p3 p4
  exact hG v1 v2 v3 v4 w hf
theorem OL (i1 i2 i3 i4:Nat) (d1 d2 d3:Nat) (c q1 q2 q3 q4:Bool→Bool→Bool→Bool→Bool) (F:Bool→Bool→Bool→Bool→Value→Value→Value→World→Prop)
 {fuel2:Nat} {o1 o2 o3 o4:Oper}
 (hF:F false false false false (List.getD ts d1 undef) (List.getD ts d2 undef) (List.getD ts d3 undef) w)
 (h1:∀ b1 b2 b3 b4:Bool,∀ v1 v2 v3:Value,∀ w1:World,(q1 false b2 b3 b4 && c false b2 b3 b4)=true→F false b2 b3 b4 v1 v2 v3 w1→wpList P l.toArray (oM Q fun a w2=>S w2∧∃ u,a=Act.mk (List.set (List.set (List.set ts d1 u) d2 v2) d3 v3).toArray df∧F true b2 b3 b4 u v2 v3 w2) [o1] (Act.mk (List.set (List.set (List.set ts d1 v1) d2 v2) d3 v3).toArray df) w1)
 (h2:∀ b1 b2 b3 b4:Bool,∀ v1 v2 v3:Value,∀ w1:World,(q2 b1 false b3 b4 && c b1 false b3 b4)=true→F b1 false b3 b4 v1 v2 v3 w1→wpList P l.toArray (oM Q fun a w2=>S w2∧∃ u,a=Act.mk (List.set (List.set (List.set ts d1 v1) d2 u) d3 v3).toArray df∧F b1 true b3 b4 v1 u v3 w2) [o2] (Act.mk (List.set (List.set (List.set ts d1 v1) d2 v2) d3 v3).toArray df) w1)
 (h3:∀ b1 b2 b3 b4:Bool,∀ v1 v2 v3:Value,∀ w1:World,(q3 b1 b2 false b4 && c b1 b2 false b4)=true→F b1 b2 false b4 v1 v2 v3 w1→wpList P l.toArray (oM Q fun a w2=>S w2∧∃ u,a=Act.mk (List.set (List.set (List.set ts d1 v1) d2 v2) d3 u).toArray df∧F b1 b2 true b4 v1 v2 u w2) [o3] (Act.mk (List.set (List.set (List.set ts d1 v1) d2 v2) d3 v3).toArray df) w1)
 (h4:∀ b1 b2 b3 b4:Bool,∀ v1 v2 v3:Value,∀ w1:World,(q4 b1 b2 b3 false && c b1 b2 b3 false)=true→F b1 b2 b3 false v1 v2 v3 w1→wpList P l.toArray (oM Q fun a w2=>S w2∧a=Act.mk (List.set (List.set (List.set ts d1 v1) d2 v2) d3 v3).toArray df∧F b1 b2 b3 true v1 v2 v3 w2) [o4] (Act.mk (List.set (List.set (List.set ts d1 v1) d2 v2) d3 v3).toArray df) w1)
 (hG:∀ v1 v2 v3:Value,∀ w1:World,F true true true true v1 v2 v3 w1→wpAnyH P .any l.toArray Q S fuel (List.set (List.set (List.set (List.set listed i1 true) i2 true) i3 true) i4 true).toArray (Act.mk (List.set (List.set (List.set ts d1 v1) d2 v2) d3 v3).toArray df) w1)
 (hi:l[i1]? = some o1∧l[i2]? = some o2∧l[i3]? = some o3∧l[i4]? = some o4:=by refine ⟨rfl,rfl,rfl,rfl⟩)
 (hr:(∀ b1 b2 b3 b4:Bool,c b1 b2 b3 b4=true→(b1 && b2 && b3 && b4)=false→(decide (0 < (Region.ready .any l.toArray (List.set (List.set (List.set (List.set listed i1 b1) i2 b2) i3 b3) i4 b4).toArray).length) && (Region.ready .any l.toArray (List.set (List.set (List.set (List.set listed i1 b1) i2 b2) i3 b3) i4 b4).toArray).all fun i=>(i == i1 && (!b1 && ((q1 false b2 b3 b4 && c false b2 b3 b4) && c true b2 b3 b4))) || (i == i2 && (!b2 && ((q2 b1 false b3 b4 && c b1 false b3 b4) && c b1 true b3 b4))) || (i == i3 && (!b3 && ((q3 b1 b2 false b4 && c b1 b2 false b4) && c b1 b2 true b4))) || (i == i4 && (!b4 && ((q4 b1 b2 b3 false && c b1 b2 b3 false) && c b1 b2 b3 true))))=true):=by decide +kernel) (hc0:c false false false false=true:=by rfl)
 (hf:fuel2=fuel + 4:=by rfl) (hn:i1≠i2∧i1≠i3∧i1≠i4∧i2≠i3∧i2≠i4∧i3≠i4:=by decide) (hl0:(List.set (List.set (List.set (List.set listed i1 false) i2 false) i3 false) i4 false)=listed:=by rfl) (ht0:(List.set (List.set (List.set ts d1 (List.getD ts d1 undef)) d2 (List.getD ts d2 undef)) d3 (List.getD ts d3 undef))=ts:=by rfl)
 : wpAnyH P .any l.toArray Q S fuel2 listed.toArray (Act.mk ts.toArray df) w:=by
 obtain ⟨e1,e2,e3,e4⟩:=hi
 obtain ⟨n1_2,n1_3,n1_4,n2_3,n2_4,n3_4⟩:=hn
 rw [hf]
 refine sK (Inv:=fun m L a w=>∃ b1 b2 b3 b4:Bool,∃ v1 v2 v3:Value,c b1 b2 b3 b4=true∧m=hY b1 + hY b2 + hY b3 + hY b4∧L=(List.set (List.set (List.set (List.set listed i1 b1) i2 b2) i3 b3) i4 b4)∧a=Act.mk (List.set (List.set (List.set ts d1 v1) d2 v2) d3 v3).toArray df∧F b1 b2 b3 b4 v1 v2 v3 w) ?_ ?_ 4 listed _ w ⟨false,false,false,false,(List.getD ts d1 undef),(List.getD ts d2 undef),(List.getD ts d3 undef),hc0,by rfl,hl0.symm,by rw [ht0],hF⟩
 ·rintro m L a w ⟨b1,b2,b3,b4,v1,v2,v3,hcc,hm,rfl,rfl,hf⟩
  have hb:(b1 && b2 && b3 && b4)=false:=by
   cases hq:(b1 && b2 && b3 && b4) with
   | false=>rfl
   | true =>
    exfalso
    simp only [Bool.and_eq_true] at hq
    obtain ⟨⟨⟨p1,p2⟩,p3⟩,p4⟩:=hq
    subst p1 p2 p3 p4
    simp [hY] at hm
  have hr:=hr b1 b2 b3 b4 hcc hb
  simp only [Bool.and_eq_true,decide_eq_true_eq,List.all_eq_true,Bool.or_eq_true,beq_iff_eq,Bool.not_eq_true'] at hr
  refine ⟨hr.1,fun i hi => ?_⟩
  rcases hr.2 i hi with (((⟨rfl,rfl,c1,cc1⟩ | ⟨rfl,rfl,c2,cc2⟩) | ⟨rfl,rfl,c3,cc3⟩) | ⟨rfl,rfl,c4,cc4⟩)
  ·refine wpOp_mono ?_ (dO (by simpa using e1) (h1 true b2 b3 b4 v1 v2 v3 w (Bool.and_eq_true_iff.2 c1) hf))
   rintro a w2 ⟨hS,u,rfl,hf2⟩
   refine ⟨hS,true,b2,b3,b4,u,v2,v3,cc1,?_,?_,rfl,hf2⟩
   ·simp only [hY,Bool.false_eq_true,if_true,if_false] at hm ⊢;omega
   ·rw [List.set_comm _ _ n1_4.symm,List.set_comm _ _ n1_3.symm,List.set_comm _ _ n1_2.symm,List.set_set]
  ·refine wpOp_mono ?_ (dO (by simpa using e2) (h2 b1 true b3 b4 v1 v2 v3 w (Bool.and_eq_true_iff.2 c2) hf))
   rintro a w2 ⟨hS,u,rfl,hf2⟩
   refine ⟨hS,b1,true,b3,b4,v1,u,v3,cc2,?_,?_,rfl,hf2⟩
   ·simp only [hY,Bool.false_eq_true,if_true,if_false] at hm ⊢;omega
   ·rw [List.set_comm _ _ n2_4.symm,List.set_comm _ _ n2_3.symm,List.set_set]
  ·refine wpOp_mono ?_ (dO (by simpa using e3) (h3 b1 b2 true b4 v1 v2 v3 w (Bool.and_eq_true_iff.2 c3) hf))
   rintro a w2 ⟨hS,u,rfl,hf2⟩
   refine ⟨hS,b1,b2,true,b4,v1,v2,u,cc3,?_,?_,rfl,hf2⟩
   ·simp only [hY,Bool.false_eq_true,if_true,if_false] at hm ⊢;omega
   ·rw [List.set_comm _ _ n3_4.symm,List.set_set]
  ·refine wpOp_mono ?_ (dO (by simpa using e4) (h4 b1 b2 b3 true v1 v2 v3 w (Bool.and_eq_true_iff.2 c4) hf))
   rintro a w2 ⟨hS,rfl,hf2⟩
   refine ⟨hS,b1,b2,b3,true,v1,v2,v3,cc4,?_,?_,rfl,hf2⟩
   ·simp only [hY,Bool.false_eq_true,if_true,if_false] at hm ⊢;omega
   ·rw [List.set_set]
 ·rintro L a w ⟨b1,b2,b3,b4,v1,v2,v3,hcc,hm,rfl,rfl,hf⟩
  have p1:b1=true:=cW (by omega)
  have p2:b2=true:=cW (by omega)
  have p3:b3=true:=cW (by omega)
  have p4:b4=true:=cW (by omega)
  subst p1 p2 p3 p4
  exact hG v1 v2 v3 w hf
theorem OM (i1 i2 i3 i4 i5 i6:Nat) (d1 d2 d3 d4 d5:Nat) (c q1 q2 q3 q4 q5 q6:Bool→Bool→Bool→Bool→Bool→Bool→Bool) (F:Bool→Bool→Bool→Bool→Bool→Bool→Value→Value→Value→Value→Value→World→Prop)
 {fuel2:Nat} {o1 o2 o3 o4 o5 o6:Oper}
 (hF:F false false false false false false (List.getD ts d1 undef) (List.getD ts d2 undef) (List.getD ts d3 undef) (List.getD ts d4 undef) (List.getD ts d5 undef) w)
 (h1:∀ b1 b2 b3 b4 b5 b6:Bool,∀ v1 v2 v3 v4 v5:Value,∀ w1:World,(q1 false b2 b3 b4 b5 b6 && c false b2 b3 b4 b5 b6)=true→F false b2 b3 b4 b5 b6 v1 v2 v3 v4 v5 w1→wpList P l.toArray (oM Q fun a w2=>S w2∧∃ u,a=Act.mk (List.set (List.set (List.set (List.set (List.set ts d1 u) d2 v2) d3 v3) d4 v4) d5 v5).toArray df∧F true b2 b3 b4 b5 b6 u v2 v3 v4 v5 w2) [o1] (Act.mk (List.set (List.set (List.set (List.set (List.set ts d1 v1) d2 v2) d3 v3) d4 v4) d5 v5).toArray df) w1)
 (h2:∀ b1 b2 b3 b4 b5 b6:Bool,∀ v1 v2 v3 v4 v5:Value,∀ w1:World,(q2 b1 false b3 b4 b5 b6 && c b1 false b3 b4 b5 b6)=true→F b1 false b3 b4 b5 b6 v1 v2 v3 v4 v5 w1→wpList P l.toArray (oM Q fun a w2=>S w2∧∃ u,a=Act.mk (List.set (List.set (List.set (List.set (List.set ts d1 v1) d2 u) d3 v3) d4 v4) d5 v5).toArray df∧F b1 true b3 b4 b5 b6 v1 u v3 v4 v5 w2) [o2] (Act.mk (List.set (List.set (List.set (List.set (List.set ts d1 v1) d2 v2) d3 v3) d4 v4) d5 v5).toArray df) w1)
 (h3:∀ b1 b2 b3 b4 b5 b6:Bool,∀ v1 v2 v3 v4 v5:Value,∀ w1:World,(q3 b1 b2 false b4 b5 b6 && c b1 b2 false b4 b5 b6)=true→F b1 b2 false b4 b5 b6 v1 v2 v3 v4 v5 w1→wpList P l.toArray (oM Q fun a w2=>S w2∧∃ u,a=Act.mk (List.set (List.set (List.set (List.set (List.set ts d1 v1) d2 v2) d3 u) d4 v4) d5 v5).toArray df∧F b1 b2 true b4 b5 b6 v1 v2 u v4 v5 w2) [o3] (Act.mk (List.set (List.set (List.set (List.set (List.set ts d1 v1) d2 v2) d3 v3) d4 v4) d5 v5).toArray df) w1)
 (h4:∀ b1 b2 b3 b4 b5 b6:Bool,∀ v1 v2 v3 v4 v5:Value,∀ w1:World,(q4 b1 b2 b3 false b5 b6 && c b1 b2 b3 false b5 b6)=true→F b1 b2 b3 false b5 b6 v1 v2 v3 v4 v5 w1→wpList P l.toArray (oM Q fun a w2=>S w2∧∃ u,a=Act.mk (List.set (List.set (List.set (List.set (List.set ts d1 v1) d2 v2) d3 v3) d4 u) d5 v5).toArray df∧F b1 b2 b3 true b5 b6 v1 v2 v3 u v5 w2) [o4] (Act.mk (List.set (List.set (List.set (List.set (List.set ts d1 v1) d2 v2) d3 v3) d4 v4) d5 v5).toArray df) w1)
 (h5:∀ b1 b2 b3 b4 b5 b6:Bool,∀ v1 v2 v3 v4 v5:Value,∀ w1:World,(q5 b1 b2 b3 b4 false b6 && c b1 b2 b3 b4 false b6)=true→F b1 b2 b3 b4 false b6 v1 v2 v3 v4 v5 w1→wpList P l.toArray (oM Q fun a w2=>S w2∧∃ u,a=Act.mk (List.set (List.set (List.set (List.set (List.set ts d1 v1) d2 v2) d3 v3) d4 v4) d5 u).toArray df∧F b1 b2 b3 b4 true b6 v1 v2 v3 v4 u w2) [o5] (Act.mk (List.set (List.set (List.set (List.set (List.set ts d1 v1) d2 v2) d3 v3) d4 v4) d5 v5).toArray df) w1)
 (h6:∀ b1 b2 b3 b4 b5 b6:Bool,∀ v1 v2 v3 v4 v5:Value,∀ w1:World,(q6 b1 b2 b3 b4 b5 false && c b1 b2 b3 b4 b5 false)=true→F b1 b2 b3 b4 b5 false v1 v2 v3 v4 v5 w1→wpList P l.toArray (oM Q fun a w2=>S w2∧a=Act.mk (List.set (List.set (List.set (List.set (List.set ts d1 v1) d2 v2) d3 v3) d4 v4) d5 v5).toArray df∧F b1 b2 b3 b4 b5 true v1 v2 v3 v4 v5 w2) [o6] (Act.mk (List.set (List.set (List.set (List.set (List.set ts d1 v1) d2 v2) d3 v3) d4 v4) d5 v5).toArray df) w1)
 (hG:∀ v1 v2 v3 v4 v5:Value,∀ w1:World,F true true true true true true v1 v2 v3 v4 v5 w1→wpAnyH P .any l.toArray Q S fuel (List.set (List.set (List.set (List.set (List.set (List.set listed i1 true) i2 true) i3 true) i4 true) i5 true) i6 true).toArray (Act.mk (List.set (List.set (List.set (List.set (List.set ts d1 v1) d2 v2) d3 v3) d4 v4) d5 v5).toArray df) w1)
 (hi:l[i1]? = some o1∧l[i2]? = some o2∧l[i3]? = some o3∧l[i4]? = some o4∧l[i5]? = some o5∧l[i6]? = some o6:=by refine ⟨rfl,rfl,rfl,rfl,rfl,rfl⟩)
 (hr:(∀ b1 b2 b3 b4 b5 b6:Bool,c b1 b2 b3 b4 b5 b6=true→(b1 && b2 && b3 && b4 && b5 && b6)=false→(decide (0 < (Region.ready .any l.toArray (List.set (List.set (List.set (List.set (List.set (List.set listed i1 b1) i2 b2) i3 b3) i4 b4) i5 b5) i6 b6).toArray).length) && (Region.ready .any l.toArray (List.set (List.set (List.set (List.set (List.set (List.set listed i1 b1) i2 b2) i3 b3) i4 b4) i5 b5) i6 b6).toArray).all fun i=>(i == i1 && (!b1 && ((q1 false b2 b3 b4 b5 b6 && c false b2 b3 b4 b5 b6) && c true b2 b3 b4 b5 b6))) || (i == i2 && (!b2 && ((q2 b1 false b3 b4 b5 b6 && c b1 false b3 b4 b5 b6) && c b1 true b3 b4 b5 b6))) || (i == i3 && (!b3 && ((q3 b1 b2 false b4 b5 b6 && c b1 b2 false b4 b5 b6) && c b1 b2 true b4 b5 b6))) || (i == i4 && (!b4 && ((q4 b1 b2 b3 false b5 b6 && c b1 b2 b3 false b5 b6) && c b1 b2 b3 true b5 b6))) || (i == i5 && (!b5 && ((q5 b1 b2 b3 b4 false b6 && c b1 b2 b3 b4 false b6) && c b1 b2 b3 b4 true b6))) || (i == i6 && (!b6 && ((q6 b1 b2 b3 b4 b5 false && c b1 b2 b3 b4 b5 false) && c b1 b2 b3 b4 b5 true))))=true):=by decide +kernel) (hc0:c false false false false false false=true:=by rfl)
 (hf:fuel2=fuel + 6:=by rfl) (hn:i1≠i2∧i1≠i3∧i1≠i4∧i1≠i5∧i1≠i6∧i2≠i3∧i2≠i4∧i2≠i5∧i2≠i6∧i3≠i4∧i3≠i5∧i3≠i6∧i4≠i5∧i4≠i6∧i5≠i6:=by decide) (hl0:(List.set (List.set (List.set (List.set (List.set (List.set listed i1 false) i2 false) i3 false) i4 false) i5 false) i6 false)=listed:=by rfl) (ht0:(List.set (List.set (List.set (List.set (List.set ts d1 (List.getD ts d1 undef)) d2 (List.getD ts d2 undef)) d3 (List.getD ts d3 undef)) d4 (List.getD ts d4 undef)) d5 (List.getD ts d5 undef))=ts:=by rfl)
 : wpAnyH P .any l.toArray Q S fuel2 listed.toArray (Act.mk ts.toArray df) w:=by
 obtain ⟨e1,e2,e3,e4,e5,e6⟩:=hi
 obtain ⟨n1_2,n1_3,n1_4,n1_5,n1_6,n2_3,n2_4,n2_5,n2_6,n3_4,n3_5,n3_6,n4_5,n4_6,n5_6⟩:=hn
 rw [hf]
 refine sK (Inv:=fun m L a w=>∃ b1 b2 b3 b4 b5 b6:Bool,∃ v1 v2 v3 v4 v5:Value,c b1 b2 b3 b4 b5 b6=true∧m=hY b1 + hY b2 + hY b3 + hY b4 + hY b5 + hY b6∧L=(List.set (List.set (List.set (List.set (List.set (List.set listed i1 b1) i2 b2) i3 b3) i4 b4) i5 b5) i6 b6)∧a=Act.mk (List.set (List.set (List.set (List.set (List.set ts d1 v1) d2 v2) d3 v3) d4 v4) d5 v5).toArray df∧F b1 b2 b3 b4 b5 b6 v1 v2 v3 v4 v5 w) ?_ ?_ 6 listed _ w ⟨false,false,false,false,false,false,(List.getD ts d1 undef),(List.getD ts d2 undef),(List.getD ts d3 undef),(List.getD ts d4 undef),(List.getD ts d5 undef),hc0,by rfl,hl0.symm,by rw [ht0],hF⟩
 ·rintro m L a w ⟨b1,b2,b3,b4,b5,b6,v1,v2,v3,v4,v5,hcc,hm,rfl,rfl,hf⟩
  have hb:(b1 && b2 && b3 && b4 && b5 && b6)=false:=by
   cases hq:(b1 && b2 && b3 && b4 && b5 && b6) with
   | false=>rfl
   | true =>
    exfalso
    simp only [Bool.and_eq_true] at hq
    obtain ⟨⟨⟨⟨⟨p1,p2⟩,p3⟩,p4⟩,p5⟩,p6⟩:=hq
    subst p1 p2 p3 p4 p5 p6
    simp [hY] at hm
  have hr:=hr b1 b2 b3 b4 b5 b6 hcc hb
  simp only [Bool.and_eq_true,decide_eq_true_eq,List.all_eq_true,Bool.or_eq_true,beq_iff_eq,Bool.not_eq_true'] at hr
  refine ⟨hr.1,fun i hi => ?_⟩
  rcases hr.2 i hi with (((((⟨rfl,rfl,c1,cc1⟩ | ⟨rfl,rfl,c2,cc2⟩) | ⟨rfl,rfl,c3,cc3⟩) | ⟨rfl,rfl,c4,cc4⟩) | ⟨rfl,rfl,c5,cc5⟩) | ⟨rfl,rfl,c6,cc6⟩)
  ·refine wpOp_mono ?_ (dO (by simpa using e1) (h1 true b2 b3 b4 b5 b6 v1 v2 v3 v4 v5 w (Bool.and_eq_true_iff.2 c1) hf))
   rintro a w2 ⟨hS,u,rfl,hf2⟩
   refine ⟨hS,true,b2,b3,b4,b5,b6,u,v2,v3,v4,v5,cc1,?_,?_,rfl,hf2⟩
   ·simp only [hY,Bool.false_eq_true,if_true,if_false] at hm ⊢;omega
   ·rw [List.set_comm _ _ n1_6.symm,List.set_comm _ _ n1_5.symm,List.set_comm _ _ n1_4.symm,List.set_comm _ _ n1_3.symm,List.set_comm _ _ n1_2.symm,List.set_set]
  ·refine wpOp_mono ?_ (dO (by simpa using e2) (h2 b1 true b3 b4 b5 b6 v1 v2 v3 v4 v5 w (Bool.and_eq_true_iff.2 c2) hf))
   rintro a w2 ⟨hS,u,rfl,hf2⟩
   refine ⟨hS,b1,true,b3,b4,b5,b6,v1,u,v3,v4,v5,cc2,?_,?_,rfl,hf2⟩
   ·simp only [hY,Bool.false_eq_true,if_true,if_false] at hm ⊢;omega
   ·rw [List.set_comm _ _ n2_6.symm,List.set_comm _ _ n2_5.symm,List.set_comm _ _ n2_4.symm,List.set_comm _ _ n2_3.symm,List.set_set]
  ·refine wpOp_mono ?_ (dO (by simpa using e3) (h3 b1 b2 true b4 b5 b6 v1 v2 v3 v4 v5 w (Bool.and_eq_true_iff.2 c3) hf))
   rintro a w2 ⟨hS,u,rfl,hf2⟩
   refine ⟨hS,b1,b2,true,b4,b5,b6,v1,v2,u,v4,v5,cc3,?_,?_,rfl,hf2⟩
   ·simp only [hY,Bool.false_eq_true,if_true,if_false] at hm ⊢;omega
   ·rw [List.set_comm _ _ n3_6.symm,List.set_comm _ _ n3_5.symm,List.set_comm _ _ n3_4.symm,List.set_set]
  ·refine wpOp_mono ?_ (dO (by simpa using e4) (h4 b1 b2 b3 true b5 b6 v1 v2 v3 v4 v5 w (Bool.and_eq_true_iff.2 c4) hf))
   rintro a w2 ⟨hS,u,rfl,hf2⟩
   refine ⟨hS,b1,b2,b3,true,b5,b6,v1,v2,v3,u,v5,cc4,?_,?_,rfl,hf2⟩
   ·simp only [hY,Bool.false_eq_true,if_true,if_false] at hm ⊢;omega
   ·rw [List.set_comm _ _ n4_6.symm,List.set_comm _ _ n4_5.symm,List.set_set]
  ·refine wpOp_mono ?_ (dO (by simpa using e5) (h5 b1 b2 b3 b4 true b6 v1 v2 v3 v4 v5 w (Bool.and_eq_true_iff.2 c5) hf))
   rintro a w2 ⟨hS,u,rfl,hf2⟩
   refine ⟨hS,b1,b2,b3,b4,true,b6,v1,v2,v3,v4,u,cc5,?_,?_,rfl,hf2⟩
   ·simp only [hY,Bool.false_eq_true,if_true,if_false] at hm ⊢;omega
   ·rw [List.set_comm _ _ n5_6.symm,List.set_set]
  ·refine wpOp_mono ?_ (dO (by simpa using e6) (h6 b1 b2 b3 b4 b5 true v1 v2 v3 v4 v5 w (Bool.and_eq_true_iff.2 c6) hf))
   rintro a w2 ⟨hS,rfl,hf2⟩
   refine ⟨hS,b1,b2,b3,b4,b5,true,v1,v2,v3,v4,v5,cc6,?_,?_,rfl,hf2⟩
   ·simp only [hY,Bool.false_eq_true,if_true,if_false] at hm ⊢;omega
   ·rw [List.set_set]
 ·rintro L a w ⟨b1,b2,b3,b4,b5,b6,v1,v2,v3,v4,v5,hcc,hm,rfl,rfl,hf⟩
  have p1:b1=true:=cW (by omega)
  have p2:b2=true:=cW (by omega)
  have p3:b3=true:=cW (by omega)
  have p4:b4=true:=cW (by omega)
  have p5:b5=true:=cW (by omega)
  have p6:b6=true:=cW (by omega)
  subst p1 p2 p3 p4 p5 p6
  exact hG v1 v2 v3 v4 v5 w hf
end
end Go.Proofs.X
set_option linter.unusedVariables false
set_option linter.unusedSimpArgs false
namespace Go.Proofs.X
open Go.RowKit
theorem sL {α:Type} [Inhabited α] (enc:α→List Value) (k:Nat) (hk:∀ x,(enc x).length=k) (l:List α):(Sort.flatK enc k l.toArray).toList=(l.map enc).flatten:=by
 have hall:∀ x ∈ l.map enc,x.length=k:=by
  intro x hx
  obtain ⟨y,_,rfl⟩:=List.mem_map.1 hx
  exact hk y
 have hfl:=bO hall
 have h:Sort.flatK enc k l.toArray=((l.map enc).flatten).toArray:=by
  refine Sort.ext_get! (by simp [hfl]) fun t ht => ?_
  have ht':t < l.length * k:=by simpa using ht
  rw [Sort.get_flatK _ _ _ t (by simpa using ht')]
  have k0:0 < k:=by
   rcases Nat.eq_zero_or_pos k with h | h
   ·subst h;simp at ht'
   ·exact h
  have hd:t / k < l.length:=Nat.div_lt_of_lt_mul (by rw [Nat.mul_comm];exact ht')
  have hm:t % k < k:=Nat.mod_lt _ k0
  have e1:l.toArray[t / k]! = l[t / k]:=by rw [getElem!_pos _ _ (by simpa using hd)];simp
  rw [e1]
  have h1:=iT hall (i:=t / k) (j:=t % k) (e:=enc l[t / k]) (x:=(enc l[t / k])[t % k]'(by rw [hk];exact hm)) (by simp [hd]) (List.getElem?_eq_getElem (by rw [hk];exact hm))
  rw [show t / k * k + t % k=t by rw [Nat.mul_comm];exact Nat.div_add_mod t k] at h1
  have h2:t < (l.map enc).flatten.length:=(List.getElem?_eq_some_iff.1 h1).1
  rw [getElem!_pos _ t (by simpa using h2)]
  have h3:=(List.getElem?_eq_some_iff.1 h1).2
  simp only [List.getElem_toArray]
  rw [h3,getElem!_pos _ _ (by rw [hk];exact hm)]
 rw [h]
theorem Own.holdsF {B k e g cap n:Nat} {w:World} {es:List (List Value)} (h:Own B k e w (.slice (some ⟨g,0,none⟩) n cap) es):Sort.Holds id w g 0 es.flatten.toArray:=by
 rcases h.row.2 with ⟨h0,_⟩ | ⟨g',cap',cur,fz,hv,hb,hg,hfz,hnc,hcm,hcs,htake⟩
 ·cases h0
 ·simp only [Value.slice.injEq,Option.some.injEq,Addr.mk.injEq,and_true,true_and] at hv
  obtain ⟨rfl,_,rfl⟩:=hv
  have hlen:=bO h.each
  have hck:es.length * k≤cap * k:=Nat.mul_le_mul_right k hnc
  intro j hj
  have hj':j < es.flatten.length:=by simpa using hj
  have hjc:j < cur.size:=by omega
  constructor
  ·rw [Nat.zero_add,cell_of_row w g j cur e fz hg]
   have:=congrArg (·[j]?) htake
   simp only [List.getElem?_take,if_pos (show j < es.length * k by omega),List.getElem?_eq_getElem hj'] at this
   rw [← Array.getElem?_toList,this]
   rw [getElem!_pos _ j hj]
   simp
  ·rw [Nat.zero_add];exact rD hg hfz hjc
theorem Own.putRowF {B k e g cap:Nat} {w:World} {es fs:List (List Value)} (h:Own B k e w (.slice (some ⟨g,0,none⟩) es.length cap) es) (hl:fs.length=es.length) (hf:∀ x ∈ fs,x.length=k) (n:Nat) (os:Array Obj) :
 Own B k e (Sort.grow (Sort.putRow id (Sort.ahead w n) g 0 fs.flatten.toArray) os) (.slice (some ⟨g,0,none⟩) es.length cap) fs∧Mv (some g) w (Sort.grow (Sort.putRow id (Sort.ahead w n) g 0 fs.flatten.toArray) os):=by
 rcases h.row.2 with ⟨h0,_⟩ | ⟨g',cap',cur,fz,hv,hb,hg,hfz,hnc,hcm,hcs,htake⟩
 ·cases h0
 ·simp only [Value.slice.injEq,Option.some.injEq,Addr.mk.injEq,and_true,true_and] at hv
  obtain ⟨rfl,rfl⟩:=hv
  have hgs:g < w.heap.size:=(Array.getElem?_eq_some_iff.1 hg).1
  have hg2:(Sort.grow (Sort.putRow id (Sort.ahead w n) g 0 fs.flatten.toArray) os).heap[g]? = some (.cells (Sort.putCells id 0 fs.flatten.toArray cur) e fz):=by
   simp only [Sort.grow,Sort.putRow,Sort.mapBlock,Sort.ahead]
   rw [Array.getElem?_append_left (by simpa using hgs),Array.getElem?_modify,if_pos rfl,hg]
   rfl
  have hsz:(Sort.putCells id 0 fs.flatten.toArray cur).size=cur.size:=by simp [Sort.putCells]
  have hlen:=bO hf
  have hck:es.length * k≤cap * k:=Nat.mul_le_mul_right k hnc
  refine ⟨⟨⟨hlen, .inr ⟨g,cap,_,fz,by rw [hl],hb,hg2,by rw [hsz];exact hfz,by omega,hcm,by rw [hsz];exact hcs,?_⟩⟩,hf⟩,⟨rfl,rfl,rfl,?_,?_,Nat.le_add_right _ _⟩⟩
  ·apply List.ext_getElem?
   intro j
   simp only [List.getElem?_take]
   by_cases hj:j < fs.length * k
   ·have hpk:fs.length * k=es.length * k:=by rw [hl]
    have hjf:j < fs.flatten.length:=by omega
    have hjc:j < cur.toList.length:=by rw [Array.length_toList];omega
    rw [if_pos hj,List.getElem?_eq_getElem hjf]
    simp only [Sort.putCells,Array.toList_mapIdx,List.getElem?_mapIdx]
    rw [List.getElem?_eq_getElem hjc,Option.map_some]
    have hc:(0≤j∧j < 0 + fs.flatten.toArray.size):=by constructor;omega;simp only [List.size_toArray];omega
    rw [if_pos hc]
    simp only [Nat.sub_zero,id]
    rw [getElem!_pos _ j (by simpa only [List.size_toArray] using hjf),List.getElem_toArray]
   ·rw [if_neg hj,List.getElem?_eq_none (by omega)]
  ·simp only [Sort.grow,Sort.putRow,Sort.mapBlock,Sort.ahead,Array.size_append,Array.size_modify];omega
  ·intro k hk hne
   simp only [Sort.grow,Sort.putRow,Sort.mapBlock,Sort.ahead]
   rw [Array.getElem?_append_left (by simpa using hk),Array.getElem?_modify,if_neg (fun e=>hne (by rw [e]))]
end Go.Proofs.X
