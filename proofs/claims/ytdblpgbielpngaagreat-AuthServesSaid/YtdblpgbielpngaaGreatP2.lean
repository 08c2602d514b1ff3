/- Laws and walks that the proof of the statement is made of (part 2). -/
import Derived.Test.YtdblpgbielpngaaGreatP1
set_option linter.unusedSimpArgs false
set_option linter.unusedVariables false
set_option maxRecDepth 100000
namespace Go.Proofs.X
open Go.RowKit
section
variable {P:Program} {a:Act} {w:World} {d:Option Nat} {ty:TypeId} {ps:String} {af:Array Edge} {g:Option (Nat × Bool)}
theorem Runs.takeC {t:TypeId} {x hi:Operand} {k n l c:Nat} {ad:Option Addr} (hx:a.eval x=.slice ad l c) (h2:a.eval hi=.int .i64 (n:Nat)) (hn:n≤c) (ht:fT P t k=true) :
 Runs P (Oper.mk d (.slice t x none (some hi) none) ty ps af g) a w (.slice (if c=0 then ad else ad.map (·.add (0 * k))) (n - 0) (c - 0)):=by
 obtain ⟨e,ie,ht,hie,hz⟩:=fF ht;constructor;simp [execOp,hx,h2,Instr.sliceAt,Instr.slice,run_underlying ht,Instr.sliceBounds,Instr.sliceBound,asIntOf,sizeOf,typeInfo,hie,hz,hn]
end
theorem Sl.news {k n cap:Nat} {w:World} {a:Addr} {fs:List (List Value)} (hx:Sl k w (.slice (some a) n cap) fs) (hk:0 < k):∀ j u,fs.flatten[j]? = some u→w.cell? (a.add j)=some u:=by
 obtain ⟨ad,cap',he,h2,h3,h4,h5,h6⟩:=hx;cases he
 intro j u hj;by_cases hne:fs=[]
 ·subst hne;simp at hj
 ·obtain ⟨b,o,he,hc⟩:=h6 hne;cases he
  have hlen:=bI h4;have hjl:j < fs.length * k:=by rw [← hlen];exact (List.getElem?_eq_some_iff.1 hj).1
  have hdm:j=(j / k) * k + j % k:=by rw [Nat.mul_comm];exact (Nat.div_add_mod j k).symm
  have hlt:j / k < fs.length:=Nat.div_lt_of_lt_mul (by rw [Nat.mul_comm];exact hjl);have hml:j % k < (fs[j / k]).length:=by rw [h4 _ (List.getElem_mem hlt)];exact Nat.mod_lt _ hk
  have hf:=kR h4 (i:=j / k) (e:=fs[j / k]) (j:=j % k) (x:=(fs[j / k])[j % k]) (List.getElem?_eq_getElem hlt) (List.getElem?_eq_getElem hml);rw [← hdm,hj] at hf;have:=hc (j / k) fs[j / k] (j % k) u (List.getElem?_eq_getElem hlt) (by rw [List.getElem?_eq_getElem hml];exact hf.symm);rw [eI];rw [Nat.add_assoc,← hdm] at this;exact this
section
variable {P:Program} {ops:Array Oper} {Q:Exit→Act→World→Prop} {w:World} {rest:List Oper} {ts:List Value} {df:List Deferred} {ty:TypeId} {ps:String} {af:Array Edge}
theorem LO {t e k B g cap m:Nat} {a:Act} {y:Operand} {z:List Value} {c:Nat} {es:List (List Value)} (hw:Own B k e w (.slice (some ⟨g,0,none⟩) es.length cap) es)
 (hy:a.eval y=.slice (some ⟨g,m * k,none⟩) (es.length - m) c) (hm:m < es.length)
 (h:∀ w',Own B k e w' (.slice (some ⟨g,0,none⟩) m cap) (es.take m)→Mv (some g) w w'→wpList P ops Q rest a w')
 (ht:nA P t e k (bytesOf P e)=true:=by decide +kernel) (hz:xD P e z=true:=by decide +kernel) (hzl:z.length=k:=by rfl) (h1:∀ u ∈ z,u.oneCell'=true:=by decide +kernel) :
 wpList P ops Q (Oper.mk none (.call ⟨.builtin .clear,#[y],#[t]⟩) ty ps af none :: rest) a w:=by
 obtain ⟨hu,inf,z',hi,hzi,hzc,hsz,hb,hk⟩:=kS ht;obtain ⟨i2,v2,hi2,hz2,hc2⟩:=rJ hz;rw [hi] at hi2;cases hi2;rw [hzi] at hz2;cases hz2;have hall:∀ f ∈ List.replicate (es.length - m) z,f.length=k:=by intro f hf;rw [List.eq_of_mem_replicate hf];exact hzl
 obtain ⟨cur,fz,hg,hfz,hnc,h3,h4,ho,hmv⟩:=hw.over (i:=m) (fs:=List.replicate (es.length - m) z) (by simp;omega) hall;have hcells:(Builtin.zeroCells z.toArray (es.length - m)).toList=(List.replicate (es.length - m) z).flatten:=by
  have:=IV (z:=z) aE (es.length - m);rw [← this];simp [Builtin.zeroCells,madeCells]
 have hst:=fD P g (m * k) e fz (List.replicate (es.length - m) z).flatten 0 cur w hg hfz aE (by
  intro u hu';obtain ⟨f,hf,hfu⟩:=List.mem_flatten.1 hu';rw [List.eq_of_mem_replicate hf] at hfu;exact h1 u hfu)
 simp only [Nat.add_zero] at hst;obtain ⟨n',hn'⟩:∃ n',es.length - m=n' + 1:=⟨es.length - m - 1,aE⟩;have hr:(Builtin.clear_ #[t] ty #[.slice (some ⟨g,m * k,none⟩) (es.length - m) c]).run P w=.ok (.tuple #[]) (w.setRow g (cur.toList.take (m * k) ++ (List.replicate (es.length - m) z).flatten ++ cur.toList.drop (m * k + (List.replicate (es.length - m) z).flatten.length)).toArray):=by
  rw [hn'] at hcells hst ⊢;simp [Builtin.clear_,run_underlying hu,zeroValue,typeInfo,hi,hzi,hc2,hcells,hst]
 have htk:(es.take m ++ List.replicate (es.length - m) z ++ es.drop (m + (List.replicate (es.length - m) z).length)).take m=es.take m:=by
  rw [List.append_assoc,List.take_append_of_le_length (by simp;omega),List.take_take,Nat.min_self]
 have hs:=ho.short (m:=m) (by simp;omega);rw [htk] at hs;refine wpList_plain rfl fun K hK => ?_;unfold Oper.wp execOp;simp only [resolve,invoke,builtin,Sem.run_bind,Sem.run_pure,Result.andThen_ok,List.map_toArray,List.map_cons,List.map_nil,hy,hr];exact hK _ _ (h _ hs hmv)
end
theorem XC {G A:Prop} (hA:A) (e:Hid A→G:=by (intro kA;(repeat' first | ((with_reducible refine cQ ?_);go_step) | ((with_reducible refine bM ?_);refine fN ?_) | fail);(with_reducible exact kA.out))):G:=e ⟨hA⟩
theorem lX {G A:Prop} (hA:A) (e:Hid A→G:=by (intro kA;(try ((with_reducible refine UQ ?_);refine UW ?_));(with_reducible exact kA.out))):G:=e ⟨hA⟩
theorem oR {G A:Prop} (hA:A) (e:Hid A→G:=by (intro kA;(try ((with_reducible refine UQ ?_);refine Cs ?_));(with_reducible exact kA.out))):G:=e ⟨hA⟩
theorem ZJ {G A:Prop} (hA:A) (e:Hid A→G:=by (intro kA;(repeat' (first | ((with_reducible refine cQ ?_);go_step) | fail));(with_reducible exact kA.out))):G:=e ⟨hA⟩
theorem mS {G A:Prop} (hA:A) (e:Hid A→G:=by (intro kA;(repeat' (first | ((with_reducible refine cQ ?_);go_step) | fail));(rename_i z0 z1;revert z0 z1;with_reducible exact kA.out))):G:=e ⟨hA⟩
theorem DF {G A:Prop} (hA:A) (e:Hid A→G:=by (intro kA;(repeat' (first | ((with_reducible refine cQ ?_);go_step) | fail));(rename_i z0 z1 z2;revert z0 z1 z2;with_reducible exact kA.out))):G:=e ⟨hA⟩
theorem bR {G A:Prop} (hA:A) (e:Hid A→G:=by (intro kA;(repeat' first | ((with_reducible refine cQ ?_);go_step) | ((with_reducible refine bM ?_);first | refine fN ?_ | (refine cV ?_ ?_ <;> intro _)) | fail);(with_reducible exact kA.out))):G:=e ⟨hA⟩
theorem lY {G A:Prop} (hA:A) (e:Hid A→G:=by (intro kA;(repeat' first | ((with_reducible refine cQ ?_);go_step) | ((with_reducible refine bM ?_);first | refine fN ?_ | (refine cV ?_ ?_ <;> intro _)) | fail);(rename_i z0;revert z0;with_reducible exact kA.out))):G:=e ⟨hA⟩
theorem DG {G A B:Prop} (hB:B) (hA:A) (e:Hid A→Hid B→G:=by (intro kA kB;(repeat' first | ((with_reducible refine cQ ?_);go_step) | ((with_reducible refine bM ?_);first | refine fN ?_ | (refine cV ?_ ?_ <;> intro _)) | fail);(rename_i z0;revert z0;with_reducible exact kA.out);(rename_i z0;revert z0;with_reducible exact kB.out))):G:=e ⟨hA⟩ ⟨hB⟩
theorem OU {G A B:Prop} (hB:B) (hA:A) (e:Hid A→Hid B→G:=by (intro kA kB;(repeat' first | ((with_reducible refine cQ ?_);go_step) | ((with_reducible refine bM ?_);first | refine fN ?_ | (refine cV ?_ ?_ <;> intro _)) | fail);(rename_i z0;revert z0;with_reducible exact kA.out);(rename_i z0 z1 z2;revert z0 z1 z2;with_reducible exact kB.out))):G:=e ⟨hA⟩ ⟨hB⟩
theorem RJ {G A B C:Prop} (hB:B) (hC:C) (hA:A) (e:Hid A→Hid B→Hid C→G:=by (intro kA kB kC;(repeat' first | ((with_reducible refine cQ ?_);go_step) | ((with_reducible refine bM ?_);first | refine fN ?_ | (refine cV ?_ ?_ <;> intro _)) | fail);(rename_i z0;revert z0;with_reducible exact kA.out);(rename_i z0 z1 z2 z3;revert z0 z1 z2 z3;with_reducible exact kB.out);(rename_i z0 z1;revert z0 z1;with_reducible exact kC.out))):G:=e ⟨hA⟩ ⟨hB⟩ ⟨hC⟩
theorem eF {G A:Prop} (hA:A) (e:Hid A→G:=by (intro kA;(repeat' first | ((with_reducible refine cQ ?_);go_step) | ((with_reducible refine bM ?_);first | refine fN ?_ | (refine cV ?_ ?_ <;> intro _)) | fail);(rename_i z0 z1;revert z0 z1;with_reducible exact kA.out))):G:=e ⟨hA⟩
theorem RK {G A B C:Prop} (hB:B) (hC:C) (hA:A) (e:Hid A→Hid B→Hid C→G:=by (intro kA kB kC;(repeat' first | ((with_reducible refine cQ ?_);go_step) | ((with_reducible refine bM ?_);first | refine fN ?_ | (refine cV ?_ ?_ <;> intro _)) | fail);(rename_i z0 z1;revert z0 z1;with_reducible exact kA.out);(rename_i z0 z1;revert z0 z1;with_reducible exact kB.out);(rename_i z0;revert z0;with_reducible exact kC.out))):G:=e ⟨hA⟩ ⟨hB⟩ ⟨hC⟩
theorem DH {G A:Prop} (hA:A) (e:Hid A→G:=by (intro kA;(repeat' first | ((with_reducible refine cQ ?_);go_step) | ((with_reducible refine bM ?_);first | refine fN ?_ | (refine cV ?_ ?_ <;> intro _)) | fail);(rename_i z0 z1 z2;revert z0 z1 z2;with_reducible exact kA.out))):G:=e ⟨hA⟩
theorem RL {G A B:Prop} (hB:B) (hA:A) (e:Hid A→Hid B→G:=by (intro kA kB;(repeat' first | ((with_reducible refine cQ ?_);go_step) | ((with_reducible refine bM ?_);first | refine fN ?_ | (refine cV ?_ ?_ <;> intro _)) | fail);(rename_i z0 z1 z2;revert z0 z1 z2;with_reducible exact kA.out);(rename_i z0;revert z0;with_reducible exact kB.out))):G:=e ⟨hA⟩ ⟨hB⟩
theorem rS {G A:Prop} (hA:A) (e:Hid A→G:=by (intro kA;(repeat' first | ((with_reducible refine cQ ?_);go_step) | ((with_reducible refine bM ?_);first | refine fN ?_ | (refine cV ?_ ?_ <;> intro _)) | fail);(rename_i z0 z1 z2 z3;revert z0 z1 z2 z3;with_reducible exact kA.out))):G:=e ⟨hA⟩
theorem RM {G A B:Prop} (hB:B) (hA:A) (e:Hid A→Hid B→G:=by (intro kA kB;(repeat' first | ((with_reducible refine cQ ?_);go_step) | ((with_reducible refine bM ?_);first | refine fN ?_ | (refine cV ?_ ?_ <;> intro _)) | fail);(rename_i z0 z1 z2 z3;revert z0 z1 z2 z3;with_reducible exact kA.out);(rename_i z0 z1;revert z0 z1;with_reducible exact kB.out))):G:=e ⟨hA⟩ ⟨hB⟩
theorem IW {G A B C:Prop} (hB:B) (hC:C) (hA:A) (e:Hid A→Hid B→Hid C→G:=by (intro kA kB kC;(repeat' first | ((with_reducible refine cQ ?_);go_step) | ((with_reducible refine bM ?_);first | refine fN ?_ | (refine cV ?_ ?_ <;> intro _)) | fail);(rename_i z0 z1 z2 z3;revert z0 z1 z2 z3;with_reducible exact kA.out);(rename_i z0 z1;revert z0 z1;with_reducible exact kB.out);(rename_i z0;revert z0;with_reducible exact kC.out))):G:=e ⟨hA⟩ ⟨hB⟩ ⟨hC⟩
theorem ZQ {G A:Prop} (hA:A) (e:Hid A→G:=by (intro kA;(repeat' first | ((with_reducible refine cQ ?_);go_step) | ((with_reducible refine bM ?_);first | refine fN ?_ | (refine cV ?_ ?_ <;> intro _)) | fail);(rename_i z0 z1 z2 z3 z4;revert z0 z1 z2 z3 z4;with_reducible exact kA.out))):G:=e ⟨hA⟩
theorem XY {G A B:Prop} (hB:B) (hA:A) (e:Hid A→Hid B→G:=by (intro kA kB;(repeat' first | ((with_reducible refine cQ ?_);go_step) | ((with_reducible refine bM ?_);first | refine fN ?_ | (refine cV ?_ ?_ <;> intro _)) | fail);(rename_i z0 z1 z2 z3 z4;revert z0 z1 z2 z3 z4;with_reducible exact kA.out);(rename_i z0 z1 z2;revert z0 z1 z2;with_reducible exact kB.out))):G:=e ⟨hA⟩ ⟨hB⟩
theorem CY {G A:Prop} (hA:A) (e:Hid A→G:=by (intro kA;(repeat' first | ((with_reducible refine cQ ?_);go_step) | ((with_reducible refine bM ?_);first | refine fN ?_ | (refine cV ?_ ?_ <;> intro _)) | fail);(rename_i z0 z1 z2 z3 z4 z5;revert z0 z1 z2 z3 z4 z5;with_reducible exact kA.out))):G:=e ⟨hA⟩
theorem aX {G A:Prop} (hA:A) (e:Hid A→G:=by (intro kA;(repeat' first | ((with_reducible refine cQ ?_);go_step) | ((with_reducible refine bM ?_);first | refine gR ?_ | (refine cV ?_ ?_ <;> intro _)) | fail);(with_reducible exact kA.out))):G:=e ⟨hA⟩
theorem jS {G A:Prop} (hA:A) (e:Hid A→G:=by (intro kA;(repeat' first | ((with_reducible refine cQ ?_);go_step) | ((with_reducible refine bM ?_);first | refine gR ?_ | (refine cV ?_ ?_ <;> intro _)) | fail);(rename_i z0;revert z0;with_reducible exact kA.out))):G:=e ⟨hA⟩
theorem tK {G A B:Prop} (hB:B) (hA:A) (e:Hid A→Hid B→G:=by (intro kA kB;(repeat' first | ((with_reducible refine cQ ?_);go_step) | ((with_reducible refine bM ?_);first | refine gR ?_ | (refine cV ?_ ?_ <;> intro _)) | fail);(rename_i z0;revert z0;with_reducible exact kA.out);(rename_i z0;revert z0;with_reducible exact kB.out))):G:=e ⟨hA⟩ ⟨hB⟩
theorem RN {G A B:Prop} (hB:B) (hA:A) (e:Hid A→Hid B→G:=by (intro kA kB;(repeat' first | ((with_reducible refine cQ ?_);go_step) | ((with_reducible refine bM ?_);first | refine gR ?_ | (refine cV ?_ ?_ <;> intro _)) | fail);(rename_i z0;revert z0;with_reducible exact kA.out);(rename_i z0 z1 z2;revert z0 z1 z2;with_reducible exact kB.out))):G:=e ⟨hA⟩ ⟨hB⟩
theorem RO {G A B C:Prop} (hB:B) (hC:C) (hA:A) (e:Hid A→Hid B→Hid C→G:=by (intro kA kB kC;(repeat' first | ((with_reducible refine cQ ?_);go_step) | ((with_reducible refine bM ?_);first | refine gR ?_ | (refine cV ?_ ?_ <;> intro _)) | fail);(rename_i z0;revert z0;with_reducible exact kA.out);(rename_i z0 z1 z2 z3;revert z0 z1 z2 z3;with_reducible exact kB.out);(rename_i z0 z1 z2 z3;revert z0 z1 z2 z3;with_reducible exact kC.out))):G:=e ⟨hA⟩ ⟨hB⟩ ⟨hC⟩
theorem cC {G A:Prop} (hA:A) (e:Hid A→G:=by (intro kA;(repeat' first | ((with_reducible refine cQ ?_);go_step) | ((with_reducible refine bM ?_);first | refine gR ?_ | (refine cV ?_ ?_ <;> intro _)) | fail);(rename_i z0 z1;revert z0 z1;with_reducible exact kA.out))):G:=e ⟨hA⟩
theorem RP {G A B:Prop} (hB:B) (hA:A) (e:Hid A→Hid B→G:=by (intro kA kB;(repeat' first | ((with_reducible refine cQ ?_);go_step) | ((with_reducible refine bM ?_);first | refine gR ?_ | (refine cV ?_ ?_ <;> intro _)) | fail);(rename_i z0 z1;revert z0 z1;with_reducible exact kA.out);(rename_i z0;revert z0;with_reducible exact kB.out))):G:=e ⟨hA⟩ ⟨hB⟩
theorem ED {G A B C:Prop} (hB:B) (hC:C) (hA:A) (e:Hid A→Hid B→Hid C→G:=by (intro kA kB kC;(repeat' first | ((with_reducible refine cQ ?_);go_step) | ((with_reducible refine bM ?_);first | refine gR ?_ | (refine cV ?_ ?_ <;> intro _)) | fail);(rename_i z0 z1;revert z0 z1;with_reducible exact kA.out);(rename_i z0 z1;revert z0 z1;with_reducible exact kB.out);(rename_i z0;revert z0;with_reducible exact kC.out))):G:=e ⟨hA⟩ ⟨hB⟩ ⟨hC⟩
theorem rI {G A:Prop} (hA:A) (e:Hid A→G:=by (intro kA;(repeat' first | ((with_reducible refine cQ ?_);go_step) | ((with_reducible refine bM ?_);first | refine gR ?_ | (refine cV ?_ ?_ <;> intro _)) | fail);(rename_i z0 z1 z2;revert z0 z1 z2;with_reducible exact kA.out))):G:=e ⟨hA⟩
theorem LP {G A B:Prop} (hB:B) (hA:A) (e:Hid A→Hid B→G:=by (intro kA kB;(repeat' first | ((with_reducible refine cQ ?_);go_step) | ((with_reducible refine bM ?_);first | refine gR ?_ | (refine cV ?_ ?_ <;> intro _)) | fail);(rename_i z0 z1 z2;revert z0 z1 z2;with_reducible exact kA.out);(rename_i z0;revert z0;with_reducible exact kB.out))):G:=e ⟨hA⟩ ⟨hB⟩
theorem rT {G A B:Prop} (hB:B) (hA:A) (e:Hid A→Hid B→G:=by (intro kA kB;(repeat' first | ((with_reducible refine cQ ?_);go_step) | ((with_reducible refine bM ?_);first | refine gR ?_ | (refine cV ?_ ?_ <;> intro _)) | fail);(rename_i z0 z1 z2;revert z0 z1 z2;with_reducible exact kA.out);(rename_i z0 z1 z2;revert z0 z1 z2;with_reducible exact kB.out))):G:=e ⟨hA⟩ ⟨hB⟩
theorem xN {G A B C D:Prop} (hB:B) (hC:C) (hD:D) (hA:A) (e:Hid A→Hid B→Hid C→Hid D→G:=by (intro kA kB kC kD;(repeat' first | ((with_reducible refine cQ ?_);go_step) | ((with_reducible refine bM ?_);first | refine gR ?_ | (refine cV ?_ ?_ <;> intro _)) | fail);(rename_i z0 z1 z2;revert z0 z1 z2;with_reducible exact kA.out);(rename_i z0 z1 z2;revert z0 z1 z2;with_reducible exact kB.out);(rename_i z0 z1;revert z0 z1;with_reducible exact kC.out);(rename_i z0;revert z0;with_reducible exact kD.out))):G:=e ⟨hA⟩ ⟨hB⟩ ⟨hC⟩ ⟨hD⟩
theorem LQ {G A B C D:Prop} (hB:B) (hC:C) (hD:D) (hA:A) (e:Hid A→Hid B→Hid C→Hid D→G:=by (intro kA kB kC kD;(repeat' first | ((with_reducible refine cQ ?_);go_step) | ((with_reducible refine bM ?_);first | refine gR ?_ | (refine cV ?_ ?_ <;> intro _)) | fail);(rename_i z0 z1 z2;revert z0 z1 z2;with_reducible exact kA.out);(rename_i z0 z1 z2 z3;revert z0 z1 z2 z3;with_reducible exact kB.out);(rename_i z0 z1 z2 z3 z4;revert z0 z1 z2 z3 z4;with_reducible exact kC.out);(rename_i z0 z1 z2 z3 z4;revert z0 z1 z2 z3 z4;with_reducible exact kD.out))):G:=e ⟨hA⟩ ⟨hB⟩ ⟨hC⟩ ⟨hD⟩
theorem qQ {G A:Prop} (hA:A) (e:Hid A→G:=by (intro kA;(repeat' first | ((with_reducible refine cQ ?_);go_step) | ((with_reducible refine bM ?_);first | refine gR ?_ | (refine cV ?_ ?_ <;> intro _)) | fail);(rename_i z0 z1 z2 z3;revert z0 z1 z2 z3;with_reducible exact kA.out))):G:=e ⟨hA⟩
theorem yP {G A B C:Prop} (hB:B) (hC:C) (hA:A) (e:Hid A→Hid B→Hid C→G:=by (intro kA kB kC;(repeat' first | ((with_reducible refine cQ ?_);go_step) | ((with_reducible refine bM ?_);first | refine gR ?_ | (refine cV ?_ ?_ <;> intro _)) | fail);(rename_i z0 z1 z2 z3;revert z0 z1 z2 z3;with_reducible exact kA.out);(rename_i z0 z1;revert z0 z1;with_reducible exact kB.out);(rename_i z0;revert z0;with_reducible exact kC.out))):G:=e ⟨hA⟩ ⟨hB⟩ ⟨hC⟩
theorem QV {G A:Prop} (hA:A) (e:Hid A→G:=by (intro kA;(repeat' first | ((with_reducible refine cQ ?_);go_step) | ((with_reducible refine bM ?_);first | refine gR ?_ | (refine cV ?_ ?_ <;> intro _)) | fail);(rename_i z0 z1 z2 z3 z4;revert z0 z1 z2 z3 z4;with_reducible exact kA.out))):G:=e ⟨hA⟩
theorem OV {G A B:Prop} (hB:B) (hA:A) (e:Hid A→Hid B→G:=by (intro kA kB;(repeat' first | ((with_reducible refine cQ ?_);go_step) | ((with_reducible refine bM ?_);first | refine gR ?_ | (refine cV ?_ ?_ <;> intro _)) | fail);(rename_i z0 z1 z2 z3 z4;revert z0 z1 z2 z3 z4;with_reducible exact kA.out);(rename_i z0 z1 z2;revert z0 z1 z2;with_reducible exact kB.out))):G:=e ⟨hA⟩ ⟨hB⟩
theorem XZ {G A B:Prop} (hB:B) (hA:A) (e:Hid A→Hid B→G:=by (intro kA kB;(repeat' first | ((with_reducible refine cQ ?_);go_step) | ((with_reducible refine bM ?_);first | refine gR ?_ | (refine cV ?_ ?_ <;> intro _)) | fail);(rename_i z0 z1 z2 z3 z4;revert z0 z1 z2 z3 z4;with_reducible exact kA.out);(rename_i z0 z1 z2 z3 z4;revert z0 z1 z2 z3 z4;with_reducible exact kB.out))):G:=e ⟨hA⟩ ⟨hB⟩
theorem DI {G A:Prop} (hA:A) (e:Hid A→G:=by (intro kA;(repeat' first | ((with_reducible refine cQ ?_);go_step) | ((with_reducible refine bM ?_);first | refine gR ?_ | (refine cV ?_ ?_ <;> intro _)) | fail);(rename_i z0 z1 z2 z3 z4 z5;revert z0 z1 z2 z3 z4 z5;with_reducible exact kA.out))):G:=e ⟨hA⟩
theorem RQ {G A B C:Prop} (hB:B) (hC:C) (hA:A) (e:Hid A→Hid B→Hid C→G:=by (intro kA kB kC;(repeat' first | ((with_reducible refine cQ ?_);go_step) | ((with_reducible refine bM ?_);first | refine gR ?_ | (refine cV ?_ ?_ <;> intro _)) | fail);(rename_i z0 z1 z2 z3 z4 z5;revert z0 z1 z2 z3 z4 z5;with_reducible exact kA.out);(rename_i z0 z1 z2 z3;revert z0 z1 z2 z3;with_reducible exact kB.out);(rename_i z0;revert z0;with_reducible exact kC.out))):G:=e ⟨hA⟩ ⟨hB⟩ ⟨hC⟩
theorem VB {G A B:Prop} (hB:B) (hA:A) (e:Hid A→Hid B→G:=by (intro kA kB;(repeat' first | ((with_reducible refine cQ ?_);go_step) | ((with_reducible refine bM ?_);first | refine gR ?_ | (refine cV ?_ ?_ <;> intro _)) | fail);(rename_i z0 z1 z2 z3 z4 z5;revert z0 z1 z2 z3 z4 z5;with_reducible exact kA.out);(rename_i z0 z1 z2 z3 z4;revert z0 z1 z2 z3 z4;with_reducible exact kB.out))):G:=e ⟨hA⟩ ⟨hB⟩
theorem Bc {G A:Prop} (hA:A) (e:Hid A→G:=by (intro kA;(repeat' first | ((with_reducible refine cQ ?_);go_step) | ((with_reducible refine bM ?_);first | refine gR ?_ | (refine cV ?_ ?_ <;> intro _)) | fail);(rename_i z0 z1 z2 z3 z4 z5 z6;revert z0 z1 z2 z3 z4 z5 z6;with_reducible exact kA.out))):G:=e ⟨hA⟩
section
variable {P:Program} {ops:Array Oper} {Q:Exit→Act→World→Prop} {w:World} {rest:List Oper} {ts:List Value} {df:List Deferred} {d:Nat} {ty:TypeId} {ps:String} {af:Array Edge} {g:Option (Nat × Bool)} {tys:Array TypeId} {f:FuncId} {xs:List Operand} {vs:List Value}
theorem wZ {R:Ending→World→Prop} (hc:Calls P f vs.toArray w R) (h:∀ e w',R e w'→∃ v,e=.returned v∧wpList P ops Q rest (Act.mk (ts.set d v).toArray df) w')
 (he:Enters P f:=by exact enters_of rfl rfl rfl) (hw:Region.wanted (Oper.mk (some d) (.call ⟨.value (.func f),xs.toArray,tys⟩) ty ps af g) (yielded ops ts.toArray)=true:=by rfl) (hxs:xs.map (Act.mk ts.toArray df).eval=vs:=by rfl) :
 wpList P ops Q (Oper.mk (some d) (.call ⟨.value (.func f),xs.toArray,tys⟩) ty ps af g :: rest) (Act.mk ts.toArray df) w:=cP he hw hxs hc h
theorem VC {R:Ending→World→Prop} {v:Value} {A G:World→Prop} (hc:Calls P f vs.toArray w R) (h:∀ w',A w'→G w')
 (he:Enters P f:=by exact enters_of rfl rfl rfl) (hw:Region.wanted (Oper.mk (some d) (.call ⟨.value (.func f),xs.toArray,tys⟩) ty ps af g) (yielded ops ts.toArray)=true:=by rfl) (hxs:xs.map (Act.mk ts.toArray df).eval=vs:=by rfl)
 (hR:(∀ e w',R e w'→e=.returned v∧A w')∧∀ w',wpList P ops Q rest (Act.mk (ts.set d v).toArray df) w'=G w':=by (refine ⟨?_,?_⟩;(rintro _ _ ⟨rfl,h1⟩;exact ⟨rfl,h1⟩);(intro w';(simp only [List.set_cons_succ,List.set_cons_zero,List.getD_cons_succ,List.getD_cons_zero,List.length_map,if_true,Bool.false_eq_true,if_false,Int.toNat_natCast,Int.toNat_zero,Int.toNat_one,Nat.zero_mul,Bool.not_true,Bool.not_false,decide_true,decide_false]);(with_reducible exact rfl)))) :
 wpList P ops Q (Oper.mk (some d) (.call ⟨.value (.func f),xs.toArray,tys⟩) ty ps af g :: rest) (Act.mk ts.toArray df) w :=
 cP he hw hxs hc fun e w' h'=>by
  obtain ⟨h0,h1⟩:=hR.1 e w' h';exact ⟨v,h0,(hR.2 w').mpr (h w' h1)⟩
theorem bK {R:Ending→World→Prop} {v:Value} {A B G:World→Prop} (hc:Calls P f vs.toArray w R) (h:∀ w',A w'→B w'→G w')
 (he:Enters P f:=by exact enters_of rfl rfl rfl) (hw:Region.wanted (Oper.mk (some d) (.call ⟨.value (.func f),xs.toArray,tys⟩) ty ps af g) (yielded ops ts.toArray)=true:=by rfl) (hxs:xs.map (Act.mk ts.toArray df).eval=vs:=by rfl)
 (hR:(∀ e w',R e w'→e=.returned v∧A w'∧B w')∧∀ w',wpList P ops Q rest (Act.mk (ts.set d v).toArray df) w'=G w':=by (refine ⟨?_,?_⟩;(rintro _ _ ⟨rfl,h1,h2⟩;exact ⟨rfl,h1,h2⟩);(intro w';(simp only [List.set_cons_succ,List.set_cons_zero,List.getD_cons_succ,List.getD_cons_zero,List.length_map,if_true,Bool.false_eq_true,if_false,Int.toNat_natCast,Int.toNat_zero,Int.toNat_one,Nat.zero_mul,Bool.not_true,Bool.not_false,decide_true,decide_false]);(with_reducible exact rfl)))) :
 wpList P ops Q (Oper.mk (some d) (.call ⟨.value (.func f),xs.toArray,tys⟩) ty ps af g :: rest) (Act.mk ts.toArray df) w :=
 cP he hw hxs hc fun e w' h'=>by
  obtain ⟨h0,h1,h2⟩:=hR.1 e w' h';exact ⟨v,h0,(hR.2 w').mpr (h w' h1 h2)⟩
theorem pS {v:Value} (hc:Calls P f vs.toArray w (bC w v)) (h:∀ w',Ext w w'→wpList P ops Q rest (Act.mk (ts.set d v).toArray df) w')
 (he:Enters P f:=by exact enters_of rfl rfl rfl) (hw:Region.wanted (Oper.mk (some d) (.call ⟨.value (.func f),xs.toArray,tys⟩) ty ps af g) (yielded ops ts.toArray)=true:=by rfl) (hxs:xs.map (Act.mk ts.toArray df).eval=vs:=by rfl) :
 wpList P ops Q (Oper.mk (some d) (.call ⟨.value (.func f),xs.toArray,tys⟩) ty ps af g :: rest) (Act.mk ts.toArray df) w:=dL he hw hxs hc h
theorem cY {v:Value} {G:World→Prop} (hc:Calls P f vs.toArray w (bC w v)) (h:∀ w',Ext w w'→G w')
 (he:Enters P f:=by exact enters_of rfl rfl rfl) (hw:Region.wanted (Oper.mk (some d) (.call ⟨.value (.func f),xs.toArray,tys⟩) ty ps af g) (yielded ops ts.toArray)=true:=by rfl) (hxs:xs.map (Act.mk ts.toArray df).eval=vs:=by rfl)
 (e:∀ w',wpList P ops Q rest (Act.mk (ts.set d v).toArray df) w'=G w':=by (intro w';(simp only [List.set_cons_succ,List.set_cons_zero,List.getD_cons_succ,List.getD_cons_zero,List.length_map,if_true,Bool.false_eq_true,if_false,Int.toNat_natCast,Int.toNat_zero,Int.toNat_one,Nat.zero_mul,Bool.not_true,Bool.not_false,decide_true,decide_false]);(with_reducible exact rfl))) :
 wpList P ops Q (Oper.mk (some d) (.call ⟨.value (.func f),xs.toArray,tys⟩) ty ps af g :: rest) (Act.mk ts.toArray df) w:=dL he hw hxs hc fun w' x=>(e w').mpr (h w' x)
theorem gE {R:Value→World→Prop} (hc:Calls P f vs.toArray w (oQ w R)) (h:∀ v w',Ext w w'→R v w'→wpList P ops Q rest (Act.mk (ts.set d v).toArray df) w')
 (he:Enters P f:=by exact enters_of rfl rfl rfl) (hw:Region.wanted (Oper.mk (some d) (.call ⟨.value (.func f),xs.toArray,tys⟩) ty ps af g) (yielded ops ts.toArray)=true:=by rfl) (hxs:xs.map (Act.mk ts.toArray df).eval=vs:=by rfl) :
 wpList P ops Q (Oper.mk (some d) (.call ⟨.value (.func f),xs.toArray,tys⟩) ty ps af g :: rest) (Act.mk ts.toArray df) w:=mR he hw hxs hc h
theorem EF {R:Value→World→Prop} {G:Value→World→Prop} (hc:Calls P f vs.toArray w (oQ w R)) (h:∀ v w',Ext w w'→R v w'→G v w')
 (he:Enters P f:=by exact enters_of rfl rfl rfl) (hw:Region.wanted (Oper.mk (some d) (.call ⟨.value (.func f),xs.toArray,tys⟩) ty ps af g) (yielded ops ts.toArray)=true:=by rfl) (hxs:xs.map (Act.mk ts.toArray df).eval=vs:=by rfl)
 (e:∀ v w',wpList P ops Q rest (Act.mk (ts.set d v).toArray df) w'=G v w':=by (intro v w';(simp only [List.set_cons_succ,List.set_cons_zero,List.getD_cons_succ,List.getD_cons_zero,List.length_map,if_true,Bool.false_eq_true,if_false,Int.toNat_natCast,Int.toNat_zero,Int.toNat_one,Nat.zero_mul,Bool.not_true,Bool.not_false,decide_true,decide_false]);(with_reducible exact rfl))) :
 wpList P ops Q (Oper.mk (some d) (.call ⟨.value (.func f),xs.toArray,tys⟩) ty ps af g :: rest) (Act.mk ts.toArray df) w:=mR he hw hxs hc fun v w' x r=>(e v w').mpr (h v w' x r)
theorem fO {t:TypeId} {z:List Value} (h:∀ w',Ext w w'→w'.heap.size=w.heap.size + 1→w'.heap[w.heap.size]? = some (.cells z.toArray t (0,0))→wpList P ops Q rest (Act.mk (ts.set d (.pointer (some ⟨w.heap.size,0,none⟩))).toArray df) w')
 (hw:Region.wanted (Oper.mk (some d) (.alloc t) ty ps af g) (yielded ops ts.toArray)=true:=by rfl) (hz:xD P t z=true:=by decide +kernel) :
 wpList P ops Q (Oper.mk (some d) (.alloc t) ty ps af g :: rest) (Act.mk ts.toArray df) w:=LH hw hz h
theorem kN {t:TypeId} {x:Operand} {vs:List Value} (h:∀ p w',Ext w w'→Pts w' p vs→wpList P ops Q rest (Act.mk (ts.set d p).toArray df) w')
 (hw:Region.wanted (Oper.mk (some d) (.box t x) ty ps af g) (yielded ops ts.toArray)=true:=by rfl) (hx:((Act.mk ts.toArray df).eval x).cells=vs.toArray:=by rfl):wpList P ops Q (Oper.mk (some d) (.box t x) ty ps af g :: rest) (Act.mk ts.toArray df) w:=UT hw hx h
theorem zV {t:TypeId} {x:Operand} {vs:List Value} (h:∀ w',Ext w w'→w'.heap.size=w.heap.size + 1→w'.heap[w.heap.size]? = some (.cells vs.toArray t (0,0))→wpList P ops Q rest (Act.mk (ts.set d (.pointer (some ⟨w.heap.size,0,none⟩))).toArray df) w')
 (hw:Region.wanted (Oper.mk (some d) (.box t x) ty ps af g) (yielded ops ts.toArray)=true:=by rfl) (hx:((Act.mk ts.toArray df).eval x).cells=vs.toArray:=by rfl):wpList P ops Q (Oper.mk (some d) (.box t x) ty ps af g :: rest) (Act.mk ts.toArray df) w:=QW hw hx h
theorem dS {t ty:TypeId} {x y:Operand} {b:Nat} {old:Array Value} {v:Value} {ty2:TypeId} (hb:w.heap[b]? = some (.cells old t (0,0))) (h1:v.cells.all (·.oneCell')=true)
 (h:∀ w',Put w w' b (.cells v.cells t (0,0))→wpList P ops Q rest (Act.mk ts.toArray df) w') (hw:Region.wanted (Oper.mk none (.store ty x y) ty2 ps af g) (yielded ops ts.toArray)=true:=by rfl)
 (hh:(Act.mk ts.toArray df).eval x=.pointer (some ⟨b,0,none⟩)∧(Act.mk ts.toArray df).eval y=v∧old.size=v.cells.size∧gL P ty v.cells.size=true:=by (refine ⟨rfl,rfl,rfl,?_⟩;kernel_rfl)) :
 wpList P ops Q (Oper.mk none (.store ty x y) ty2 ps af g :: rest) (Act.mk ts.toArray df) w:=iQ hw hh.1 hh.2.1 hb hh.2.2.2 hh.2.2.1 h1 h
theorem eS (n:Nat) {t ty:TypeId} {x y:Operand} {b:Nat} {cs:List Value} (v:Value) {ty2:TypeId} (hb:w.heap[b]? = some (.cells cs.toArray t (0,0))) (h1:v.oneCell'=true)
 (h:∀ w',Put w w' b (.cells (cs.set n v).toArray t (0,0))→wpList P ops Q rest (Act.mk ts.toArray df) w') (hw:Region.wanted (Oper.mk none (.store ty x y) ty2 ps af g) (yielded ops ts.toArray)=true:=by rfl)
 (hh:(Act.mk ts.toArray df).eval x=dZ (.pointer (some ⟨b,0,none⟩)) n∧(Act.mk ts.toArray df).eval y=v∧n < cs.length∧gL P ty 1=true:=by (refine ⟨rfl,rfl,of_decide_eq_true rfl,?_⟩;decide +kernel)) :
 wpList P ops Q (Oper.mk none (.store ty x y) ty2 ps af g :: rest) (Act.mk ts.toArray df) w:=fE hb hw hh.1 hh.2.1 hh.2.2.1 hh.2.2.2 h1 h
theorem nG {t e k d n bytes:Nat} {xs:List Value} {parts:List (Nat × Operand)} (hc:∀ x ∈ xs,x.cells.size=k)
 (h:∀ v' w',Ext w w'→w'.heap.size=w.heap.size + 1→Sl k w' v' (xs.map (·.cells.toList))→Own w.heap.size k e w' v' (xs.map (·.cells.toList))→wpList P ops Q rest (Act.mk (ts.set d v').toArray df) w')
 (hw:Region.wanted (Oper.mk (some d) (.buildSlice t n parts.toArray) ty ps af g) (yielded ops ts.toArray)=true:=by rfl)
 (hx:parts.map (fun p=>(p.1,(Act.mk ts.toArray df).eval p.2))=(xs.zipIdx 0).map fun p=>(p.2,p.1):=by rfl) (hn:n=xs.length:=by rfl) (ht:nA P t e k bytes=true:=by decide +kernel) (hk2:xs.length * k≤16777216:=by simp) :
 wpList P ops Q (Oper.mk (some d) (.buildSlice t n parts.toArray) ty ps af g :: rest) (Act.mk ts.toArray df) w:=oV hw hx hn hc ht hk2 h
end
section
variable {P:Program} {Q:Exit→Act→World→Prop} {w:World} {k:Nat} {F:World→Prop} {l:List Oper} {ts:List Value} {df:List Deferred} {d:Nat} {ty:TypeId} {ps:String} {af:Array Edge} {g:Option (Nat × Bool)} {listed:List Bool} {fuel fuel2:Nat}
theorem uG {i:Nat} {op:Op} {v:Value} (hi:l[i]? = some (Oper.mk (some d) op ty ps af g)) (hfu:fuel2=fuel + 1) (hy:∀ w',F w'→Runs P (Oper.mk (some d) op ty ps af g) (Act.mk ts.toArray df) w' v)
 (h:wY P Q k F l fuel (listed.set i true) (Act.mk (ts.set d v).toArray df) w) (hik:decide (i≠k)=true:=by decide +kernel) (hk:vH .any l.toArray l.length k i=true:=by decide +kernel) (hs:Region.noSelect l.toArray=true:=by decide +kernel) (hf:Region.free .any l.toArray listed.toArray i=true:=by decide +kernel) (hr:(Region.ready .any l.toArray listed.toArray).contains i=true:=by decide +kernel)
 (hw:Region.wanted (Oper.mk (some d) op ty ps af g) (yielded l.toArray ts.toArray)=true:=by rfl) (hQ:∀ c a w,Q (.panic c) (a.put (some d) v) w→Q (.panic c) a w:=by exact fun _ _ _ h=>h) :
 wY P Q k F l fuel2 listed (Act.mk ts.toArray df) w:=cJ hi hfu hik hk hs hf hr hw hy hQ h
theorem IX {i:Nat} {op:Op} {v:Value} (hi:l[i]? = some (Oper.mk (some d) op ty ps af g)) (hfu:fuel2=fuel + 1) (hy:∀ w',Runs P (Oper.mk (some d) op ty ps af g) (Act.mk ts.toArray df) w' v)
 (h:wY P Q k F l fuel (listed.set i true) (Act.mk (ts.set d v).toArray df) w) (hik:decide (i≠k)=true:=by rfl) (hs:Region.noSelect l.toArray=true:=by decide +kernel) (hf:Region.free .any l.toArray listed.toArray i=true:=by decide +kernel) (hr:(Region.ready .any l.toArray listed.toArray).contains i=true:=by decide +kernel)
 (hw:Region.wanted (Oper.mk (some d) op ty ps af g) (yielded l.toArray ts.toArray)=true:=by rfl) (hQ:∀ c a w,Q (.panic c) (a.put (some d) v) w→Q (.panic c) a w:=by exact fun _ _ _ h=>h) :
 wY P Q k F l fuel2 listed (Act.mk ts.toArray df) w:=jJ hi hfu hik hs hf hr hw hy hQ h
theorem fR (i:Nat) {o:Oper} {a:Act} (h:wpList P l.toArray (qP Q fun a' w'=>Till k F (listed.set i true).toArray w'∧wY P Q k F l fuel (listed.set i true) a' w') [o] a w)
 (hr:Region.ready .any l.toArray listed.toArray=[i]:=by decide +kernel) (hh:l[i]? = some o∧fuel2=fuel + 1:=by exact ⟨rfl,rfl⟩):wY P Q k F l fuel2 listed a w:=XU hr hh.1 hh.2 h
theorem qR {a:Act} (h:Q .normal a w) (hr:Region.ready .any l.toArray listed.toArray=[]:=by decide +kernel):wY P Q k F l fuel listed a w:=RG hr h
end
section
variable {P:Program} {fn:Func} {R:Ending→World→Prop} {ts:List Value} {w:World} {p q:Tmp} {t:TypeId} {b:Nat} {ty0:TypeId} {fr:Nat × Nat}
theorem xB {cs:List Value} (hb:w.heap[b]? = some (.cells cs.toArray ty0 fr)) (hR:R (.returned (.agg cs.toArray)) w) (hh:fn.results=#[.cell p t]∧ts.getD p undef=.pointer (some ⟨b,0,none⟩)∧qN P t cs.length=true:=by (refine ⟨rfl,rfl,?_⟩;kernel_rfl)) :
 bodyPost P fn R .ret (Act.mk ts.toArray []) w:=bodyPost_ret (tN hh.1 hh.2.1 hb hh.2.2) rfl hR
theorem nH {cs:List Value} (hb:w.heap[b]? = some (.cells cs.toArray ty0 fr)) (hR:R (.returned (.tuple #[.agg cs.toArray,ts.getD q undef])) w) (hh:fn.results=#[.cell p t, .tmp q]∧ts.getD p undef=.pointer (some ⟨b,0,none⟩)∧qN P t cs.length=true:=by (refine ⟨rfl,rfl,?_⟩;kernel_rfl)) :
 bodyPost P fn R .ret (Act.mk ts.toArray []) w:=bodyPost_ret (DC hh.1 hh.2.1 hb hh.2.2) rfl hR
end
theorem cH {a b c:World} {k:Nat} {o:Obj} (h:Ext a b) (p:Put b c k o) (hk:a.heap.size≤k:=by (first | exact Nat.le_refl _ | assumption | exact Ext.size (by assumption) | omega)):Ext a c :=
 h.move p.mv (by rintro k ⟨⟩;exact hk)
end Go.Proofs.X
