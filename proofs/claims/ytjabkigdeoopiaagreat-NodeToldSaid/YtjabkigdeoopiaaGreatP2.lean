/- Laws and walks that the proof of the statement is made of (part 2). -/
import Derived.Test.YtjabkigdeoopiaaGreatP1
set_option linter.unusedSimpArgs false
set_option linter.unusedVariables false
set_option maxRecDepth 100000
namespace Go.Proofs.X
open Go.RowKit
theorem rQ {k:Nat}:∀ (es:List (List Value)) (i:Nat),(∀ x ∈ es,x.length=k)→(es.take i).flatten=es.flatten.take (i * k)
 | [],i,_=>by simp
 | x :: es,0,_=>by simp
 | x :: es,i + 1,h=>by
   have hx:=h x (by simp)
   have ih:=rQ es i (fun y hy=>h y (by simp [hy]))
   rw [List.take_succ_cons,List.flatten_cons,List.flatten_cons,ih,show (i + 1) * k=x.length + i * k by rw [hx,Nat.add_mul];omega,List.take_length_add_append]
theorem nG {k:Nat}:∀ (es:List (List Value)) (i:Nat),(∀ x ∈ es,x.length=k)→(es.drop i).flatten=es.flatten.drop (i * k)
 | [],i,_=>by simp
 | x :: es,0,_=>by simp
 | x :: es,i + 1,h=>by
   have hx:=h x (by simp)
   have ih:=nG es i (fun y hy=>h y (by simp [hy]))
   rw [List.drop_succ_cons,List.flatten_cons,ih,show (i + 1) * k=x.length + i * k by rw [hx,Nat.add_mul];omega,List.drop_length_add_append]
theorem JE {α:Type} (c F:List α) (a n:Nat) (h:a + F.length≤n) (hn:n≤c.length):(c.take a ++ F ++ c.drop (a + F.length)).take n=(c.take n).take a ++ F ++ (c.take n).drop (a + F.length):=by
 have hA:(c.take a ++ F).length=a + F.length:=by simp;omega
 rw [List.take_append,hA,List.take_of_length_le (by omega),List.take_take,Nat.min_eq_left (by omega),List.drop_take]
theorem Own.over {B k e g cap i:Nat} {w:World} {es fs:List (List Value)} (h:Own B k e w (.slice (some ⟨g,0,none⟩) es.length cap) es) (hi:i + fs.length≤es.length) (hf:∀ f ∈ fs,f.length=k) :
 ∃ cur fz,w.heap[g]? = some (.cells cur e fz)∧(fz.2≤fz.1∨cur.size≤fz.1)∧es.length≤cap∧i * k + fs.flatten.length≤es.length * k∧es.length * k≤cur.size ∧
   Own B k e (w.setRow g (cur.toList.take (i * k) ++ fs.flatten ++ cur.toList.drop (i * k + fs.flatten.length)).toArray) (.slice (some ⟨g,0,none⟩) es.length cap) (es.take i ++ fs ++ es.drop (i + fs.length)) ∧
   Mv (some g) w (w.setRow g (cur.toList.take (i * k) ++ fs.flatten ++ cur.toList.drop (i * k + fs.flatten.length)).toArray):=by
 rcases h.row.2 with ⟨h0,_⟩ | ⟨g',cap',cur,fz,hv,hb,hg,hfz,hnc,hcm,hcs,htake⟩
 ·cases h0
 ·simp only [Value.slice.injEq,Option.some.injEq,Addr.mk.injEq,and_true,true_and] at hv
  obtain ⟨rfl,rfl⟩:=hv
  have hall:=h.each
  have hfl:=bD hf
  have hil:i * k + fs.length * k≤es.length * k:=by rw [← Nat.add_mul];exact Nat.mul_le_mul_right k hi
  have hck:es.length * k≤cap * k:=Nat.mul_le_mul_right k hnc
  have hlen:(es.take i ++ fs ++ es.drop (i + fs.length)).length=es.length:=by simp;omega
  have hall2:∀ x ∈ es.take i ++ fs ++ es.drop (i + fs.length),x.length=k:=by
   intro x hx
   rcases List.mem_append.1 hx with hx | hx
   ·rcases List.mem_append.1 hx with hx | hx
    ·exact hall x (List.mem_of_mem_take hx)
    ·exact hf x hx
   ·exact hall x (List.mem_of_mem_drop hx)
  have hsz:(cur.toList.take (i * k) ++ fs.flatten ++ cur.toList.drop (i * k + fs.flatten.length)).length=cur.size:=by
   rw [List.length_append,List.length_append,List.length_take,List.length_drop,Array.length_toList,hfl,hcs];omega
  refine ⟨cur,fz,hg,hfz,hnc,by rw [hfl];exact hil,by rw [hcs];exact hck,⟨⟨?_, .inr ⟨g,cap,(cur.toList.take (i * k) ++ fs.flatten ++ cur.toList.drop (i * k + fs.flatten.length)).toArray,fz,?_,hb,setRow_heap w g cur _ e _ hg,?_,?_,hcm,?_,?_⟩⟩,hall2⟩,⟨rfl,rfl,rfl,by simp,fun k _ hk=>setRow_other w g k _ (fun e=>hk (by simp [e])),Nat.le_refl _⟩⟩
  ·rw [bD hall2]
  ·rw [hlen]
  ·rw [List.size_toArray,hsz];exact hfz
  ·rw [hlen];exact hnc
  ·rw [List.size_toArray,hsz];exact hcs
  ·rw [hlen,List.flatten_append,List.flatten_append,rQ es i hall,nG es _ hall,← htake,List.toList_toArray]
   have e1:(i + fs.length) * k=i * k + fs.flatten.length:=by rw [hfl,Nat.add_mul]
   rw [e1]
   have hcl:cur.toList.length=cap * k:=by rw [← hcs];exact Array.length_toList
   exact JE _ _ _ _ (by rw [hfl];exact hil) (by rw [hcl];exact hck)
section
variable {P:Program} {ops:Array Oper} {Q:Exit→Act→World→Prop} {w:World} {rest:List Oper} {ts:List Value} {df:List Deferred} {ty:TypeId} {ps:String} {af:Array Edge}
end
section
variable {P:Program} {a:Act} {w:World} {d:Option Nat} {ty:TypeId} {ps:String} {af:Array Edge} {g:Option (Nat × Bool)}
end
theorem Sl.news {k n cap:Nat} {w:World} {a:Addr} {fs:List (List Value)} (hx:Sl k w (.slice (some a) n cap) fs) (hk:0 < k):∀ j u,fs.flatten[j]? = some u→w.cell? (a.add j)=some u:=by
 obtain ⟨ad,cap',he,h2,h3,h4,h5,h6⟩:=hx
 cases he
 intro j u hj
 by_cases hne:fs=[]
 ·subst hne;simp at hj
 ·obtain ⟨b,o,he,hc⟩:=h6 hne
  cases he
  have hlen:=bD h4
  have hjl:j < fs.length * k:=by rw [← hlen];exact (List.getElem?_eq_some_iff.1 hj).1
  have hdm:j=(j / k) * k + j % k:=by rw [Nat.mul_comm];exact (Nat.div_add_mod j k).symm
  have hlt:j / k < fs.length:=Nat.div_lt_of_lt_mul (by rw [Nat.mul_comm];exact hjl)
  have hml:j % k < (fs[j / k]).length:=by rw [h4 _ (List.getElem_mem hlt)];exact Nat.mod_lt _ hk
  have hf:=iQ h4 (i:=j / k) (e:=fs[j / k]) (j:=j % k) (x:=(fs[j / k])[j % k]) (List.getElem?_eq_getElem hlt) (List.getElem?_eq_getElem hml)
  rw [← hdm,hj] at hf
  have:=hc (j / k) fs[j / k] (j % k) u (List.getElem?_eq_getElem hlt) (by rw [List.getElem?_eq_getElem hml];exact hf.symm)
  rw [dB]
  rw [Nat.add_assoc,← hdm] at this
  exact this
section
variable {P:Program} {ops:Array Oper} {Q:Exit→Act→World→Prop} {w:World} {rest:List Oper} {ts:List Value} {df:List Deferred} {ty:TypeId} {ps:String} {af:Array Edge}
end
theorem RF {G A:Prop} (hA:A) (e:Hid A→G:=by (intro kA;(repeat' first | ((with_reducible refine eN ?_);go_step) | ((with_reducible refine cB ?_);refine qO ?_) | fail);(with_reducible exact kA.out))):G:=e ⟨hA⟩
theorem vF {G A:Prop} (hA:A) (e:Hid A→G:=by (intro kA;(try ((with_reducible refine XW ?_);refine XX ?_));(with_reducible exact kA.out))):G:=e ⟨hA⟩
theorem SI {G A:Prop} (hA:A) (e:Hid A→G:=by (intro kA;(repeat' (first | ((with_reducible refine eN ?_);go_step) | fail));(with_reducible exact kA.out))):G:=e ⟨hA⟩
theorem lQ {G A:Prop} (hA:A) (e:Hid A→G:=by (intro kA;(repeat' (first | ((with_reducible refine eN ?_);go_step) | fail));(rename_i z0 z1;revert z0 z1;with_reducible exact kA.out))):G:=e ⟨hA⟩
theorem yQ {G A:Prop} (hA:A) (e:Hid A→G:=by (intro kA;(repeat' (first | ((with_reducible refine eN ?_);go_step) | fail));(rename_i z0 z1 z2;revert z0 z1 z2;with_reducible exact kA.out))):G:=e ⟨hA⟩
theorem eA {G A:Prop} (hA:A) (e:Hid A→G:=by (intro kA;(repeat' first | ((with_reducible refine eN ?_);go_step) | ((with_reducible refine cB ?_);first | refine qO ?_ | (refine fA ?_ ?_ <;> intro _)) | fail);(with_reducible exact kA.out))):G:=e ⟨hA⟩
theorem HU {G A:Prop} (hA:A) (e:Hid A→G:=by (intro kA;(repeat' first | ((with_reducible refine eN ?_);go_step) | ((with_reducible refine cB ?_);first | refine qO ?_ | (refine fA ?_ ?_ <;> intro _)) | fail);(rename_i z0;revert z0;with_reducible exact kA.out))):G:=e ⟨hA⟩
theorem OQ {G A B:Prop} (hB:B) (hA:A) (e:Hid A→Hid B→G:=by (intro kA kB;(repeat' first | ((with_reducible refine eN ?_);go_step) | ((with_reducible refine cB ?_);first | refine qO ?_ | (refine fA ?_ ?_ <;> intro _)) | fail);(rename_i z0;revert z0;with_reducible exact kA.out);(rename_i z0;revert z0;with_reducible exact kB.out))):G:=e ⟨hA⟩ ⟨hB⟩
theorem LO {G A B:Prop} (hB:B) (hA:A) (e:Hid A→Hid B→G:=by (intro kA kB;(repeat' first | ((with_reducible refine eN ?_);go_step) | ((with_reducible refine cB ?_);first | refine qO ?_ | (refine fA ?_ ?_ <;> intro _)) | fail);(rename_i z0;revert z0;with_reducible exact kA.out);(rename_i z0 z1 z2;revert z0 z1 z2;with_reducible exact kB.out))):G:=e ⟨hA⟩ ⟨hB⟩
theorem RG {G A B C:Prop} (hB:B) (hC:C) (hA:A) (e:Hid A→Hid B→Hid C→G:=by (intro kA kB kC;(repeat' first | ((with_reducible refine eN ?_);go_step) | ((with_reducible refine cB ?_);first | refine qO ?_ | (refine fA ?_ ?_ <;> intro _)) | fail);(rename_i z0;revert z0;with_reducible exact kA.out);(rename_i z0 z1 z2 z3;revert z0 z1 z2 z3;with_reducible exact kB.out);(rename_i z0 z1;revert z0 z1;with_reducible exact kC.out))):G:=e ⟨hA⟩ ⟨hB⟩ ⟨hC⟩
theorem jJ {G A:Prop} (hA:A) (e:Hid A→G:=by (intro kA;(repeat' first | ((with_reducible refine eN ?_);go_step) | ((with_reducible refine cB ?_);first | refine qO ?_ | (refine fA ?_ ?_ <;> intro _)) | fail);(rename_i z0 z1;revert z0 z1;with_reducible exact kA.out))):G:=e ⟨hA⟩
theorem UI {G A B C:Prop} (hB:B) (hC:C) (hA:A) (e:Hid A→Hid B→Hid C→G:=by (intro kA kB kC;(repeat' first | ((with_reducible refine eN ?_);go_step) | ((with_reducible refine cB ?_);first | refine qO ?_ | (refine fA ?_ ?_ <;> intro _)) | fail);(rename_i z0 z1;revert z0 z1;with_reducible exact kA.out);(rename_i z0 z1;revert z0 z1;with_reducible exact kB.out);(rename_i z0;revert z0;with_reducible exact kC.out))):G:=e ⟨hA⟩ ⟨hB⟩ ⟨hC⟩
theorem SJ {G A:Prop} (hA:A) (e:Hid A→G:=by (intro kA;(repeat' first | ((with_reducible refine eN ?_);go_step) | ((with_reducible refine cB ?_);first | refine qO ?_ | (refine fA ?_ ?_ <;> intro _)) | fail);(rename_i z0 z1 z2;revert z0 z1 z2;with_reducible exact kA.out))):G:=e ⟨hA⟩
theorem WM {G A B:Prop} (hB:B) (hA:A) (e:Hid A→Hid B→G:=by (intro kA kB;(repeat' first | ((with_reducible refine eN ?_);go_step) | ((with_reducible refine cB ?_);first | refine qO ?_ | (refine fA ?_ ?_ <;> intro _)) | fail);(rename_i z0 z1 z2;revert z0 z1 z2;with_reducible exact kA.out);(rename_i z0;revert z0;with_reducible exact kB.out))):G:=e ⟨hA⟩ ⟨hB⟩
theorem FS {G A:Prop} (hA:A) (e:Hid A→G:=by (intro kA;(repeat' first | ((with_reducible refine eN ?_);go_step) | ((with_reducible refine cB ?_);first | refine qO ?_ | (refine fA ?_ ?_ <;> intro _)) | fail);(rename_i z0 z1 z2 z3;revert z0 z1 z2 z3;with_reducible exact kA.out))):G:=e ⟨hA⟩
theorem OR {G A B:Prop} (hB:B) (hA:A) (e:Hid A→Hid B→G:=by (intro kA kB;(repeat' first | ((with_reducible refine eN ?_);go_step) | ((with_reducible refine cB ?_);first | refine qO ?_ | (refine fA ?_ ?_ <;> intro _)) | fail);(rename_i z0 z1 z2 z3;revert z0 z1 z2 z3;with_reducible exact kA.out);(rename_i z0 z1;revert z0 z1;with_reducible exact kB.out))):G:=e ⟨hA⟩ ⟨hB⟩
theorem XC {G A:Prop} (hA:A) (e:Hid A→G:=by (intro kA;(repeat' first | ((with_reducible refine eN ?_);go_step) | ((with_reducible refine cB ?_);first | refine qO ?_ | (refine fA ?_ ?_ <;> intro _)) | fail);(rename_i z0 z1 z2 z3 z4;revert z0 z1 z2 z3 z4;with_reducible exact kA.out))):G:=e ⟨hA⟩
theorem WN {G A B:Prop} (hB:B) (hA:A) (e:Hid A→Hid B→G:=by (intro kA kB;(repeat' first | ((with_reducible refine eN ?_);go_step) | ((with_reducible refine cB ?_);first | refine qO ?_ | (refine fA ?_ ?_ <;> intro _)) | fail);(rename_i z0 z1 z2 z3 z4;revert z0 z1 z2 z3 z4;with_reducible exact kA.out);(rename_i z0 z1 z2;revert z0 z1 z2;with_reducible exact kB.out))):G:=e ⟨hA⟩ ⟨hB⟩
theorem OT {G A:Prop} (hA:A) (e:Hid A→G:=by (intro kA;(repeat' first | ((with_reducible refine eN ?_);go_step) | ((with_reducible refine cB ?_);first | refine qO ?_ | (refine fA ?_ ?_ <;> intro _)) | fail);(rename_i z0 z1 z2 z3 z4 z5;revert z0 z1 z2 z3 z4 z5;with_reducible exact kA.out))):G:=e ⟨hA⟩
theorem aL {G A:Prop} (hA:A) (e:Hid A→G:=by (intro kA;(repeat' first | ((with_reducible refine eN ?_);go_step) | ((with_reducible refine cB ?_);first | refine iF ?_ | (refine fA ?_ ?_ <;> intro _)) | fail);(with_reducible exact kA.out))):G:=e ⟨hA⟩
theorem lS {G A:Prop} (hA:A) (e:Hid A→G:=by (intro kA;(repeat' first | ((with_reducible refine eN ?_);go_step) | ((with_reducible refine cB ?_);first | refine iF ?_ | (refine fA ?_ ?_ <;> intro _)) | fail);(rename_i z0;revert z0;with_reducible exact kA.out))):G:=e ⟨hA⟩
theorem iU {G A B:Prop} (hB:B) (hA:A) (e:Hid A→Hid B→G:=by (intro kA kB;(repeat' first | ((with_reducible refine eN ?_);go_step) | ((with_reducible refine cB ?_);first | refine iF ?_ | (refine fA ?_ ?_ <;> intro _)) | fail);(rename_i z0;revert z0;with_reducible exact kA.out);(rename_i z0;revert z0;with_reducible exact kB.out))):G:=e ⟨hA⟩ ⟨hB⟩
theorem OU {G A B:Prop} (hB:B) (hA:A) (e:Hid A→Hid B→G:=by (intro kA kB;(repeat' first | ((with_reducible refine eN ?_);go_step) | ((with_reducible refine cB ?_);first | refine iF ?_ | (refine fA ?_ ?_ <;> intro _)) | fail);(rename_i z0;revert z0;with_reducible exact kA.out);(rename_i z0 z1 z2;revert z0 z1 z2;with_reducible exact kB.out))):G:=e ⟨hA⟩ ⟨hB⟩
theorem LP {G A B C:Prop} (hB:B) (hC:C) (hA:A) (e:Hid A→Hid B→Hid C→G:=by (intro kA kB kC;(repeat' first | ((with_reducible refine eN ?_);go_step) | ((with_reducible refine cB ?_);first | refine iF ?_ | (refine fA ?_ ?_ <;> intro _)) | fail);(rename_i z0;revert z0;with_reducible exact kA.out);(rename_i z0 z1 z2 z3;revert z0 z1 z2 z3;with_reducible exact kB.out);(rename_i z0 z1 z2 z3;revert z0 z1 z2 z3;with_reducible exact kC.out))):G:=e ⟨hA⟩ ⟨hB⟩ ⟨hC⟩
theorem bK {G A:Prop} (hA:A) (e:Hid A→G:=by (intro kA;(repeat' first | ((with_reducible refine eN ?_);go_step) | ((with_reducible refine cB ?_);first | refine iF ?_ | (refine fA ?_ ?_ <;> intro _)) | fail);(rename_i z0 z1;revert z0 z1;with_reducible exact kA.out))):G:=e ⟨hA⟩
theorem SK {G A B:Prop} (hB:B) (hA:A) (e:Hid A→Hid B→G:=by (intro kA kB;(repeat' first | ((with_reducible refine eN ?_);go_step) | ((with_reducible refine cB ?_);first | refine iF ?_ | (refine fA ?_ ?_ <;> intro _)) | fail);(rename_i z0 z1;revert z0 z1;with_reducible exact kA.out);(rename_i z0;revert z0;with_reducible exact kB.out))):G:=e ⟨hA⟩ ⟨hB⟩
theorem mS {G A:Prop} (hA:A) (e:Hid A→G:=by (intro kA;(repeat' first | ((with_reducible refine eN ?_);go_step) | ((with_reducible refine cB ?_);first | refine iF ?_ | (refine fA ?_ ?_ <;> intro _)) | fail);(rename_i z0 z1 z2;revert z0 z1 z2;with_reducible exact kA.out))):G:=e ⟨hA⟩
theorem FT {G A B:Prop} (hB:B) (hA:A) (e:Hid A→Hid B→G:=by (intro kA kB;(repeat' first | ((with_reducible refine eN ?_);go_step) | ((with_reducible refine cB ?_);first | refine iF ?_ | (refine fA ?_ ?_ <;> intro _)) | fail);(rename_i z0 z1 z2;revert z0 z1 z2;with_reducible exact kA.out);(rename_i z0;revert z0;with_reducible exact kB.out))):G:=e ⟨hA⟩ ⟨hB⟩
theorem FU {G A B:Prop} (hB:B) (hA:A) (e:Hid A→Hid B→G:=by (intro kA kB;(repeat' first | ((with_reducible refine eN ?_);go_step) | ((with_reducible refine cB ?_);first | refine iF ?_ | (refine fA ?_ ?_ <;> intro _)) | fail);(rename_i z0 z1 z2;revert z0 z1 z2;with_reducible exact kA.out);(rename_i z0 z1 z2;revert z0 z1 z2;with_reducible exact kB.out))):G:=e ⟨hA⟩ ⟨hB⟩
theorem jH {G A:Prop} (hA:A) (e:Hid A→G:=by (intro kA;(repeat' first | ((with_reducible refine eN ?_);go_step) | ((with_reducible refine cB ?_);first | refine iF ?_ | (refine fA ?_ ?_ <;> intro _)) | fail);(rename_i z0 z1 z2 z3;revert z0 z1 z2 z3;with_reducible exact kA.out))):G:=e ⟨hA⟩
theorem RH {G A B C:Prop} (hB:B) (hC:C) (hA:A) (e:Hid A→Hid B→Hid C→G:=by (intro kA kB kC;(repeat' first | ((with_reducible refine eN ?_);go_step) | ((with_reducible refine cB ?_);first | refine iF ?_ | (refine fA ?_ ?_ <;> intro _)) | fail);(rename_i z0 z1 z2 z3;revert z0 z1 z2 z3;with_reducible exact kA.out);(rename_i z0 z1;revert z0 z1;with_reducible exact kB.out);(rename_i z0;revert z0;with_reducible exact kC.out))):G:=e ⟨hA⟩ ⟨hB⟩ ⟨hC⟩
theorem FV {G A:Prop} (hA:A) (e:Hid A→G:=by (intro kA;(repeat' first | ((with_reducible refine eN ?_);go_step) | ((with_reducible refine cB ?_);first | refine iF ?_ | (refine fA ?_ ?_ <;> intro _)) | fail);(rename_i z0 z1 z2 z3 z4;revert z0 z1 z2 z3 z4;with_reducible exact kA.out))):G:=e ⟨hA⟩
theorem LQ {G A B:Prop} (hB:B) (hA:A) (e:Hid A→Hid B→G:=by (intro kA kB;(repeat' first | ((with_reducible refine eN ?_);go_step) | ((with_reducible refine cB ?_);first | refine iF ?_ | (refine fA ?_ ?_ <;> intro _)) | fail);(rename_i z0 z1 z2 z3 z4;revert z0 z1 z2 z3 z4;with_reducible exact kA.out);(rename_i z0 z1 z2;revert z0 z1 z2;with_reducible exact kB.out))):G:=e ⟨hA⟩ ⟨hB⟩
theorem rR {G A:Prop} (hA:A) (e:Hid A→G:=by (intro kA;(repeat' first | ((with_reducible refine eN ?_);go_step) | ((with_reducible refine cB ?_);first | refine iF ?_ | (refine fA ?_ ?_ <;> intro _)) | fail);(rename_i z0 z1 z2 z3 z4 z5;revert z0 z1 z2 z3 z4 z5;with_reducible exact kA.out))):G:=e ⟨hA⟩
theorem WO {G A B:Prop} (hB:B) (hA:A) (e:Hid A→Hid B→G:=by (intro kA kB;(repeat' first | ((with_reducible refine eN ?_);go_step) | ((with_reducible refine cB ?_);first | refine iF ?_ | (refine fA ?_ ?_ <;> intro _)) | fail);(rename_i z0 z1 z2 z3 z4 z5;revert z0 z1 z2 z3 z4 z5;with_reducible exact kA.out);(rename_i z0 z1 z2 z3 z4;revert z0 z1 z2 z3 z4;with_reducible exact kB.out))):G:=e ⟨hA⟩ ⟨hB⟩
theorem WP {G A:Prop} (hA:A) (e:Hid A→G:=by (intro kA;(repeat' first | ((with_reducible refine eN ?_);go_step) | ((with_reducible refine cB ?_);first | refine iF ?_ | (refine fA ?_ ?_ <;> intro _)) | fail);(rename_i z0 z1 z2 z3 z4 z5 z6;revert z0 z1 z2 z3 z4 z5 z6;with_reducible exact kA.out))):G:=e ⟨hA⟩
end Go.Proofs.X
