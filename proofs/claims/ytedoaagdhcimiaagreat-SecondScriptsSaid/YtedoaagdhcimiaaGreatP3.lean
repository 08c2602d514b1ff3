/- Laws and walks that the proof of the statement is made of (part 3). -/
import Derived.Lib.SliceRun
import Derived.Lib.AppendZerosOnto
import Derived.Test.YtedoaagdhcimiaaGreatProg
import Derived.Lib.Hide
import Derived.Shelf.RegionOpenPlain
import Derived.Lib.Strings
import Derived.Lib.Slices
import Derived.Lib.Walk
import Derived.Lib.Builder
import Derived.Lib.AppendStr
import Derived.Lib.UnsafeStr
import Derived.Lib.MakeNoZero
import Derived.WalkKit
import Derived.Laws.Externs
import Derived.Laws.IdiomCopy
import Derived.Laws.BitsLemmas
import GoSem.Claims
import Derived.Test.YtedoaagdhcimiaaGreatShelf
import Derived.Test.YtedoaagdhcimiaaGreatP1
import Derived.Test.YtedoaagdhcimiaaGreatP2
set_option linter.unusedVariables false
set_option linter.unusedSimpArgs false
namespace Go.Proofs.X
open Go.RowKit
theorem flatten_take {k : Nat} : ∀ (es : List (List Value)) (i : Nat), (∀ x ∈ es, x.length = k) → (es.take i).flatten = es.flatten.take (i * k)
 | [], i, _ => by simp
 | x :: es, 0, _ => by simp
 | x :: es, i + 1, h => by
   have hx := h x (by simp)
   have ih := flatten_take es i (fun y hy => h y (by simp [hy]))
   rw [List.take_succ_cons, List.flatten_cons, List.flatten_cons, ih, show (i + 1) * k = x.length + i * k by rw [hx, Nat.add_mul]; omega, List.take_length_add_append]
theorem flatten_drop {k : Nat} : ∀ (es : List (List Value)) (i : Nat), (∀ x ∈ es, x.length = k) → (es.drop i).flatten = es.flatten.drop (i * k)
 | [], i, _ => by simp
 | x :: es, 0, _ => by simp
 | x :: es, i + 1, h => by
   have hx := h x (by simp)
   have ih := flatten_drop es i (fun y hy => h y (by simp [hy]))
   rw [List.drop_succ_cons, List.flatten_cons, ih, show (i + 1) * k = x.length + i * k by rw [hx, Nat.add_mul]; omega, List.drop_length_add_append]
theorem over_take {α : Type} (c F : List α) (a n : Nat) (h : a + F.length ≤ n) (hn : n ≤ c.length) : (c.take a ++ F ++ c.drop (a + F.length)).take n = (c.take n).take a ++ F ++ (c.take n).drop (a + F.length) := by
 have hA : (c.take a ++ F).length = a + F.length := by simp; omega
 rw [List.take_append, hA, List.take_of_length_le (by omega), List.take_take, Nat.min_eq_left (by omega), List.drop_take]
theorem flat_rep {α : Type} {z : List α} (hz : 0 < z.length) : ∀ (n i : Nat), i < n * z.length → (List.replicate n z).flatten[i]? = some (z[i % z.length]'(Nat.mod_lt _ hz))
 | 0, i, h => by simp at h
 | n + 1, i, h => by
   rw [List.replicate_succ, List.flatten_cons, List.getElem?_append]
   split
   ·rename_i hi
    rw [List.getElem?_eq_getElem hi]
    simp only [Nat.mod_eq_of_lt hi]
   ·rename_i hi
    have hge : z.length ≤ i := by omega
    rw [flat_rep hz n (i - z.length) (by rw [Nat.add_mul] at h; omega)]
    have : (i - z.length) % z.length = i % z.length := by rw [← Nat.mod_eq_sub_mod hge]
    simp only [this]
theorem Own.over {B k e g cap i : Nat} {w : World} {es fs : List (List Value)} (h : Own B k e w (.slice (some ⟨g, 0, none⟩) es.length cap) es) (hi : i + fs.length ≤ es.length) (hf : ∀ f ∈ fs, f.length = k) :
 ∃ cur fz, w.heap[g]? = some (.cells cur e fz) ∧ (fz.2 ≤ fz.1 ∨ cur.size ≤ fz.1) ∧ es.length ≤ cap ∧ i * k + fs.flatten.length ≤ es.length * k ∧ es.length * k ≤ cur.size ∧
   Own B k e (w.setRow g (cur.toList.take (i * k) ++ fs.flatten ++ cur.toList.drop (i * k + fs.flatten.length)).toArray) (.slice (some ⟨g, 0, none⟩) es.length cap) (es.take i ++ fs ++ es.drop (i + fs.length)) ∧
   Mv (some g) w (w.setRow g (cur.toList.take (i * k) ++ fs.flatten ++ cur.toList.drop (i * k + fs.flatten.length)).toArray) := by
 rcases h.row.2 with ⟨h0, _⟩ | ⟨g', cap', cur, fz, hv, hb, hg, hfz, hnc, hcm, hcs, htake⟩
 ·cases h0
 ·simp only [Value.slice.injEq, Option.some.injEq, Addr.mk.injEq, and_true, true_and] at hv
  obtain ⟨rfl, rfl⟩ := hv
  have hall := h.each
  have hfl := length_flatten_of hf
  have hil : i * k + fs.length * k ≤ es.length * k := by rw [← Nat.add_mul]; exact Nat.mul_le_mul_right k hi
  have hck : es.length * k ≤ cap * k := Nat.mul_le_mul_right k hnc
  have hlen : (es.take i ++ fs ++ es.drop (i + fs.length)).length = es.length := by simp; omega
  have hall2 : ∀ x ∈ es.take i ++ fs ++ es.drop (i + fs.length), x.length = k := by
   intro x hx
   rcases List.mem_append.1 hx with hx | hx
   ·rcases List.mem_append.1 hx with hx | hx
    ·exact hall x (List.mem_of_mem_take hx)
    ·exact hf x hx
   ·exact hall x (List.mem_of_mem_drop hx)
  have hsz : (cur.toList.take (i * k) ++ fs.flatten ++ cur.toList.drop (i * k + fs.flatten.length)).length = cur.size := by
   rw [List.length_append, List.length_append, List.length_take, List.length_drop, Array.length_toList, hfl, hcs]; omega
  refine ⟨cur, fz, hg, hfz, hnc, by rw [hfl]; exact hil, by rw [hcs]; exact hck, ⟨⟨?_, .inr ⟨g, cap, (cur.toList.take (i * k) ++ fs.flatten ++ cur.toList.drop (i * k + fs.flatten.length)).toArray, fz, ?_, hb, setRow_heap w g cur _ e _ hg, ?_, ?_, hcm, ?_, ?_⟩⟩, hall2⟩, ⟨rfl, rfl, rfl, by simp, fun k _ hk => setRow_other w g k _ (fun e => hk (by simp [e])), Nat.le_refl _⟩⟩
  ·rw [length_flatten_of hall2]
  ·rw [hlen]
  ·rw [List.size_toArray, hsz]; exact hfz
  ·rw [hlen]; exact hnc
  ·rw [List.size_toArray, hsz]; exact hcs
  ·rw [hlen, List.flatten_append, List.flatten_append, flatten_take es i hall, flatten_drop es _ hall, ← htake, List.toList_toArray]
   have e1 : (i + fs.length) * k = i * k + fs.flatten.length := by rw [hfl, Nat.add_mul]
   rw [e1]
   have hcl : cur.toList.length = cap * k := by rw [← hcs]; exact Array.length_toList
   exact over_take _ _ _ _ (by rw [hfl]; exact hil) (by rw [hcl]; exact hck)
theorem madeCells_k {z : List Value} (hz : 0 < z.length) : ∀ n, (madeCells z.toArray (n * z.length)).toList = (List.replicate n z).flatten := by
 intro n
 apply List.ext_getElem?
 intro i
 have hl : (List.replicate n z).flatten.length = n * z.length := by simp
 by_cases hi : i < n * z.length
 ·have h1 : (madeCells z.toArray (n * z.length)).toList[i]? = some (z[i % z.length]'(Nat.mod_lt _ hz)) := by
   simp [madeCells, List.getElem?_range hi, Nat.mod_lt _ hz]
  rw [h1]
  symm
  exact flat_rep hz n i hi
 ·rw [List.getElem?_eq_none (by simp [madeCells]; omega), List.getElem?_eq_none (by rw [hl]; omega)]
section
variable {P : Program} {ops : Array Oper} {Q : Exit → Act → World → Prop} {w : World} {rest : List Oper} {ts : List Value} {df : List Deferred} {ty : TypeId} {ps : String} {af : Array Edge}
end
end Go.Proofs.X
set_option linter.unusedVariables false
set_option linter.unusedSimpArgs false
namespace Go.Proofs.X
open Go.RowKit
section
variable {P : Program} {a : Act} {w : World} {d : Option Nat} {ty : TypeId} {ps : String} {af : Array Edge} {g : Option (Nat × Bool)}
theorem Runs.cutC {t : TypeId} {x lo hi : Operand} {k m n l c : Nat} {ad : Option Addr} (hx : a.eval x = .slice ad l c) (h1 : a.eval lo = .int .i64 (m : Nat)) (h2 : a.eval hi = .int .i64 (n : Nat)) (hmn : m ≤ n) (hn : n ≤ c) (ht : sliceOf P t k = true) :
 Runs P (Oper.mk d (.slice t x (some lo) (some hi) none) ty ps af g) a w (.slice (if c = m then ad else ad.map (·.add (m * k))) (n - m) (c - m)) := by
 obtain ⟨e, ie, ht, hie, hz⟩ := sliceOf_spec ht
 constructor
 simp [execOp, hx, h1, h2, Instr.sliceAt, Instr.slice, run_underlying ht, Instr.sliceBounds, Instr.sliceBound, asIntOf, sizeOf, typeInfo, hie, hz, hmn, hn]
theorem Runs.cut3 {t : TypeId} {x lo hi mx : Operand} {k m n p l c : Nat} {ad : Option Addr} (hx : a.eval x = .slice ad l c) (h1 : a.eval lo = .int .i64 (m : Nat)) (h2 : a.eval hi = .int .i64 (n : Nat)) (h3 : a.eval mx = .int .i64 (p : Nat)) (hmn : m ≤ n) (hn : n ≤ p) (hp : p ≤ c) (ht : sliceOf P t k = true) :
 Runs P (Oper.mk d (.slice t x (some lo) (some hi) (some mx)) ty ps af g) a w (.slice (if p = m then ad else ad.map (·.add (m * k))) (n - m) (p - m)) := by
 obtain ⟨e, ie, ht, hie, hz⟩ := sliceOf_spec ht
 constructor
 simp [execOp, hx, h1, h2, h3, Instr.sliceAt, Instr.slice, run_underlying ht, Instr.sliceBounds, Instr.sliceBound, asIntOf, sizeOf, typeInfo, hie, hz, hmn, hn, hp]
end
theorem Sl.news {k n cap : Nat} {w : World} {a : Addr} {fs : List (List Value)} (hx : Sl k w (.slice (some a) n cap) fs) (hk : 0 < k) : ∀ j u, fs.flatten[j]? = some u → w.cell? (a.add j) = some u := by
 obtain ⟨ad, cap', he, h2, h3, h4, h5, h6⟩ := hx
 cases he
 intro j u hj
 by_cases hne : fs = []
 ·subst hne; simp at hj
 ·obtain ⟨b, o, he, hc⟩ := h6 hne
  cases he
  have hlen := length_flatten_of h4
  have hjl : j < fs.length * k := by rw [← hlen]; exact (List.getElem?_eq_some_iff.1 hj).1
  have hdm : j = (j / k) * k + j % k := by rw [Nat.mul_comm]; exact (Nat.div_add_mod j k).symm
  have hlt : j / k < fs.length := Nat.div_lt_of_lt_mul (by rw [Nat.mul_comm]; exact hjl)
  have hml : j % k < (fs[j / k]).length := by rw [h4 _ (List.getElem_mem hlt)]; exact Nat.mod_lt _ hk
  have hf := flatten_at h4 (i := j / k) (e := fs[j / k]) (j := j % k) (x := (fs[j / k])[j % k]) (List.getElem?_eq_getElem hlt) (List.getElem?_eq_getElem hml)
  rw [← hdm, hj] at hf
  have := hc (j / k) fs[j / k] (j % k) u (List.getElem?_eq_getElem hlt) (by rw [List.getElem?_eq_getElem hml]; exact hf.symm)
  rw [add_none]
  rw [Nat.add_assoc, ← hdm] at this
  exact this
section
variable {P : Program} {ops : Array Oper} {Q : Exit → Act → World → Prop} {w : World} {rest : List Oper} {ts : List Value} {df : List Deferred} {ty : TypeId} {ps : String} {af : Array Edge}
theorem wpl_appOver {t e k B g cap i j d : Nat} {x y : Operand} {es : List (List Value)} (hw : Own B k e w (.slice (some ⟨g, 0, none⟩) es.length cap) es)
 (hx : (Act.mk ts.toArray df).eval x = .slice (some ⟨g, 0, none⟩) i cap) {ad : Addr} {c : Nat} (hy : (Act.mk ts.toArray df).eval y = .slice (some ad) (es.length - j) c) (hs : Sl k w (.slice (some ad) (es.length - j) c) (es.drop j)) (hij : i ≤ j) (hj : j ≤ es.length) (h1 : ∀ f ∈ es, ∀ u ∈ f, u.oneCell' = true)
 (h : ∀ w', Own B k e w' (.slice (some ⟨g, 0, none⟩) es.length cap) (es.take i ++ es.drop j ++ es.drop (i + (es.length - j))) → Mv (some g) w w' → wpList P ops Q rest (Act.mk (ts.set d (.slice (some ⟨g, 0, none⟩) (i + (es.length - j)) cap)).toArray df) w')
 (ht : appTy P t e k (bytesOf P e) = true := by decide +kernel) :
 wpList P ops Q (Oper.mk (some d) (.call ⟨.builtin .append, #[x, y], #[t, t]⟩) ty ps af none :: rest) (Act.mk ts.toArray df) w := by
 obtain ⟨hu, inf, z', hi, hzi, hzc, hsz, hb, hk⟩ := appTy_spec ht
 have hfl : (es.drop j).length = es.length - j := by simp
 have hall : ∀ f ∈ es.drop j, f.length = k := fun f hf => hw.each f (List.mem_of_mem_drop hf)
 obtain ⟨cur, fz, hg, hfz, hnc, h3, h4, ho, hm⟩ := hw.over (i := i) (fs := es.drop j) (by rw [hfl]; omega) hall
 have hfl2 := length_flatten_of hall
 have hr := run_append_roomG (P := P) w t ty e inf hu hi g i cap cur fz hg hfz ad (es.length - j) c (es.drop j).flatten (by rw [hfl2, hfl, hsz]) (hs.news hk)
  (fun u hu' => by obtain ⟨f, hf, hfu⟩ := List.mem_flatten.1 hu'; exact h1 f (List.mem_of_mem_drop hf) u hfu) (by omega) (by rw [hsz]; omega)
 rw [hsz] at hr
 rw [hfl] at ho
 refine wpl_val rfl ?_ (h _ ho hm)
 simp [execOp, resolve, invoke, builtin, hx, hy, hr]
theorem wpl_clearO {t e k B g cap m : Nat} {a : Act} {y : Operand} {z : List Value} {c : Nat} {es : List (List Value)} (hw : Own B k e w (.slice (some ⟨g, 0, none⟩) es.length cap) es)
 (hy : a.eval y = .slice (some ⟨g, m * k, none⟩) (es.length - m) c) (hm : m < es.length)
 (h : ∀ w', Own B k e w' (.slice (some ⟨g, 0, none⟩) m cap) (es.take m) → Mv (some g) w w' → wpList P ops Q rest a w')
 (ht : appTy P t e k (bytesOf P e) = true := by decide +kernel) (hz : zeroTy P e z = true := by decide +kernel) (hzl : z.length = k := by rfl) (h1 : ∀ u ∈ z, u.oneCell' = true := by decide +kernel) :
 wpList P ops Q (Oper.mk none (.call ⟨.builtin .clear, #[y], #[t]⟩) ty ps af none :: rest) a w := by
 obtain ⟨hu, inf, z', hi, hzi, hzc, hsz, hb, hk⟩ := appTy_spec ht
 obtain ⟨i2, v2, hi2, hz2, hc2⟩ := zeroTy_spec hz
 rw [hi] at hi2; cases hi2
 rw [hzi] at hz2; cases hz2
 have hall : ∀ f ∈ List.replicate (es.length - m) z, f.length = k := by intro f hf; rw [List.eq_of_mem_replicate hf]; exact hzl
 obtain ⟨cur, fz, hg, hfz, hnc, h3, h4, ho, hmv⟩ := hw.over (i := m) (fs := List.replicate (es.length - m) z) (by simp; omega) hall
 have hcells : (Builtin.zeroCells z.toArray (es.length - m)).toList = (List.replicate (es.length - m) z).flatten := by
  have := madeCells_k (z := z) (by omega) (es.length - m)
  rw [← this]
  simp [Builtin.zeroCells, madeCells]
 have hst := run_storeCells_G P g (m * k) e fz (List.replicate (es.length - m) z).flatten 0 cur w hg hfz (by omega) (by
  intro u hu'
  obtain ⟨f, hf, hfu⟩ := List.mem_flatten.1 hu'
  rw [List.eq_of_mem_replicate hf] at hfu
  exact h1 u hfu)
 simp only [Nat.add_zero] at hst
 obtain ⟨n', hn'⟩ : ∃ n', es.length - m = n' + 1 := ⟨es.length - m - 1, by omega⟩
 have hr : (Builtin.clear_ #[t] ty #[.slice (some ⟨g, m * k, none⟩) (es.length - m) c]).run P w = .ok (.tuple #[]) (w.setRow g (cur.toList.take (m * k) ++ (List.replicate (es.length - m) z).flatten ++ cur.toList.drop (m * k + (List.replicate (es.length - m) z).flatten.length)).toArray) := by
  rw [hn'] at hcells hst ⊢
  simp [Builtin.clear_, run_underlying hu, zeroValue, typeInfo, hi, hzi, hc2, hcells, hst]
 have htk : (es.take m ++ List.replicate (es.length - m) z ++ es.drop (m + (List.replicate (es.length - m) z).length)).take m = es.take m := by
  rw [List.append_assoc, List.take_append_of_le_length (by simp; omega), List.take_take, Nat.min_self]
 have hs := ho.short (m := m) (by simp; omega)
 rw [htk] at hs
 refine wpList_plain rfl fun K hK => ?_
 unfold Oper.wp execOp
 simp only [resolve, invoke, builtin, Sem.run_bind, Sem.run_pure, Result.andThen_ok, List.map_toArray, List.map_cons, List.map_nil, hy, hr]
 exact hK _ _ (h _ hs hmv)
end
end Go.Proofs.X
set_option linter.unusedSimpArgs false
set_option linter.unusedVariables false
namespace Go.Proofs.X
open Go.RowKit
set_option maxRecDepth 100000
theorem lowB_of {b : UInt8} (h : 65 ≤ b.toNat) (h2 : b.toNat ≤ 90) : IntKind.wrap .u8 (IntKind.wrap .u8 ((b.toNat : Int) - 65) + 97) = ((lowB b).toNat : Int) := by
 rw [lowB, if_pos ⟨h, h2⟩]
 rw [UInt8.toNat_add]
 simp only [IntKind.wrap, IntKind.bits, IntKind.signed]
 have : (32 : UInt8).toNat = 32 := rfl
 rw [this]
 simp
 omega
theorem bcells_get (l : List UInt8) (k : Nat) (b : UInt8) (h : l[k]? = some b) : (bcells l)[k]? = some [.int .u8 (b.toNat : Nat)] := by simp [bcells, h]
theorem bcells_set (l : List UInt8) (k : Nat) (b : UInt8) : (bcells l).set k [.int .u8 (b.toNat : Nat)] = bcells (l.set k b) := by simp [bcells, List.map_set]
theorem t29 (l : List UInt8) (w : World) (hl : l.length ≤ 254) : Calls Tryz.prog 130 #[str l] w (RetV w (str (low l))) := by
 go_enter Tryz.func130, Tryz.ntmps130
 (repeat' first | ((with_reducible refine nx0 ?_); go_step) | ((with_reducible refine o_s ?_); first | refine wk0 ?_ | (refine wg0 ?_ ?_ <;> intro hc)) | fail)
 refine wpl_bytes (e := 5) (l := l) rfl rfl (by decide +kernel) (by decide +kernel) (by omega) ?_
 intro v w1 x1 o1
 refine gset ?_
 have sl := o1.sl
 (repeat' first | ((with_reducible refine nx0 ?_); go_step) | ((with_reducible refine o_s ?_); first | refine wk0 ?_ | (refine wg0 ?_ ?_ <;> intro hc)) | fail)
 clear sl
 have hlb : (bcells l).length = l.length := by simp [bcells]
 rw [hlb]
 go_loopw [10] (fun i wr => ∃ k : Nat, k ≤ l.length ∧ i = .int .i64 k ∧ Ext w wr ∧ Own w.heap.size 1 5 wr v (bcells (lowP l k))) (fun i _ => l.length - (intOf i).toNat)
 case atStart => exact ⟨0, Nat.zero_le _, rfl, x1, by simpa [lowP_zero] using o1⟩
 case round =>
  obtain ⟨k, hk, rfl, hx, ho⟩ := hrel
  have hsl := ho.sl
  have hlen : (bcells (lowP l k)).length = l.length := by simp [bcells, lowP_length]
  by_cases hlt : k < l.length
  ·have hp := hsl.elem (bcells_get _ _ _ (lowP_get l k hlt))
   (repeat' first | ((with_reducible refine nx0 ?_); go_step) | ((with_reducible refine o_s ?_); first | refine wk0 ?_ | (refine wg0 ?_ ?_ <;> intro hc)) | fail)
   ·rename_i h1 h2
    refine wpl_storeE1 (c := .int .u8 _) (i := k) rfl rfl rfl ho (by omega) (by decide +kernel) rfl ?_
    intro w2 o2 m2
    have hx2 := ho.mvx m2 hx (Nat.le_refl _)
    have e2 : (bcells (lowP l k)).set k [Value.int .u8 (IntKind.u8.wrap (IntKind.u8.wrap (↑l[k].toNat - 65) + 97))] = bcells (lowP l (k + 1)) := by
     rw [lowP_succ l k hlt, ← bcells_set, lowB_of (by omega) (by omega)]
    rw [e2] at o2
    clear hx ho hsl hp
    (repeat' first | ((with_reducible refine nx0 ?_); go_step) | ((with_reducible refine o_s ?_); first | refine wk0 ?_ | (refine wg0 ?_ ?_ <;> intro hc)) | fail)
    exact ⟨⟨k + 1, by omega, rfl, hx2, o2⟩, by simp [intOf]; omega⟩
   ·refine ⟨⟨k + 1, by omega, rfl, hx, ?_⟩, by simp [intOf]; omega⟩
    rw [lowP_same l k hlt (lowB_no (by omega))]; exact ho
   ·refine ⟨⟨k + 1, by omega, rfl, hx, ?_⟩, by simp [intOf]; omega⟩
    rw [lowP_same l k hlt (lowB_no (by omega))]; exact ho
  ·have : k = l.length := by omega
   subst this
   rw [lowP_all] at hsl
   (repeat' first | ((with_reducible refine nx0 ?_); go_step) | ((with_reducible refine o_s ?_); first | refine wk0 ?_ | (refine wg0 ?_ ?_ <;> intro hc)) | fail)
   go_ret
   exact ⟨rfl, hx⟩
def cellLen (w : World) (b : Nat) : Nat := match w.cell? ⟨b, 0, none⟩ with | some (.string s) => s.size | _ => 0
theorem cellLen_eq {w : World} {b : Nat} {l : List UInt8} {t : TypeId} {fr : Nat × Nat} (h : w.heap[b]? = some (.cells #[str l] t fr)) : cellLen w b = l.length := by
 unfold cellLen
 rw [cell_of_row w b 0 _ t fr h]
 simp [str, size_mk, -ByteArray.size_data]
def YieldOk (P : Program) (l b : Nat) (lp : Loop) (J : List (List UInt8) → World → Prop) (Jx : World → Prop) : Prop :=
 (∀ pre x rest W, pre.length < 254 → J pre W → W.heap[b]? = some (.cells #[str rest] 27 (0, 0)) → RoundIn Fence.wide 0 P l lp.fn ((lp.params.zip #[str x, .bool true]).foldl (fun tmps (t, a) => tmps.setIfInBounds t a) lp.tmps) lp.assign lp.body W
    fun e W' => e = .returned (.bool true) ∧ J (pre ++ [x]) W' ∧ W'.heap[b]? = some (.cells #[str rest] 27 (0, 0))) ∧
 (∀ pre W, J pre W → RoundIn Fence.wide 0 P l lp.fn ((lp.params.zip #[str [], .bool false]).foldl (fun tmps (t, a) => tmps.setIfInBounds t a) lp.tmps) lp.assign lp.body W fun e W' => e = .returned (.bool false) ∧ Jx W')
set_option maxHeartbeats 1000000 in
theorem t73 (l b : Nat) (lp : Loop) (J : List (List UInt8) → World → Prop) (Jx : World → Prop) (hp : lp.params.size = 2) (hL : ∀ pre W, J pre W → W.heap[l]? = some (.loop lp))
 (hput : ∀ pre W W' o, J pre W → Put W W' b o → J pre W') (hy : YieldOk Tryz.prog l b lp J Jx) (nm : List UInt8) (w : World) (h0 : J [] w) (hb : w.heap[b]? = some (.cells #[str nm] 27 (0, 0))) (hlen : nm.length ≤ 254) :
 Calls Tryz.prog 223 #[.func (.yield l) #[] #[], .pointer (some ⟨b, 0, none⟩)] w fun e w' => e = .returned (.tuple #[]) ∧ match parse nm with | some ls => J ls w' | none => Jx w' := by
 go_enter Tryz.func223, Tryz.ntmps223
 iterate 2 go_step
 go_loopw [3] (fun _ wr => ∃ pre rest, J pre wr ∧ wr.heap[b]? = some (.cells #[str rest] 27 (0, 0)) ∧ pre.length + rest.length ≤ 254 ∧ parse nm = (parse rest).map (pre ++ ·)) (fun _ wr => cellLen wr b)
 case atStart => exact ⟨[], nm, h0, hb, by simpa using hlen, by simp⟩
 case round =>
  obtain ⟨pre, rest, hJ, hbr, hrl, hpar⟩ := hrel
  have hc := pts_block (cs := [str rest]) hbr
  cases rest with
  | nil =>
   (repeat' first | ((with_reducible refine nx0 ?_); go_step) | ((with_reducible refine o_s ?_); first | refine wk0 ?_ | (refine wg0 ?_ ?_ <;> intro hc)) | fail)
   refine bodyPost_end (results_none rfl _ _ _) rfl ⟨rfl, ?_⟩
   rw [hpar, parse_nil]
   simpa using hJ
  | cons k t =>
   have hk : k.toNat < 256 := k.toNat_lt
   have hlt : t.length ≤ 253 := by simp only [List.length_cons] at hrl; omega
   have hfalse : (k.toNat < 1 ∨ 63 < k.toNat ∨ t.length < k.toNat) → parse nm = none := by
    intro h
    rw [hpar, parse_cons, if_pos h]; rfl
   have htrue : ¬ (k.toNat < 1 ∨ 63 < k.toNat ∨ t.length < k.toNat) → parse nm = (parse (t.drop k.toNat)).map ((pre ++ [t.take k.toNat]) ++ ·) := by
    intro h
    rw [hpar, parse_cons, if_neg h, Option.map_map]
    congr 1
    funext x
    simp
   have Hp := Lib.hid hpar
   clear hpar
   repeat' (first | (refine wp_region_in (id := 3) ?_) | (refine wp_region_in (id := 4) ?_) | ((with_reducible apply wplI_run); (rfl); exact rn; refine gset ?_) | (with_reducible (apply wplI_nil)) | ((with_reducible refine o_s ?_); (first | (refine o_1 ?_; refine o_2 ?_) | (refine o_g ?_; first | refine o_u ?_ | refine o_k ?_ | refine o_n ?_ | refine o_v ?_ | ((first | refine o_G ?_ ?_ | refine o_N ?_ ?_) <;> intro hc)))) | ((fail_if_success (with_reducible refine o_s ?_)); go_step))
   rotate_left
   ·refine wplI_yield (lp := lp) rfl rfl rfl (hL _ _ hJ) (by simp [hp]) (hy.1 _ _ _ _ (by simp only [List.length_cons] at hrl; omega) hJ hbr) ?_
    rintro e W' ⟨rfl, hJ', hb'⟩
    refine ⟨_, rfl, ?_⟩
    simp only [List.set_cons_succ, List.set_cons_zero]
    rw [show List.drop 1 (List.take (k.toNat + 1) (k :: t)) = t.take k.toNat by simp] at hJ'
    have hc2 := pts_block (cs := [str (k :: t)]) hb'
    clear hJ
    have hlt2 : k.toNat ≤ t.length := by simp only [List.length_cons] at *; omega
    repeat' (first | (refine wp_region_in (id := 3) ?_) | (refine wp_region_in (id := 4) ?_) | ((with_reducible apply wplI_run); (rfl); exact rn; refine gset ?_) | (with_reducible (apply wplI_nil)) | ((with_reducible refine o_s ?_); (first | (refine o_1 ?_; refine o_2 ?_) | (refine o_g ?_; first | refine o_u ?_ | refine o_k ?_ | refine o_n ?_ | refine o_v ?_ | ((first | refine o_G ?_ ?_ | refine o_N ?_ ?_) <;> intro hc)))) | ((fail_if_success (with_reducible refine o_s ?_)); go_step))
    refine wpl_store1 (v := str (List.drop (k.toNat + 1) (k :: t))) rfl rfl rfl hb' (by decide +kernel) rfl ?_
    intro W2 hput2
    (repeat' first | ((with_reducible refine nx0 ?_); go_step) | ((with_reducible refine o_s ?_); first | refine wk0 ?_ | (refine wg0 ?_ ?_ <;> intro hc)) | fail)
    have hb2 := hput2.this
    have hJ2 := hput _ _ _ _ hJ' hput2
    have hd : List.drop (k.toNat + 1) (k :: t) = t.drop k.toNat := by simp
    go_roundw
    case rel => exact ⟨pre ++ [t.take k.toNat], t.drop k.toNat, hJ2, by rw [← hd]; exact hb2, by simp at hrl ⊢; omega, htrue (by omega)⟩
    case measure =>
     rw [cellLen_eq hb2, cellLen_eq hbr]
     simp; omega
   all_goals
    refine wplI_yield (lp := lp) rfl rfl rfl (hL _ _ hJ) (by simp [hp]) (hy.2 _ _ hJ) ?_
    rintro e W' ⟨rfl, hx⟩
    refine ⟨_, rfl, ?_⟩
    simp only [List.set_cons_succ, List.set_cons_zero]
    repeat' (first | (refine wp_region_in (id := 3) ?_) | (refine wp_region_in (id := 4) ?_) | ((with_reducible apply wplI_run); (rfl); exact rn; refine gset ?_) | (with_reducible (apply wplI_nil)) | ((with_reducible refine o_s ?_); (first | (refine o_1 ?_; refine o_2 ?_) | (refine o_g ?_; first | refine o_u ?_ | refine o_k ?_ | refine o_n ?_ | refine o_v ?_ | ((first | refine o_G ?_ ?_ | refine o_N ?_ ?_) <;> intro hc)))) | ((fail_if_success (with_reducible refine o_s ?_)); go_step))
    refine bodyPost_ret (results_none rfl _ _ _) rfl ⟨rfl, ?_⟩
    rw [hfalse (by simp only [List.length_cons] at *; omega)]
    exact hx
theorem t40 (nm : List UInt8) (w : World) : Calls Tryz.prog 182 #[str nm] w fun e w' => e = .returned (.func (.func 223) #[] #[.pointer (some ⟨w.heap.size, 0, none⟩)]) ∧ Ext w w' ∧ w'.heap.size = w.heap.size + 1 ∧ w'.heap[w.heap.size]? = some (.cells #[str nm] 27 (0, 0)) := by
 go_enter Tryz.func182, Tryz.ntmps182
 repeat' (first | ((with_reducible refine nx0 ?_); go_step) | fail)
 refine wpl_boxB (vs := [str nm]) rfl rfl ?_
 intro w1 x1 s1 h1
 refine gset ?_
 (repeat' first | ((with_reducible refine nx0 ?_); go_step) | ((with_reducible refine o_s ?_); first | refine wk0 ?_ | (refine wg0 ?_ ?_ <;> intro hc)) | fail)
 go_ret
 exact ⟨rfl, x1, s1, h1⟩
def tcells (ls : List (List UInt8)) : List (List Value) := ls.map fun x => [str x]
structure CutMid (w : World) (s : Nat) (lp : Loop) (pre : List (List UInt8)) (W : World) : Prop where
 ext : Ext w W
 hs : w.heap.size = s
 c0 : W.heap[s]? = some (.cells #[.slice none 0 0] 113 (0, 0))
 c1 : W.heap[s + 1]? = some (.cells #[.bool false] 4 (0, 0))
 loc : ∃ v, W.heap[s + 2]? = some (.cells #[v] 113 (0, 0)) ∧ Own (s + 6) 1 9 W v (tcells pre)
 df : W.heap[s + 4]? = some (.deferred (some []))
 lp : W.heap[s + 5]? = some (.loop lp)
 size : s + 6 ≤ W.heap.size
structure CutOut (w : World) (s : Nat) (lp : Loop) (W : World) : Prop where
 ext : Ext w W
 hs : w.heap.size = s
 c0 : W.heap[s]? = some (.cells #[.slice none 0 0] 113 (0, 0))
 c1 : W.heap[s + 1]? = some (.cells #[.bool false] 4 (0, 0))
 df : W.heap[s + 4]? = some (.deferred (some []))
 lp : W.heap[s + 5]? = some (.loop { lp with state := .done, pending := some .ret })
theorem CutMid.put {w : World} {s : Nat} {lp : Loop} {pre : List (List UInt8)} {W W' : World} (h : CutMid w s lp pre W) {o : Obj} (hp : Put W W' (s + 3) o) : CutMid w s lp pre W' := by
 have hm := hp.mv
 have ne : ∀ k, k ≠ s + 3 → some k ≠ some (s + 3) := fun k hk e => hk (Option.some.inj e)
 obtain ⟨v, hv, ho⟩ := h.loc
 refine ⟨h.ext.move hm (by rintro k ⟨⟩; have := h.hs; omega), h.hs, hm.at h.c0 (ne _ (by omega)), hm.at h.c1 (ne _ (by omega)), ⟨v, hm.at hv (ne _ (by omega)), ho.mv hm ?_⟩, hm.at h.df (ne _ (by omega)), hm.at h.lp (ne _ (by omega)), Nat.le_trans h.size hm.size⟩
 cases hb : v.ownBlock with
 | none => exact .inl rfl
 | some r => have := ho.block r hb; exact .inr (ne r (by omega))
set_option maxHeartbeats 1000000 in
theorem t28 (nm : List UInt8) (w : World) : Calls Tryz.prog 124 #[str nm] w (Ret w fun v w' => match labels nm with
 | some ls => ∃ s, v = .tuple #[s, .bool true] ∧ Own w.heap.size 1 9 w' s (tcells ls)
 | none => v = .tuple #[.slice none 0 0, .bool false]) := by
 refine calls_of_wp_marks Tryz.func124 rfl ?_
 simp only [Tryz.ntmps124, List.size_toArray, List.length_cons, List.length_nil, Nat.reduceAdd, Nat.reduceSub, Array.replicate_succ, Array.replicate_zero, List.push_toArray, List.append_toArray, List.nil_append, List.cons_append]
 repeat' (first | ((with_reducible refine nx0 ?_); go_step) | fail)
 refine wpl_allocB (z := [.slice none 0 0]) rfl (by decide +kernel) ?_
 intro w1 x1 s1 h1
 refine gset ?_
 refine wpl_allocB (z := [.bool false]) rfl (by decide +kernel) ?_
 intro w2 x2 s2 h2
 refine gset ?_
 rw [s1] at h2 ⊢
 have h1' := x2.at h1
 (repeat' first | ((with_reducible refine nx0 ?_); go_step) | ((with_reducible refine o_s ?_); first | refine wk0 ?_ | (refine wg0 ?_ ?_ <;> intro hc)) | fail)
 ·rename_i hc
  refine wpl_store1 (v := .slice none 0 0) rfl rfl rfl h1' (by decide +kernel) rfl ?_
  intro w3 p3
  have h23 := (p3.other _ (by omega)).trans h2
  refine wpl_store1 (v := .bool false) rfl rfl rfl h23 (by decide +kernel) rfl ?_
  intro w4 p4
  have h14 := (p4.other _ (by omega)).trans p3.this
  (repeat' first | ((with_reducible refine nx0 ?_); go_step) | ((with_reducible refine o_s ?_); first | refine wk0 ?_ | (refine wg0 ?_ ?_ <;> intro hc)) | fail)
  refine leaves_nil (results_cells2 rfl rfl rfl h14 p4.this (by decide +kernel) (by decide +kernel)) ⟨_, rfl, ?_, ?_⟩
  ·exact ((x1.trans x2).move p3.mv (by rintro k ⟨⟩; omega)).move p4.mv (by rintro k ⟨⟩; omega)
  ·rw [labels, if_pos (by omega)]
 ·rename_i hc
  refine wpl_allocB (z := [.slice none 0 0]) rfl (by decide +kernel) ?_
  intro w3 x3 s3 h3
  rw [s2, s1] at h3 s3 ⊢
  (repeat' first | ((with_reducible refine nx0 ?_); go_step) | ((with_reducible refine o_s ?_); first | refine wk0 ?_ | (refine wg0 ?_ ?_ <;> intro hc)) | fail)
  refine wpl_callG (enters_of Tryz.func182 rfl rfl) rfl rfl (t40 nm _) ?_
  rintro e w4 ⟨rfl, x4, s4, h4⟩
  refine ⟨_, rfl, ?_⟩
  rw [s3] at h4 s4
  refine gset ?_
  repeat' (first | ((with_reducible refine nx0 ?_); go_step) | fail)
  simp only [s3]
  have e4 : w4.heap.size = w.heap.size + 4 := by omega
  generalize hs : w.heap.size = s at *
  have g0 : w4.heap[s]? = _ := x4.at (x3.at h1')
  have g1 : w4.heap[s + 1]? = _ := x4.at (x3.at h2)
  have g2 : w4.heap[s + 2]? = _ := x4.at h3
  have g3 : w4.heap[s + 3]? = _ := h4
  have gx : Ext w w4 := ((x1.trans x2).trans x3).trans x4
  clear h1 h2 h1' h3 h4 x1 x2 x3 x4 s1 s2 s3 s4
  refine wp_rangeFunc_of (caps := #[.pointer (some ⟨s + 3, 0, none⟩)]) rfl (enters_of Tryz.func223 rfl rfl) e4 ?_
  intro fn W lp hlp xW k4 k5 sW
  have hJ : CutMid w s lp [] W := ⟨gx.trans xW, hs, xW.at g0, xW.at g1, ⟨_, xW.at g2, Own.nil _ _ _ _⟩, k4, k5, by omega⟩
  have gb := xW.at g3
  have hrdy : lp.state = .ready ∧ lp.pending = none := by subst hlp; exact ⟨rfl, rfl⟩
  have hlab : labels nm = parse nm := by rw [labels, if_neg (by omega)]
  have hy : YieldOk Tryz.prog (s + 5) (s + 3) lp (CutMid w s lp) (CutOut w s lp) := by
   constructor
   ·intro pre x rest W hpre hM hb
    subst hlp
    simp only [List.zip_toArray, List.zip_cons_cons, List.zip_nil_right, List.foldl_toArray', List.foldl_cons, List.foldl_nil, List.setIfInBounds_toArray, List.set_cons_succ, List.set_cons_zero, List.foldl_toArray, List.size_toArray, List.zip_toArray, List.length_cons, List.length_nil]
    have m0 := hM.c0
    have m1 := hM.c1
    obtain ⟨v, m2, mo⟩ := hM.loc
    have md := hM.df
    have ml := hM.lp
    have mx := hM.ext
    have ms := hM.size
    clear hM hJ gb xW k4 k5 sW g0 g1 g2 g3
    refine round_of ?_
    repeat' (first | refine wpR_region (by rfl) (by intro _ _ h; exact h) ?_ | ((with_reducible refine o_s ?_); (first | (refine o_1 ?_; refine o_2 ?_) | (refine o_g ?_; first | refine o_u ?_ | refine o_k ?_ | refine o_n ?_ | refine o_v ?_ | ((first | refine o_G ?_ ?_ | refine o_N ?_ ?_) <;> intro hc)))) | ((fail_if_success (with_reducible refine o_s ?_)); first | go_step | gi_step))
    refine ⟨_, ml, rfl, ?_⟩
    intro w2 p2
    have n0 := p2.at m0 (by omega)
    have n1 := p2.at m1 (by omega)
    have n2 := p2.at m2 (by omega)
    have no := mo.put p2 (by omega)
    have nb := p2.at hb (by omega)
    have nd := p2.at md (by omega)
    have nl := p2.this
    have nx := mx.move p2.mv (by rintro k ⟨⟩; omega)
    have ns : s + 6 ≤ w2.heap.size := Nat.le_trans ms p2.mv.size
    clear m0 m1 m2 mo hb md ml mx ms p2
    have hp2 := pts_block (cs := [v]) n2
    repeat' (first | refine wpR_region (by rfl) (by intro _ _ h; exact h) ?_ | ((with_reducible refine o_s ?_); (first | (refine o_1 ?_; refine o_2 ?_) | (refine o_g ?_; first | refine o_u ?_ | refine o_k ?_ | refine o_n ?_ | refine o_v ?_ | ((first | refine o_G ?_ ?_ | refine o_N ?_ ?_) <;> intro hc)))) | ((fail_if_success (with_reducible refine o_s ?_)); first | go_step | gi_step))
    refine wpl_slice (xs := [str x]) (k := 1) (e := 9) (bytes := 16) rfl rfl rfl (by intro y hy; simp at hy; subst hy; rfl) (by decide +kernel) (by simp) ?_
    intro v' w3 x3 s3 sl3 _
    refine gset ?_
    refine wpl_append (B := s + 6) (k := 1) (e := 9) (bytes := 16) (x := v') rfl (no.ext x3) rfl sl3 (by decide +kernel) (by simp [str, Value.cells]; rfl) (by have := x3.size; omega) (by simp [tcells]; omega) (by simp [tcells]; omega) ?_
    intro v2 w4 o4 mv4
    refine gset ?_
    have hv : Mv v.ownBlock w3 w4 := mv4
    have no3 := no.ext x3
    have q2 := no3.mvs hv (x3.at n2) (by omega)
    refine wpl_store1 (v := v2) rfl rfl rfl q2 (by decide +kernel) o4.one ?_
    intro w5 p5
    have q0 := p5.at (no3.mvs hv (x3.at n0) (by omega)) (by omega)
    have q1 := p5.at (no3.mvs hv (x3.at n1) (by omega)) (by omega)
    have q3 := p5.at (no3.mvs hv (x3.at nb) (by omega)) (by omega)
    have q4 := p5.at (no3.mvs hv (x3.at nd) (by omega)) (by omega)
    have q5 := p5.at (no3.mvs hv (x3.at nl) (by omega)) (by omega)
    have qx := (no3.mvx hv (nx.trans x3) (by omega)).move p5.mv (by rintro k ⟨⟩; omega)
    have qs : s + 6 ≤ w5.heap.size := by have := x3.size; have := hv.size; have := p5.mv.size; omega
    have qo := o4.put p5 (by omega)
    have q2' := p5.this
    repeat' (first | refine wpR_region (by rfl) (by intro _ _ h; exact h) ?_ | ((with_reducible refine o_s ?_); (first | (refine o_1 ?_; refine o_2 ?_) | (refine o_g ?_; first | refine o_u ?_ | refine o_k ?_ | refine o_n ?_ | refine o_v ?_ | ((first | refine o_G ?_ ?_ | refine o_N ?_ ?_) <;> intro hc)))) | ((fail_if_success (with_reducible refine o_s ?_)); first | go_step | gi_step))
    refine round_normal q5 fun w6 p6 => ⟨rfl, ⟨qx.move p6.mv (by rintro k ⟨⟩; omega), hs, p6.at q0 (by omega), p6.at q1 (by omega), ⟨v2, p6.at q2' (by omega), ?_⟩, p6.at q4 (by omega), p6.this, Nat.le_trans qs p6.mv.size⟩, p6.at q3 (by omega)⟩
    have := qo.put p6 (by omega)
    simpa [tcells, str, Value.cells] using this
   ·intro pre W hM
    subst hlp
    simp only [List.zip_toArray, List.zip_cons_cons, List.zip_nil_right, List.foldl_toArray', List.foldl_cons, List.foldl_nil, List.setIfInBounds_toArray, List.set_cons_succ, List.set_cons_zero, List.foldl_toArray, List.size_toArray, List.length_cons, List.length_nil]
    have m0 := hM.c0
    have m1 := hM.c1
    have md := hM.df
    have ml := hM.lp
    have mx := hM.ext
    clear hM hJ gb xW k4 k5 sW g0 g1 g2 g3
    refine round_of ?_
    repeat' (first | refine wpR_region (by rfl) (by intro _ _ h; exact h) ?_ | ((with_reducible refine o_s ?_); (first | (refine o_1 ?_; refine o_2 ?_) | (refine o_g ?_; first | refine o_u ?_ | refine o_k ?_ | refine o_n ?_ | refine o_v ?_ | ((first | refine o_G ?_ ?_ | refine o_N ?_ ?_) <;> intro hc)))) | ((fail_if_success (with_reducible refine o_s ?_)); first | go_step | gi_step))
    refine ⟨_, ml, rfl, ?_⟩
    intro w2 p2
    have n0 := p2.at m0 (by omega)
    have n1 := p2.at m1 (by omega)
    have nd := p2.at md (by omega)
    have nl := p2.this
    have nx := mx.move p2.mv (by rintro k ⟨⟩; omega)
    clear m0 m1 md ml mx p2
    repeat' (first | refine wpR_region (by rfl) (by intro _ _ h; exact h) ?_ | ((with_reducible refine o_s ?_); (first | (refine o_1 ?_; refine o_2 ?_) | (refine o_g ?_; first | refine o_u ?_ | refine o_k ?_ | refine o_n ?_ | refine o_v ?_ | ((first | refine o_G ?_ ?_ | refine o_N ?_ ?_) <;> intro hc)))) | ((fail_if_success (with_reducible refine o_s ?_)); first | go_step | gi_step))
    refine wpl_store1 (v := .slice none 0 0) rfl rfl rfl n0 (by decide +kernel) rfl ?_
    intro w3 p3
    refine wpl_store1 (v := .bool false) rfl rfl rfl (p3.at n1 (by omega)) (by decide +kernel) rfl ?_
    intro w4 p4
    have q0 := p4.at p3.this (by omega)
    have q1 := p4.this
    have q4 := p4.at (p3.at nd (by omega)) (by omega)
    have q5 := p4.at (p3.at nl (by omega)) (by omega)
    have qx := (nx.move p3.mv (by rintro k ⟨⟩; omega)).move p4.mv (by rintro k ⟨⟩; omega)
    repeat' (first | refine wpR_region (by rfl) (by intro _ _ h; exact h) ?_ | ((with_reducible refine o_s ?_); (first | (refine o_1 ?_; refine o_2 ?_) | (refine o_g ?_; first | refine o_u ?_ | refine o_k ?_ | refine o_n ?_ | refine o_v ?_ | ((first | refine o_G ?_ ?_ | refine o_N ?_ ?_) <;> intro hc)))) | ((fail_if_success (with_reducible refine o_s ?_)); first | go_step | gi_step))
    exact round_ret q5 fun w6 p6 => ⟨rfl, ⟨qx.move p6.mv (by rintro k ⟨⟩; omega), hs, p6.at q0 (by omega), p6.at q1 (by omega), p6.at q4 (by omega), p6.this⟩⟩
  refine (t73 (s + 5) (s + 3) lp (CutMid w s lp) (CutOut w s lp) (by subst hlp; rfl) (fun _ _ h => h.lp) (fun _ _ _ _ h hp => h.put hp) hy nm W hJ gb (by omega)).mono ?_
  rintro e W' ⟨rfl, hR⟩
  refine ⟨⟨_, rfl⟩, ?_⟩
  clear hJ gb xW k4 k5 sW hy g0 g1 g2 g3
  cases hpn : parse nm with
  | some ls =>
   rw [hpn] at hR
   refine ⟨lp, hR.lp, by rw [hrdy.1]; simp, ?_⟩
   intro W2 hput
   rw [hrdy.2]
   clear hlp hrdy
   simp only
   have hm := hput.mv
   have ne : ∀ k, k ≠ s + 4 + 1 → some k ≠ some (s + 4 + 1) := fun k hk e => hk (Option.some.inj e)
   have f0 := hm.at hR.c0 (ne _ (by omega))
   have f1 := hm.at hR.c1 (ne _ (by omega))
   have fd := hm.at hR.df (ne _ (by omega))
   obtain ⟨v, f2, ho⟩ := hR.loc
   have fo : Own (s + 6) 1 9 W2 v (tcells ls) := ho.put hput (by omega)
   have f2 := hm.at f2 (ne _ (by omega))
   have fx : Ext w W2 := hR.ext.move hm (by rintro k ⟨⟩; omega)
   have fs := Nat.le_trans hR.size hm.size
   clear hR hput hm
   have hp2 := pts_block (cs := [v]) f2
   (repeat' first | ((with_reducible refine nx0 ?_); go_step) | ((with_reducible refine o_s ?_); first | refine wk0 ?_ | (refine wg0 ?_ ?_ <;> intro hc)) | fail)
   refine wpl_store1 (v := v) rfl rfl rfl f0 (by decide +kernel) fo.one ?_
   intro W3 p3
   refine wpl_store1 (v := .bool true) rfl rfl rfl ((p3.other _ (by omega)).trans f1) (by decide +kernel) rfl ?_
   intro W4 p4
   have q0 := (p4.other _ (by omega)).trans p3.this
   have qd := (p4.other _ (by omega)).trans ((p3.other _ (by omega)).trans fd)
   have qx : Ext w W4 := (fx.move p3.mv (by rintro k ⟨⟩; omega)).move p4.mv (by rintro k ⟨⟩; omega)
   have qo : Own (s + 6) 1 9 W4 v (tcells ls) := (fo.put p3 (by omega)).put p4 (by omega)
   have qf := (p4.this)
   (repeat' first | ((with_reducible refine nx0 ?_); go_step) | ((with_reducible refine o_s ?_); first | refine wk0 ?_ | (refine wg0 ?_ ?_ <;> intro hc)) | fail)
   refine leaves_mark qd fun W5 p5 => ⟨_, results_cells2 rfl rfl rfl (p5.at q0 (by omega)) (p5.at qf (by omega)) (by decide +kernel) (by decide +kernel), _, rfl, qx.move p5.mv (by rintro k ⟨⟩; omega), ?_⟩
   rw [hlab, hpn, hs]
   exact ⟨v, rfl, (qo.put p5 (by omega)).weaken (by omega)⟩
  | none =>
   rw [hpn] at hR
   refine ⟨_, hR.lp, by simp, ?_⟩
   intro W2 hput
   simp only
   have hm := hput.mv
   have ne : ∀ k, k ≠ s + 4 + 1 → some k ≠ some (s + 4 + 1) := fun k hk e => hk (Option.some.inj e)
   have f0 := hm.at hR.c0 (ne _ (by omega))
   have f1 := hm.at hR.c1 (ne _ (by omega))
   have fd := hm.at hR.df (ne _ (by omega))
   have fx : Ext w W2 := hR.ext.move hm (by rintro k ⟨⟩; omega)
   clear hlp hrdy
   repeat' (first | ((with_reducible refine nx0 ?_); go_step) | fail)
   refine leaves_mark fd fun W5 p5 => ⟨_, results_cells2 rfl rfl rfl (p5.at f0 (by omega)) (p5.at f1 (by omega)) (by decide +kernel) (by decide +kernel), _, rfl, fx.move p5.mv (by rintro k ⟨⟩; omega), ?_⟩
   rw [hlab, hpn]
open Go.RowKit Go.Proofs
theorem bSize : (Tryz.prog.info? 219).map (·.size) = some 2 := by kernel_rfl
theorem bLies : liesAt Tryz.prog Tryz.prog.depth 219 (2 / Tryz.prog.cellsOf 219) 0 219 1 = true := by kernel_rfl
theorem bInfo : (Tryz.prog.info? 5).map (fun i => (i.zero, i.size, i.bytes)) = some (some (.int .u8 0), 1, 1) := by kernel_rfl
set_option maxHeartbeats 1000000 in
set_option maxRecDepth 100000 in
theorem T.Builder_copyCheck_used (b : Nat) (w : World) (h0 : w.cell? ⟨b, 0, none⟩ = some (.pointer (some ⟨b, 0, none⟩))) :
 Calls Tryz.prog 246 #[.pointer (some ⟨b, 0, none⟩)] w fun e w' => e = .returned (.tuple #[]) ∧ w' = w := by
 obtain ⟨j, hj, _⟩ := Option.map_eq_some_iff.1 bSize
 go_enter Tryz.func246, Tryz.ntmps246
 go_wp2
 rw [Lib.run_neq_ptr_same w _ Tryz.underlying217 hj]
 go_wp2
 go_end0
 exact ⟨rfl, rfl⟩
set_option maxHeartbeats 1000000 in
set_option maxRecDepth 100000 in
theorem T.Builder_copyCheck_fresh (b : Nat) (w : World) (h0 : w.cell? ⟨b, 0, none⟩ = some (.pointer none)) (hsh : w.shape? b = some (219, 2)) (hfz : w.frozen? ⟨b, 0, none⟩ = false) :
 Calls Tryz.prog 246 #[.pointer (some ⟨b, 0, none⟩)] w fun e w' => e = .returned (.tuple #[]) ∧ w' = w.setCell ⟨b, 0, none⟩ (.pointer (some ⟨b, 0, none⟩)) := by
 obtain ⟨j, hj, hjs⟩ := Option.map_eq_some_iff.1 bSize
 go_enter Tryz.func246, Tryz.ntmps246
 go_wp2
 rw [Lib.run_to_unsafe w ⟨b, 0, none⟩ Tryz.underlying217 Tryz.underlying285 hj (by rw [hjs]; decide) hsh (Nat.zero_lt_succ 1)]
 simp only [Result.andThen]
 rw [Oper.upon_value]
 go_wp2
 rw [run_callFunc_extern Tryz.func270 (by kernel_rfl) (by kernel_rfl) (by kernel_rfl) (e := Extern.AbiNoEscape.same) (by kernel_rfl)]
 rw [Lib.run_noEscape]
 simp only [Result.andThen]
 rw [Oper.upon_value]
 go_wp2
 rw [Lib.run_from_unsafe w ⟨b, 0, none⟩ Tryz.underlying285 Tryz.underlying217 hj hsh bLies]
 simp only [Result.andThen]
 rw [Oper.upon_value]
 go_wp2
 go_end0
 exact ⟨rfl, rfl⟩
theorem T.Builder_copyCheck (B b : Nat) (bs : List Value) (w : World) (h : Lib.IsBuilder 219 5 B b bs w) :
 Calls Tryz.prog 246 #[.pointer (some ⟨b, 0, none⟩)] w fun e w' => e = .returned (.tuple #[]) ∧ (Lib.BuilderAt 219 5 B b (.pointer (some ⟨b, 0, none⟩)) bs w' ∧ Below B w w' ∧ w.drawn ≤ w'.drawn) := by
 rcases h with h | h
 ·refine (T.Builder_copyCheck_fresh b w h.cell0 h.shape h.frozen0).mono ?_
  rintro e w' ⟨rfl, rfl⟩
  exact ⟨rfl, h.used _, (Below.refl B w).setCell (p := ⟨b, 0, none⟩) h.1 _, Nat.le_refl _⟩
 ·refine (T.Builder_copyCheck_used b w h.cell0).mono ?_
  rintro e w' ⟨rfl, rfl⟩
  exact ⟨rfl, h, Below.refl B _, Nat.le_refl _⟩
set_option maxHeartbeats 2000000 in
set_option maxRecDepth 100000 in
theorem T.Builder_WriteByte (B b : Nat) (bs : List Value) (c : Int) (w : World) (h : Lib.IsBuilder 219 5 B b bs w) (hlen : bs.length + 1 ≤ 140737488355328) (hBw : B ≤ w.heap.size) :
 Calls Tryz.prog 190 #[.pointer (some ⟨b, 0, none⟩), .int .u8 c] w fun e w' => e = .returned .nilIface ∧ (Lib.BuilderAt 219 5 B b (.pointer (some ⟨b, 0, none⟩)) (bs ++ [.int .u8 c]) w' ∧ Below B w w' ∧ w.drawn ≤ w'.drawn) := by
 obtain ⟨i0, hi, hz0, hz1, hz2⟩ := info_parts bInfo
 go_enter Tryz.func190, Tryz.ntmps190
 go_wp2_with (go_at_call 246; refine (T.Builder_copyCheck B b bs _ h).mono ?_)
 rintro e w1 ⟨rfl, h1, hb1, hd1⟩
 obtain ⟨hB, v, hbk, hown, hne⟩ := h1
 have c0 : w1.cell? ⟨b, 0, none⟩ = some (.pointer (some ⟨b, 0, none⟩)) := by rw [Lib.cell_of_heap hbk]; rfl
 have c1 : w1.cell? ⟨b, 1, none⟩ = some v := by rw [Lib.cell_of_heap hbk]; rfl
 go_wp2_with (at_builtin; refine wpl_appOwn rfl _ _ 216 rfl B 5 i0 (.int .u8 0) 1 1 Tryz.underlying216 hi hz0 hz1 hz2 rfl (by decide) _ _ _ rfl (hown.alloc _) ⟨w1.heap.size, 0, none⟩ 1 1 [.int .u8 c] rfl rfl ?c1 ?c2 ?c3 ?c4 ?c5 ?_)
 case c1 =>
  intro j u hj
  match j, hj with
  | 0, hj => simp at hj; subst hj; simp [Addr.add]
 case c2 => intro u hu; simp at hu; subst hu; rfl
 case c3 => unfold maxLen; omega
 case c4 => omega
 case c5 => have := hb1.size; simp; omega
 intro v' w2 hown' hgrow hd2
 have hlt : b < w1.heap.size := by
  rcases Nat.lt_or_ge b w1.heap.size with h' | h'
  ·exact h'
  ·simp [Array.getElem?_eq_none h'] at hbk
 have hb2 : w2.heap[b]? = some (.cells #[.pointer (some ⟨b, 0, none⟩), v] 219 (0, 0)) := by
  rw [hgrow.block b (by simp; omega) (fun e => hne e.symm), Lib.alloc_old w1 _ b hlt]
  exact hbk
 have d0 : w2.cell? ⟨b, 0, none⟩ = some (.pointer (some ⟨b, 0, none⟩)) := by rw [Lib.cell_of_heap hb2]; rfl
 have d1 : w2.cell? ⟨b, 1, none⟩ = some v := by rw [Lib.cell_of_heap hb2]; rfl
 have f1 : w2.frozen? ⟨b, 1, none⟩ = false := Lib.frozen_of_heap hb2 1
 obtain ⟨g, cap, rfl⟩ : ∃ g cap, v' = .slice (some ⟨g, 0, none⟩) (bs.length + 1) cap := by
  rcases hown'.2 with ⟨_, h0⟩ | ⟨g, cap, cur, hv, _⟩
  ·omega
  ·exact ⟨g, cap, hv⟩
 go_wp2
 go_ret
 refine ⟨rfl, ?_, ?_⟩
 ·exact Lib.BuilderAt.put (T := 219) (e := 5) hB hb2 (bs' := bs ++ [.int .u8 c]) (by simpa using hown') (by decide)
 ·exact ⟨((hb1.alloc (by have := hb1.size; omega) _).grown hgrow (by have := hb1.size; simp; omega) (fun k hk => (hown.lt k hk).1)).setCell (p := ⟨b, 1, none⟩) hB _, Nat.le_trans hd1 hd2⟩
set_option maxHeartbeats 2000000 in
set_option maxRecDepth 100000 in
theorem T.Builder_WriteString (B b : Nat) (bs : List Value) (s : ByteArray) (w : World) (h : Lib.IsBuilder 219 5 B b bs w) (hlen : bs.length + s.size ≤ 140737488355328) (hBw : B ≤ w.heap.size) :
 Calls Tryz.prog 191 #[.pointer (some ⟨b, 0, none⟩), .string s] w fun e w' => e = .returned (.tuple #[.int .i64 s.size, .nilIface]) ∧ (Lib.BuilderAt 219 5 B b (.pointer (some ⟨b, 0, none⟩)) (bs ++ Lib.strCells s) w' ∧ Below B w w' ∧ w.drawn ≤ w'.drawn) := by
 obtain ⟨i0, hi, hz0, hz1, hz2⟩ := info_parts bInfo
 go_enter Tryz.func191, Tryz.ntmps191
 go_wp2_with (go_at_call 246; refine (T.Builder_copyCheck B b bs _ h).mono ?_)
 rintro e w1 ⟨rfl, h1, hb1, hd1⟩
 obtain ⟨hB, v, hbk, hown, hne⟩ := h1
 have c0 : w1.cell? ⟨b, 0, none⟩ = some (.pointer (some ⟨b, 0, none⟩)) := by rw [Lib.cell_of_heap hbk]; rfl
 have c1 : w1.cell? ⟨b, 1, none⟩ = some v := by rw [Lib.cell_of_heap hbk]; rfl
 go_wp2_with (at_builtin; refine wpl_appOwnS rfl _ _ 216 9 rfl B 5 i0 Tryz.underlying216 Tryz.underlying9 hi hz0 hz1 hz2 _ _ _ rfl hown s rfl ?c3 ?c4 ?c5 ?_)
 case c3 => unfold maxLen; omega
 case c4 => omega
 case c5 => have := hb1.size; omega
 intro v' w2 hown' hgrow hd2
 have hlt : b < w1.heap.size := by
  rcases Nat.lt_or_ge b w1.heap.size with h' | h'
  ·exact h'
  ·simp [Array.getElem?_eq_none h'] at hbk
 have hb2 : w2.heap[b]? = some (.cells #[.pointer (some ⟨b, 0, none⟩), v] 219 (0, 0)) := by
  rw [hgrow.block b hlt (fun e => hne e.symm)]
  exact hbk
 have d0 : w2.cell? ⟨b, 0, none⟩ = some (.pointer (some ⟨b, 0, none⟩)) := by rw [Lib.cell_of_heap hb2]; rfl
 have d1 : w2.cell? ⟨b, 1, none⟩ = some v := by rw [Lib.cell_of_heap hb2]; rfl
 have f1 : w2.frozen? ⟨b, 1, none⟩ = false := Lib.frozen_of_heap hb2 1
 obtain ⟨ao, n', cap, rfl⟩ : ∃ ao n' cap, v' = .slice ao n' cap := by
  rcases hown'.2 with ⟨hv, _⟩ | ⟨g, cap, cur, hv, _⟩
  ·exact ⟨_, _, _, hv⟩
  ·exact ⟨_, _, _, hv⟩
 go_wp2
 go_ret2
 refine ⟨rfl, ?_, ?_⟩
 ·exact Lib.BuilderAt.put (T := 219) (e := 5) hB hb2 (bs' := bs ++ Lib.strCells s) (by simpa [Lib.strCells_length] using hown') (by decide)
 ·exact ⟨(hb1.grown hgrow (by have := hb1.size; omega) (fun k hk => (hown.lt k hk).1)).setCell (p := ⟨b, 1, none⟩) hB _, Nat.le_trans hd1 hd2⟩
theorem Ext.heapEq {w w1 : World} (h : w1.heap = w.heap) {k : Nat} {o : Obj} (hk : w.heap[k]? = some o) : w1.heap[k]? = some o := by rw [h]; exact hk
theorem freeze_ext {w0 w : World} (h : Ext w0 w) {g n : Nat} (hg : w0.heap.size ≤ g) : Ext w0 (w.freeze ⟨g, 0, none⟩ n) := by
 unfold World.freeze
 split
 ·exact h
 ·refine ⟨h.os, h.tape, h.output, by simpa using h.size, fun k hk => ?_, h.drawn⟩
  have hne : g ≠ k := by omega
  simp only [Array.getElem?_modify]
  rw [if_neg hne]
  exact h.block k hk
set_option maxHeartbeats 1000000 in
theorem T.Builder_String (B b : Nat) (l : List UInt8) (w0 w : World) (h : Lib.IsBuilder 219 5 B b (Lib.byteCells l) w) (hx0 : Ext w0 w) (hB : w0.heap.size ≤ B) (hlen : l.length ≤ 9223372036854775807) :
 Calls Tryz.prog 192 #[.pointer (some ⟨b, 0, none⟩)] w fun e w' => e = .returned (str l) ∧ Ext w0 w' := by
 obtain ⟨p, hbB, v, hbk, hown, hne⟩ : ∃ p, Lib.BuilderAt 219 5 B b p (Lib.byteCells l) w := by
  rcases h with h | h <;> exact ⟨_, h⟩
 go_enter Tryz.func192, Tryz.ntmps192
 (repeat' first | ((with_reducible refine nx0 ?_); go_step) | ((with_reducible refine o_s ?_); first | refine wk0 ?_ | (refine wg0 ?_ ?_ <;> intro hc)) | fail)
 refine wph_region (S := fun w' => Ext w0 w' ∧ w'.heap[b]? = some (.cells #[p, v] 219 (0, 0))) (by decide +kernel) ?_
 intro w1 x1 hh1
 have hS : Ext w0 w1 ∧ w1.heap[b]? = some (.cells #[p, v] 219 (0, 0)) := ⟨hx0.trans x1, Ext.heapEq hh1 hbk⟩
 have hsl' := (Own.sl (B := B) (k := 1) (e := 5) (es := bcells l) ⟨by rw [bcells_flat]; simpa [bcells, Lib.byteCells] using ownsRowG_of hown, by simp [bcells]⟩)
 ((with_reducible apply wph_take (i := 0)); (rfl); (rfl); (decide +kernel); (decide +kernel); (decide +kernel); (rfl); (exact hS); (intro w9 hS9; (have hp := pts_block (cs := [p, v]) hS9.2); exact rn); (exact fun _ _ _ h => h); (refine gset ?_)); ((with_reducible apply wph_take (i := 1)); (rfl); (rfl); (decide +kernel); (decide +kernel); (decide +kernel); (rfl); (exact hS); (intro w9 hS9; (have hp := pts_block (cs := [p, v]) hS9.2); exact rn); (exact fun _ _ _ h => h); (refine gset ?_)); ((with_reducible apply wph_take (i := 2)); (rfl); (rfl); (decide +kernel); (decide +kernel); (decide +kernel); (rfl); (exact hS); (intro w9 hS9; (have hp := pts_block (cs := [p, v]) hS9.2); exact rn); (exact fun _ _ _ h => h); (refine gset ?_)); ((with_reducible apply wph_take (i := 3)); (rfl); (rfl); (decide +kernel); (decide +kernel); (decide +kernel); (rfl); (exact hS); (intro w9 hS9; (have hp := pts_block (cs := [p, v]) hS9.2); exact rn); (exact fun _ _ _ h => h); (refine gset ?_)); ((with_reducible apply wph_take (i := 5)); (rfl); (rfl); (decide +kernel); (decide +kernel); (decide +kernel); (rfl); (exact hS); (intro w9 hS9; (have hp := pts_block (cs := [p, v]) hS9.2); exact rn); (exact fun _ _ _ h => h); (refine gset ?_)); ((with_reducible apply wph_take (i := 6)); (rfl); (rfl); (decide +kernel); (decide +kernel); (decide +kernel); (rfl); (exact hS); (intro w9 hS9; (have hp := pts_block (cs := [p, v]) hS9.2); exact rn); (exact fun _ _ _ h => h); (refine gset ?_)); ((with_reducible apply wph_take (i := 7)); (rfl); (rfl); (decide +kernel); (decide +kernel); (decide +kernel); (rfl); (exact hS); (intro w9 hS9; (have hp := pts_block (cs := [p, v]) hS9.2); exact rn); (exact fun _ _ _ h => h); (refine gset ?_)); ((with_reducible apply wph_take (i := 8)); (rfl); (rfl); (decide +kernel); (decide +kernel); (decide +kernel); (rfl); (exact hS); (intro w9 hS9; (have hp := pts_block (cs := [p, v]) hS9.2); exact rn); (exact fun _ _ _ h => h); (refine gset ?_))
 have hsz : ∀ w', (Sl 1 w' v (bcells l)) ∨ True := fun _ => .inr trivial
 refine wph_take (i := 9) (v := .int .i64 ((bcells l).length : Nat)) rfl rfl (by decide +kernel) (by decide +kernel) (by decide +kernel) rfl hS (fun w' _ => ?_) (fun _ _ _ h => h) ?_
 ·obtain ⟨ad, cap, h1, _⟩ := hsl'.out
  obtain ⟨e, i, ht, _⟩ := sliceOf_spec (P := Tryz.prog) (t := 216) (k := 1) (by decide +kernel)
  exact ⟨by simp [execOp, resolve, invoke, builtin, Act.eval, h1, Builtin.len_, run_underlying ht, goInt]⟩
 refine gset ?_
 have hlb : (bcells l).length = l.length := by simp [bcells]
 have hE : Ext w0 w1 := hx0.trans x1
 obtain ⟨q, w2, hr2, x2, hq⟩ : ∃ q w2, (Builtin.unsafeSliceData_ #[216] 265 #[v]).run Tryz.prog w1 = .ok (.pointer q) w2 ∧ Ext w1 w2 ∧ (l ≠ [] → ∃ g cur, q = some ⟨g, 0, none⟩ ∧ B ≤ g ∧ w2.heap[g]? = some (.cells cur 5 (0, 0)) ∧ l.length ≤ cur.size ∧ ∀ j x, l[j]? = some x → w2.cell? ⟨g, j, none⟩ = some (.int .u8 (x.toNat : Nat))) := by
  rcases hown.2 with ⟨rfl, h0⟩ | ⟨g, cap, cur, rfl, hbg, hg, hnc, hcm, hcs, htake⟩
  ·refine ⟨none, w1, rfl, Ext.refl _, fun hne => absurd (List.eq_nil_of_length_eq_zero ?_) hne⟩
   simpa [Lib.byteCells] using h0
  ·have hg1 : w1.heap[g]? = some (.cells cur 5 (0, 0)) := Ext.heapEq hh1 hg
   by_cases hc : cap = 0
   ·subst hc
    have hl0 : l = [] := List.eq_nil_of_length_eq_zero (by simpa [Lib.byteCells] using hnc)
    exact ⟨_, _, Lib.run_unsafeSliceData_zero w1 _ _ 5 Tryz.underlying265 ⟨g, 0, none⟩ _ (5, cur.size) (by simp [World.shape?, hg1]), Ext.alloc _ _, fun hne => absurd hl0 hne⟩
   ·refine ⟨_, w1, Lib.run_unsafeSliceData_row _ _ _ _ _ _ hc, Ext.refl _, fun _ => ⟨g, cur, rfl, hbg, hg1, ?_, fun j x hj => ?_⟩⟩
    ·have : l.length ≤ cap := by simpa [Lib.byteCells] using hnc
     omega
    ·rw [cell_of_row w1 g j cur 5 _ hg1]
     have := congrArg (·[j]?) htake
     have hjl : j < l.length := (List.getElem?_eq_some_iff.1 hj).1
     simp only [List.getElem?_take] at this
     rw [if_pos (by simpa [Lib.byteCells] using hjl)] at this
     rw [← Array.getElem?_toList, this]
     simp [Lib.byteCells, hj]
 refine wph_one (i := 4) (by decide +kernel) rfl rfl ?_
 refine wpl_val rfl (w' := w2) (v := .pointer q) (by simp [execOp, resolve, invoke, builtin, evalT, Act.eval, hr2]) ?_
 refine gset ?_
 have hb1 : b < w1.heap.size := (Array.getElem?_eq_some_iff.1 hS.2).1
 refine wph_nil ⟨⟨hE.trans x2, x2.at hS.2⟩, ?_⟩
 have hE2 : Ext w0 w2 := hE.trans x2
 obtain ⟨w3, hr3, x3, hb3⟩ : ∃ w3, (Builtin.unsafeString_ #[265, 3] 9 #[.pointer q, .int .i64 ((bcells l).length : Nat)]).run Tryz.prog w2 = .ok (str l) w3 ∧ Ext w0 w3 ∧ w3.heap[b]? = some (.cells #[p, v] 219 (0, 0)) := by
  by_cases hl0 : l = []
  ·subst hl0
   exact ⟨w2, Lib.run_unsafeString_none w2 _ _ _ q, hE2, x2.at hS.2⟩
  ·obtain ⟨g, cur, rfl, hbg, hg2, hcl, hcell⟩ := hq hl0
   refine ⟨_, by rw [hlb]; exact Lib.run_unsafeString_row w2 265 3 9 5 Tryz.underlying265 (by decide +kernel) g cur.size (by simp [World.shape?, hg2]) l hl0 hcl hlen (fun j x hj => by rw [add_none, Nat.zero_add]; exact hcell j x hj), freeze_ext hE2 (by omega), ?_⟩
   have hgb : g ≠ b := by
    rintro rfl
    rw [x2.at hS.2] at hg2
    simp at hg2
   unfold World.freeze
   split
   ·exact x2.at hS.2
   ·simp only [Array.getElem?_modify]
    rw [if_neg hgb]
    exact x2.at hS.2
 refine wph_one (i := 10) (by decide +kernel) rfl rfl ?_
 refine wpl_val rfl (w' := w3) (v := str l) (by rw [hlb] at hr3; simp [execOp, resolve, invoke, builtin, Act.eval, hlb, hr3]) ?_
 refine gset ?_
 refine wph_nil ⟨⟨x3, hb3⟩, ?_⟩
 refine wph_one (i := 11) (by decide +kernel) rfl rfl ?_
 (repeat' first | ((with_reducible refine nx0 ?_); go_step) | ((with_reducible refine o_s ?_); first | refine wk0 ?_ | (refine wg0 ?_ ?_ <;> intro hc)) | fail)
 refine ⟨⟨x3, hb3⟩, ?_⟩
 refine wph_done (by decide +kernel) ?_
 (repeat' first | ((with_reducible refine nx0 ?_); go_step) | ((with_reducible refine o_s ?_); first | refine wk0 ?_ | (refine wg0 ?_ ?_ <;> intro hc)) | fail)
 go_ret
 exact ⟨rfl, x3⟩
theorem enc_append (a b : List (List UInt8)) : enc (a ++ b) = enc a ++ enc b := by simp [enc]
theorem enc_one (x : List UInt8) : enc [x] = UInt8.ofNat x.length :: x := by simp [enc]
theorem join_bad {ls : List (List UInt8)} {x : List UInt8} (h : x ∈ ls) (hb : fitL x = false) : join ls = none := by
 rw [join, if_neg]
 rintro ⟨h1, _⟩
 have := List.all_eq_true.1 h1 x h
 rw [hb] at this
 cases this
theorem join_long {ls : List (List UInt8)} {k : Nat} (h : 254 < (enc (ls.take k)).length) : join ls = none := by
 rw [join, if_neg]
 rintro ⟨_, h2⟩
 have : enc ls = enc (ls.take k) ++ enc (ls.drop k) := by rw [← enc_append, List.take_append_drop]
 rw [this, List.length_append] at h2
 omega
theorem byteCells_append (a b : List UInt8) : Lib.byteCells (a ++ b) = Lib.byteCells a ++ Lib.byteCells b := by simp [Lib.byteCells]
theorem byteCells_len (a : List UInt8) : (Lib.byteCells a).length = a.length := by simp [Lib.byteCells]
set_option maxHeartbeats 1000000 in
theorem t30 (v : Value) (ls : List (List UInt8)) (w : World) (h : Sl 1 w v (tcells ls)) (hl : ls.length ≤ 9223372036854775806) : Calls Tryz.prog 131 #[v] w (RetV w (match join ls with | some n => .tuple #[str n, .int .i64 0] | none => .tuple #[str [], .int .i64 1])) := by
 go_enter Tryz.func131, Tryz.ntmps131
 repeat' (first | ((with_reducible refine nx0 ?_); go_step) | fail)
 (repeat' first | ((with_reducible refine nx0 ?_); go_step) | ((with_reducible refine o_s ?_); first | refine wk0 ?_ | (refine wg0 ?_ ?_ <;> intro hc)) | fail)
 refine wpl_allocB (z := [.pointer none, .slice none 0 0]) rfl (by decide +kernel) ?_
 intro w1 x1 s1 h1
 refine gset ?_
 have hb : Lib.IsBuilder 219 5 w.heap.size w.heap.size (Lib.byteCells []) w1 := .inl ⟨Nat.le_refl _, .slice none 0 0, h1, World.ownsRow_nil _ _ _ _, by simp [Value.ownBlock]⟩
 have hs := h.ext x1
 (repeat' first | ((with_reducible refine nx0 ?_); go_step) | ((with_reducible refine o_s ?_); first | refine wk0 ?_ | (refine wg0 ?_ ?_ <;> intro hc)) | fail)
 clear hs
 have hlt : (tcells ls).length = ls.length := by simp [tcells]
 rw [hlt]
 go_loopw [9] (fun i wr => ∃ k : Nat, k ≤ ls.length ∧ i = .int .i64 k ∧ Ext w wr ∧ Lib.IsBuilder 219 5 w.heap.size w.heap.size (Lib.byteCells (enc (ls.take k))) wr ∧ (ls.take k).all fitL = true ∧ (enc (ls.take k)).length ≤ 318) (fun i _ => ls.length - (intOf i).toNat)
 case atStart => exact ⟨0, Nat.zero_le _, rfl, x1, hb, rfl, by simp [enc]⟩
 case round =>
  obtain ⟨k, hk, rfl, hx, hbk, hall, h318⟩ := hrel
  have hsl := h.ext hx
  by_cases hlt : k < ls.length
  ·have hp := hsl.elem (e := [str ls[k]]) (i := k) (by simp [tcells, hlt])
   have hmem : ls[k] ∈ ls := List.getElem_mem hlt
   (repeat' first | ((with_reducible refine nx0 ?_); go_step) | ((with_reducible refine o_s ?_); first | refine wk0 ?_ | (refine wg0 ?_ ?_ <;> intro hc)) | fail)
   ·rename_i hc0 hc1 hc2
    refine wpl_callG (enters_of Tryz.func189 rfl rfl) rfl rfl (Tryz.Builder_Len _ _ _ _ hbk) ?_
    rintro e w2 ⟨rfl, rfl⟩
    refine ⟨_, rfl, ?_⟩
    refine gset ?_
    rw [byteCells_len]
    (repeat' first | ((with_reducible refine nx0 ?_); go_step) | ((with_reducible refine o_s ?_); first | refine wk0 ?_ | (refine wg0 ?_ ?_ <;> intro hc)) | fail)
    ·rename_i hc3
     go_ret2
     refine ⟨?_, hx⟩
     rw [join_long (k := k) (by omega)]
     rfl
    ·rename_i hc3
     have h63 : ls[k].length ≤ 63 := by omega
     have e8 : IntKind.wrap .u8 ((ls[k].length : Nat) : Int) = ((ls[k].length : Nat) : Int) := by simp [IntKind.wrap, IntKind.bits, IntKind.signed]; omega
     rw [e8]
     refine wpl_callG (enters_of Tryz.func190 rfl rfl) rfl rfl (T.Builder_WriteByte _ _ _ _ _ hbk (by rw [byteCells_len]; omega) hx.size) ?_
     rintro e w3 ⟨rfl, hb3, bl3, dr3⟩
     refine ⟨_, rfl, ?_⟩
     refine gset ?_
     (repeat' first | ((with_reducible refine nx0 ?_); go_step) | ((with_reducible refine o_s ?_); first | refine wk0 ?_ | (refine wg0 ?_ ?_ <;> intro hc)) | fail)
     refine wpl_callG (enters_of Tryz.func191 rfl rfl) rfl rfl (T.Builder_WriteString _ _ _ _ _ (.inr hb3) (by rw [List.length_append, byteCells_len, size_mk]; simp; omega) (Nat.le_trans hx.size bl3.size)) ?_
     rintro e w4 ⟨rfl, hb4, bl4, dr4⟩
     refine ⟨_, rfl, ?_⟩
     refine gset ?_
     have hx4 : Ext w w4 := hx.below' (bl3.trans bl4) (Nat.le_trans dr3 dr4)
     have hb5 : Lib.IsBuilder 219 5 w.heap.size w.heap.size (Lib.byteCells (enc (ls.take (k + 1)))) w4 := by
      rw [List.take_add_one, List.getElem?_eq_getElem hlt, Option.toList_some, enc_append, enc_one, byteCells_append]
      have e : Lib.byteCells (UInt8.ofNat ls[k].length :: ls[k]) = Value.int .u8 (ls[k].length : Nat) :: Lib.strCells ⟨ls[k].toArray⟩ := by
       have : (UInt8.ofNat ls[k].length).toNat = ls[k].length := by simp; omega
       simp [Lib.byteCells, Lib.strCells, this]
      rw [e]
      refine .inr ?_
      simpa using hb4
     have hall2 : (ls.take (k + 1)).all fitL = true := by
      rw [List.take_add_one, List.getElem?_eq_getElem hlt, Option.toList_some, List.all_append, hall]
      have : ls[k].length ≠ 0 := fun e => hc2 (List.eq_nil_of_length_eq_zero e)
      simp [fitL]; omega
     have h3182 : (enc (ls.take (k + 1))).length ≤ 318 := by
      rw [List.take_add_one, List.getElem?_eq_getElem hlt, Option.toList_some, enc_append, enc_one]
      simp; omega
     clear hbk hb3 hb4 bl3 bl4 hsl hp
     (repeat' first | ((with_reducible refine nx0 ?_); go_step) | ((with_reducible refine o_s ?_); first | refine wk0 ?_ | (refine wg0 ?_ ?_ <;> intro hc)) | fail)
     exact ⟨⟨k + 1, by omega, rfl, hx4, hb5, hall2, h3182⟩, by simp [intOf]; omega⟩
   ·go_ret2
    refine ⟨?_, hx⟩
    rw [join_bad hmem (by simp [fitL]; omega)]
    rfl
   ·go_ret2
    refine ⟨?_, hx⟩
    rw [join_bad hmem (by simp [fitL, hc])]
    rfl
  ·have : k = ls.length := by omega
   subst this
   rw [List.take_length] at hbk hall h318
   (repeat' first | ((with_reducible refine nx0 ?_); go_step) | ((with_reducible refine o_s ?_); first | refine wk0 ?_ | (refine wg0 ?_ ?_ <;> intro hc)) | fail)
   refine wpl_callG (enters_of Tryz.func189 rfl rfl) rfl rfl (Tryz.Builder_Len _ _ _ _ hbk) ?_
   rintro e w2 ⟨rfl, rfl⟩
   refine ⟨_, rfl, ?_⟩
   refine gset ?_
   rw [byteCells_len]
   (repeat' first | ((with_reducible refine nx0 ?_); go_step) | ((with_reducible refine o_s ?_); first | refine wk0 ?_ | (refine wg0 ?_ ?_ <;> intro hc)) | fail)
   ·go_ret2
    refine ⟨?_, hx⟩
    rw [join_long (k := ls.length) (by rw [List.take_length]; omega)]
    rfl
   ·refine wpl_callG (enters_of Tryz.func192 rfl rfl) rfl rfl (T.Builder_String _ _ _ w _ hbk hx (Nat.le_refl _) (by omega)) ?_
    rintro e w3 ⟨rfl, x3⟩
    refine ⟨_, rfl, ?_⟩
    refine gset ?_
    (repeat' first | ((with_reducible refine nx0 ?_); go_step) | ((with_reducible refine o_s ?_); first | refine wk0 ?_ | (refine wg0 ?_ ?_ <;> intro hc)) | fail)
    go_ret2
    refine ⟨?_, x3⟩
    rw [join, if_pos ⟨hall, by omega⟩]
    rfl
theorem tcells_get (l : List (List UInt8)) (k : Nat) (b : List UInt8) (h : l[k]? = some b) : (tcells l)[k]? = some [str b] := by simp [tcells, h]
theorem tcells_set (l : List (List UInt8)) (k : Nat) (b : List UInt8) : (tcells l).set k [str b] = tcells (l.set k b) := by simp [tcells, List.map_set]
theorem tcells_length (l : List (List UInt8)) : (tcells l).length = l.length := by simp [tcells]
set_option maxHeartbeats 1000000 in
theorem t17 (nm : List UInt8) (w : World) : Calls Tryz.prog 69 #[str nm] w (RetV w (str (fold nm))) := by
 go_enter Tryz.func69, Tryz.ntmps69
 (repeat' first | ((with_reducible refine nx0 ?_); go_step) | ((with_reducible refine o_s ?_); first | refine wk0 ?_ | (refine wg0 ?_ ?_ <;> intro hc)) | fail)
 refine wpl_callR (enters_of Tryz.func124 rfl rfl) rfl rfl (t28 nm _) ?_
 intro v w1 x1 hv
 cases hl : labels nm with
 | none =>
  rw [hl] at hv
  subst hv
  (repeat' first | ((with_reducible refine nx0 ?_); go_step) | ((with_reducible refine o_s ?_); first | refine wk0 ?_ | (refine wg0 ?_ ?_ <;> intro hc)) | fail)
  go_ret
  exact ⟨by simp [fold, hl], x1⟩
 | some ls =>
  rw [hl] at hv
  obtain ⟨s, rfl, hs⟩ := hv
  have hfit := labels_fit hl
  have hlen := len_le_enc ls
  rw [hfit.2.1] at hlen
  have hsl := hs.sl
  (repeat' first | ((with_reducible refine nx0 ?_); go_step) | ((with_reducible refine o_s ?_); first | refine wk0 ?_ | (refine wg0 ?_ ?_ <;> intro hc)) | fail)
  clear hsl
  rw [tcells_length]
  go_loopw [19] (fun i wr => ∃ k : Nat, k ≤ ls.length ∧ i = .int .i64 k ∧ Ext w wr ∧ Own w.heap.size 1 9 wr s (tcells (mapP low ls k))) (fun i _ => ls.length - (intOf i).toNat)
  case atStart => exact ⟨0, Nat.zero_le _, rfl, x1, by simpa [mapP_zero] using hs⟩
  case round =>
   obtain ⟨k, hk, rfl, hx, ho⟩ := hrel
   have hsl := ho.sl
   have hlen2 : (tcells (mapP low ls k)).length = ls.length := by rw [tcells_length, mapP_length]
   by_cases hlt : k < ls.length
   ·have hp := hsl.elem (tcells_get _ _ _ (mapP_get low ls k hlt))
    have h254 : ls[k].length ≤ 254 := by have := mem_enc_le (List.getElem_mem hlt); rw [hfit.2.1] at this; omega
    (repeat' first | ((with_reducible refine nx0 ?_); go_step) | ((with_reducible refine o_s ?_); first | refine wk0 ?_ | (refine wg0 ?_ ?_ <;> intro hc)) | fail)
    refine wpl_callV (enters_of Tryz.func130 rfl rfl) rfl rfl (t29 _ _ h254) ?_
    intro w2 x2
    refine gset ?_
    have hsl := hsl.ext x2
    have ho := ho.ext x2
    have hx := hx.trans x2
    clear hp
    (repeat' first | ((with_reducible refine nx0 ?_); go_step) | ((with_reducible refine o_s ?_); first | refine wk0 ?_ | (refine wg0 ?_ ?_ <;> intro hc)) | fail)
    refine wpl_storeE1 (c := str (low ls[k])) (i := k) rfl rfl rfl ho (by omega) (by decide +kernel) rfl ?_
    intro w3 o3 m3
    have hx3 := ho.mvx m3 hx (Nat.le_refl _)
    rw [tcells_set, ← mapP_succ low ls k hlt] at o3
    clear hx ho hsl
    (repeat' first | ((with_reducible refine nx0 ?_); go_step) | ((with_reducible refine o_s ?_); first | refine wk0 ?_ | (refine wg0 ?_ ?_ <;> intro hc)) | fail)
    exact ⟨⟨k + 1, by omega, rfl, hx3, o3⟩, by simp [intOf]; omega⟩
   ·have : k = ls.length := by omega
    subst this
    rw [mapP_all] at hsl
    (repeat' first | ((with_reducible refine nx0 ?_); go_step) | ((with_reducible refine o_s ?_); first | refine wk0 ?_ | (refine wg0 ?_ ?_ <;> intro hc)) | fail)
    refine wpl_callV (enters_of Tryz.func131 rfl rfl) rfl rfl (t30 _ _ _ hsl (by simp; omega)) ?_
    intro w2 x2
    refine gset ?_
    cases hj : join (ls.map low) with
    | none =>
     (repeat' first | ((with_reducible refine nx0 ?_); go_step) | ((with_reducible refine o_s ?_); first | refine wk0 ?_ | (refine wg0 ?_ ?_ <;> intro hc)) | fail)
     go_ret
     exact ⟨by simp [fold, hl, hj], hx.trans x2⟩
    | some n =>
     (repeat' first | ((with_reducible refine nx0 ?_); go_step) | ((with_reducible refine o_s ?_); first | refine wk0 ?_ | (refine wg0 ?_ ?_ <;> intro hc)) | fail)
     go_ret
     exact ⟨by simp [fold, hl, hj], hx.trans x2⟩
theorem drop_get {l : List UInt8} {i : Nat} (h : i < l.length) : l.drop i = l[i] :: l.drop (i + 1) := List.drop_eq_getElem_cons h
theorem getD_get {l : List UInt8} {i : Nat} (h : i < l.length) : l.getD i 0 = l[i] := by simp [h]
theorem parse_at {l : List UInt8} {i : Nat} (h : i < l.length) : parse (l.drop i) = if (l.getD i 0).toNat < 1 ∨ 63 < (l.getD i 0).toNat ∨ l.length - i - 1 < (l.getD i 0).toNat then none else (parse (l.drop (i + 1 + (l.getD i 0).toNat))).map ((l.take (i + 1 + (l.getD i 0).toNat)).drop (i + 1) :: ·) := by
 rw [drop_get h, getD_get h, parse_cons]
 simp only [List.length_drop]
 rw [show l.length - (i + 1) = l.length - i - 1 by omega]
 congr 1
 rw [List.drop_drop, List.drop_take]
 rw [show i + 1 + l[i].toNat - (i + 1) = l[i].toNat by omega]
set_option maxHeartbeats 1000000 in
theorem r1_cut (nm : List UInt8) (w : World) : Calls Tryz.prog 136 #[str nm] w (Ret w fun v w' => match labels nm with
 | none => v = .tuple #[.slice none 0 0, .bool false]
 | some ls => ∃ s, v = .tuple #[s, .bool true] ∧ Own w.heap.size 1 9 w' s (tcells ls)) := by
 by_cases h254 : 254 < nm.length
 ·go_enter Tryz.func136, Tryz.ntmps136
  (repeat' first | ((with_reducible refine nx0 ?_); go_step) | ((with_reducible refine o_s ?_); first | refine wk0 ?_ | (refine wg0 ?_ ?_ <;> intro hc)) | fail)
  go_ret2
  exact ⟨_, rfl, Ext.refl _, by simp [labels, h254]⟩
 ·have hlab : labels nm = parse nm := by rw [labels, if_neg h254]
  rw [hlab]
  go_enter Tryz.func136, Tryz.ntmps136
  (repeat' first | ((with_reducible refine nx0 ?_); go_step) | ((with_reducible refine o_s ?_); first | refine wk0 ?_ | (refine wg0 ?_ ?_ <;> intro hc)) | fail)
  have h0 : 0 ≤ nm.length := Nat.zero_le _
  go_loopw [4, 5, 6] (fun o a _ wr => ∃ (i : Nat) (pre : List (List UInt8)), i ≤ nm.length ∧ a = .int .i64 i ∧ Ext w wr ∧ Own w.heap.size 1 9 wr o (tcells pre) ∧ pre.length ≤ i ∧ parse nm = (parse (nm.drop i)).map (pre ++ ·)) (fun _ a _ _ => nm.length - (intOf a).toNat)
  case atStart => exact ⟨0, [], Nat.zero_le _, rfl, Ext.refl _, Own.nil _ _ _ _, Nat.le_refl _, by simp⟩
  case round =>
   obtain ⟨i, pre, hi, rfl, hx, ho, hpl, hpar⟩ := hrel
   by_cases hlt : i < nm.length
   ·rw [parse_at hlt] at hpar
    have hb : (nm.getD i 0).toNat < 256 := UInt8.toNat_lt _
    (repeat' first | ((with_reducible refine nx0 ?_); go_step) | ((with_reducible refine o_s ?_); first | refine wk0 ?_ | (refine wg0 ?_ ?_ <;> intro hc)) | fail)
    rotate_left
    ·rw [if_neg (by omega), Option.map_map] at hpar
     refine ap1 [str ((nm.take (i + 1 + (nm.getD i 0).toNat)).drop (i + 1))] hx ho (by rw [tcells_length]; omega) ?_
     intro s2 v2 w1 w2 _ _ x2 o2
     refine gset ?_
     (repeat' first | ((with_reducible refine nx0 ?_); go_step) | ((with_reducible refine o_s ?_); first | refine wk0 ?_ | (refine wg0 ?_ ?_ <;> intro hc)) | fail)
     refine ⟨⟨i + 1 + (nm.getD i 0).toNat, pre ++ [(nm.take (i + 1 + (nm.getD i 0).toNat)).drop (i + 1)], by omega, by go_num, x2, ?_, by simp; omega, ?_⟩, by simp [intOf]; omega⟩
     ·simpa [tcells] using o2
     ·rw [hpar]; congr 1; funext x; simp
    all_goals
     go_ret2
     exact ⟨_, rfl, hx, by rw [hpar, if_pos (by omega)]; rfl⟩
   ·have : i = nm.length := by omega
    subst this
    rw [List.drop_length, parse_nil, Option.map_some, List.append_nil] at hpar
    (repeat' first | ((with_reducible refine nx0 ?_); go_step) | ((with_reducible refine o_s ?_); first | refine wk0 ?_ | (refine wg0 ?_ ?_ <;> intro hc)) | fail)
    go_ret2
    exact ⟨_, rfl, hx, by rw [hpar]; exact ⟨_, rfl, ho⟩⟩
theorem r1_Check (nm : List UInt8) (w : World) : Calls Tryz.prog 73 #[str nm] w (RetV w (.int .i64 (if (labels nm).isSome then 0 else 1))) := by
 go_enter Tryz.func73, Tryz.ntmps73
 (repeat' first | ((with_reducible refine nx0 ?_); go_step) | ((with_reducible refine o_s ?_); first | refine wk0 ?_ | (refine wg0 ?_ ?_ <;> intro hc)) | fail)
 refine wpl_callR (enters_of Tryz.func136 rfl rfl) rfl rfl (r1_cut nm _) ?_
 intro v w1 x1 hv
 cases hl : labels nm with
 | none =>
  rw [hl] at hv
  subst hv
  (repeat' first | ((with_reducible refine nx0 ?_); go_step) | ((with_reducible refine o_s ?_); first | refine wk0 ?_ | (refine wg0 ?_ ?_ <;> intro hc)) | fail)
  go_ret
  exact ⟨by simp [hl], x1⟩
 | some ls =>
  rw [hl] at hv
  obtain ⟨s, rfl, _⟩ := hv
  (repeat' first | ((with_reducible refine nx0 ?_); go_step) | ((with_reducible refine o_s ?_); first | refine wk0 ?_ | (refine wg0 ?_ ?_ <;> intro hc)) | fail)
  go_ret
  exact ⟨by simp [hl], x1⟩
theorem lowB_of32 {b : UInt8} (h : 65 ≤ b.toNat) (h2 : b.toNat ≤ 90) : IntKind.wrap .u8 ((b.toNat : Int) + 32) = ((lowB b).toNat : Int) := by
 rw [lowB, if_pos ⟨h, h2⟩]
 have : (b + 32).toNat = b.toNat + 32 := by rw [UInt8.toNat_add]; simp; omega
 rw [this]
 simp [IntKind.wrap, IntKind.bits, IntKind.signed]; omega
set_option maxHeartbeats 1000000 in
theorem r1_Small (l : List UInt8) (w : World) (hl : l.length ≤ 4611686018427387904) : Calls Tryz.prog 169 #[str l] w (RetV w (str (low l))) := by
 go_enter Tryz.func169, Tryz.ntmps169
 (repeat' first | ((with_reducible refine nx0 ?_); go_step) | ((with_reducible refine o_s ?_); first | refine wk0 ?_ | (refine wg0 ?_ ?_ <;> intro hc)) | fail)
 refine wpl_bytes (e := 5) (l := l) rfl rfl (by decide +kernel) (by decide +kernel) (by omega) ?_
 intro v w1 x1 o1
 refine gset ?_
 have hlb : (bcells l).length = l.length := by simp [bcells]
 (repeat' first | ((with_reducible refine nx0 ?_); go_step) | ((with_reducible refine o_s ?_); first | refine wk0 ?_ | (refine wg0 ?_ ?_ <;> intro hc)) | fail)
 go_loopw [4] (fun i wr => ∃ k : Nat, k ≤ l.length ∧ i = .int .i64 k ∧ Ext w wr ∧ Own w.heap.size 1 5 wr v (bcells (lowP l k))) (fun i _ => l.length - (intOf i).toNat)
 case atStart => exact ⟨0, Nat.zero_le _, rfl, x1, by simpa [lowP_zero] using o1⟩
 case round =>
  obtain ⟨k, hk, rfl, hx, ho⟩ := hrel
  have hsl := ho.sl
  have hlen : (bcells (lowP l k)).length = l.length := by simp [bcells, lowP_length]
  by_cases hlt : k < l.length
  ·have hp := hsl.elem (bcells_get _ _ _ (lowP_get l k hlt))
   (repeat' first | ((with_reducible refine nx0 ?_); go_step) | ((with_reducible refine o_s ?_); first | refine wk0 ?_ | (refine wg0 ?_ ?_ <;> intro hc)) | fail)
   ·refine wpl_storeE1 (c := .int .u8 _) (i := k) rfl rfl rfl ho (by omega) (by decide +kernel) rfl ?_
    intro w2 o2 m2
    have hx2 := ho.mvx m2 hx (Nat.le_refl _)
    have e2 : (bcells (lowP l k)).set k [Value.int .u8 (IntKind.u8.wrap (↑l[k].toNat + 32))] = bcells (lowP l (k + 1)) := by
     rw [lowP_succ l k hlt, ← bcells_set, lowB_of32 (by omega) (by omega)]
    rw [e2] at o2
    clear hx ho hsl hp
    (repeat' first | ((with_reducible refine nx0 ?_); go_step) | ((with_reducible refine o_s ?_); first | refine wk0 ?_ | (refine wg0 ?_ ?_ <;> intro hc)) | fail)
    exact ⟨⟨k + 1, by omega, by go_num, hx2, o2⟩, by simp [intOf]; omega⟩
   all_goals
    refine ⟨⟨k + 1, by omega, by go_num, hx, ?_⟩, by simp [intOf]; omega⟩
    rw [lowP_same l k hlt (lowB_no (by omega))]; exact ho
  ·have : k = l.length := by omega
   subst this
   rw [lowP_all] at hsl hlen
   (repeat' first | ((with_reducible refine nx0 ?_); go_step) | ((with_reducible refine o_s ?_); first | refine wk0 ?_ | (refine wg0 ?_ ?_ <;> intro hc)) | fail)
   go_ret
   exact ⟨rfl, hx⟩
end Go.Proofs.X
