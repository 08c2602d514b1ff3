/- Laws and walks that the proof of the statement is made of (part 7). -/
import Derived.Laws.OwnMore
import Derived.Laws.StructEq
import Derived.Test.YtfgkdjkegifpgaaGreatProg
import Derived.Test.YtfgkdjkegifpgaaGreatP3
import Derived.Test.YtfgkdjkegifpgaaGreatP5
import Derived.Test.YtfgkdjkegifpgaaGreatP6
set_option linter.unusedVariables false
set_option linter.unusedSimpArgs false
namespace Go.Proofs.X
open Go.RowKit
def bytesOf (P : Program) (e : TypeId) : Nat := match P.info? e with | some i => i.bytes | none => 0
section
variable {P : Program} {ops : Array Oper} {Q : Exit → Act → World → Prop} {rest : List Oper} {ts : List Value} {df : List Deferred}
/-- what an operand is, and the cells that it takes -/
inductive ElemIs (a : Act) (x : Operand) (k : Nat) (ce : List Value) : Prop
  | mk {c : Value} (h1 : a.eval x = c) (h2 : c.cells.toList = ce) (h3 : ce.length = k) (h4 : ∀ u ∈ ce, u.oneCell' = true) : ElemIs a x k ce
/-- one element behind a slice of the call's own: it is laid in a slice of one, and that is appended -/
theorem ap1 (ce : List Value) {B k e t d1 d2 m ty1 ty2 : Nat} {ps1 ps2 : String} {af1 af2 : Array Edge} {x : Operand} {es : List (List Value)} {w0 w : World}
    (hx : Ext w0 w) (ho : Own B k e w (ts.getD m undef) es) (hl : es.length + 1 ≤ 1000000)
    (hk : ∀ s v' w1 w', Ext w w1 → Mv (ts.getD m undef).ownBlock w1 w' → Ext w0 w' → Own B k e w' v' (es ++ [ce]) → wpList P ops Q rest (Act.mk ((ts.set d1 s).set d2 v').toArray df) w')
    (hc : ElemIs (Act.mk ts.toArray df) x k ce := by (apply ElemIs.mk; (rfl); (rfl); (rfl); (simp [str, Value.oneCell'])))
    (ht : appTy P t e k (bytesOf P e) = true := by decide +kernel) (hby : bytesOf P e ≤ 1000000 := by decide +kernel) (hk16 : k ≤ 1000 := by decide) (hne : d1 ≠ m := by decide) (hdl : d1 < ts.length := by first | (simp; done) | (simp; omega))
    (hB : w0.heap.size ≤ B := by first | exact Nat.le_refl _ | omega) (hBw : B ≤ w.heap.size := by first | exact Ext.size (by assumption) | omega) :
    wpList P ops Q (Oper.mk (some d1) (.buildSlice t 1 #[(0, x)]) ty1 ps1 af1 none :: Oper.mk (some d2) (.call ⟨.builtin .append, #[.tmp m, .tmp d1], #[t, t]⟩) ty2 ps2 af2 none :: rest) (Act.mk ts.toArray df) w := by
  obtain ⟨hc, hce, hcs, h1⟩ := hc
  rename_i c
  have hcs' : c.cells.size = k := by rw [← Array.length_toList, hce]; exact hcs
  refine wpl_slice (k := k) (e := e) (bytes := bytesOf P e) (xs := [c]) (parts := [(0, x)]) rfl (by simp [hc]) rfl (by simpa using hcs') ht (by simp; omega) ?_
  intro s w1 x1 _ sl _
  have e1 : (ts.set d1 s).getD m undef = ts.getD m undef := by
    simp only [List.getD_eq_getElem?_getD]; rw [List.getElem?_set_ne hne]
  have ho1 := ho.ext x1
  rw [← e1] at ho1
  refine wpl_appendK (x := s) (B := B) (k := k) (e := e) (bytes := bytesOf P e) rfl ho1 (by rw [evalT]; simp [hdl]) sl ht (by simpa [hce] using h1) (Nat.le_trans hBw x1.size) ?_ ?_ ?_
  · simp only [List.length_map, List.length_cons, List.length_nil]
    calc (es.length + (0 + 1)) * bytesOf P e ≤ 1000000 * 1000000 := Nat.mul_le_mul (by omega) hby
      _ ≤ _ := by decide
  · simp only [List.length_map, List.length_cons, List.length_nil]; omega
  · intro v' w' o' m' _
    rw [e1] at m'
    exact hk s v' w1 w' x1 m' ((ho.ext x1).mvx m' (hx.trans x1) hB) (by simpa [hce] using o')
end
section
variable {P : Program} {w : World} {a : Act} {d : Option Nat} {ty : TypeId} {ps : String} {af : Array Edge} {g : Option (Nat × Bool)}
theorem Runs.remN {t u : TypeId} {x y : Operand} {m n : Nat} (hx : a.eval x = .int .i64 (m : Nat)) (hy : a.eval y = .int .i64 (n : Nat)) (hn : 0 < n) (hm : m < 9223372036854775808) :
    Runs P (Oper.mk d (.binOp .rem t x y u) ty ps af g) a w (.int .i64 ((m % n : Nat) : Int)) := by
  have hle : m % n ≤ m := Nat.mod_le _ _
  have e : Int.tmod (m : Int) (n : Int) = ((m % n : Nat) : Int) := by rw [Int.tmod_eq_emod_of_nonneg (by omega)]; simp
  have h0 : n ≠ 0 := by omega
  have hb : -9223372036854775808 ≤ (m : Int) % (n : Int) ∧ (m : Int) % (n : Int) ≤ 9223372036854775807 := by
    rw [show (m : Int) % (n : Int) = ((m % n : Nat) : Int) by simp]; omega
  constructor
  simp [execOp, hx, hy, eqGuard, binOp, Op.intDiv, h0, e, IntWalk.i64_in _ hb]
theorem Runs.quoN {t u : TypeId} {x y : Operand} {m n : Nat} (hx : a.eval x = .int .i64 (m : Nat)) (hy : a.eval y = .int .i64 (n : Nat)) (hn : 0 < n) (hm : m < 9223372036854775808) :
    Runs P (Oper.mk d (.binOp .quo t x y u) ty ps af g) a w (.int .i64 ((m / n : Nat) : Int)) := by
  have hle : m / n ≤ m := Nat.div_le_self _ _
  have e : Int.tdiv (m : Int) (n : Int) = ((m / n : Nat) : Int) := by rw [Int.tdiv_eq_ediv_of_nonneg (by omega)]; simp
  have h0 : n ≠ 0 := by omega
  have hb : -9223372036854775808 ≤ (m : Int) / (n : Int) ∧ (m : Int) / (n : Int) ≤ 9223372036854775807 := by
    rw [show (m : Int) / (n : Int) = ((m / n : Nat) : Int) by simp]
    generalize m / n = q at hle
    omega
  constructor
  simp [execOp, hx, hy, eqGuard, binOp, Op.intDiv, h0, e, IntWalk.i64_in _ hb]
end
section
variable {P : Program} {ops : Array Oper} {Q : Exit → Act → World → Prop} {w : World} {rest : List Oper} {ts : List Value} {df : List Deferred} {ty : TypeId} {ps : String} {af : Array Edge}
theorem madeCells_one (z : Value) (n : Nat) : (madeCells #[z] n).toList = List.replicate n z := by
  apply List.ext_getElem?
  intro i
  simp [madeCells, List.getElem?_replicate]
  split <;> simp_all [Nat.mod_one]
/-- a slice of so many zeros -/
theorem wpl_makeZ {t e d n : Nat} {z : Value} {x y : Operand} (h : ∀ v w', Ext w w' → Own w.heap.size 1 e w' v (List.replicate n [z]) → wpList P ops Q rest (Act.mk (ts.set d v).toArray df) w')
    (hx : (Act.mk ts.toArray df).eval x = .int .i64 (n : Nat)) (hy : (Act.mk ts.toArray df).eval y = .int .i64 (n : Nat)) (hn : n ≤ 1000000)
    (ht : appTy P t e 1 (bytesOf P e) = true := by decide +kernel) (hz : zeroTy P e [z] = true := by decide +kernel) (hby : bytesOf P e ≤ 1000000 := by decide +kernel) :
    wpList P ops Q (Oper.mk (some d) (.makeSlice t x y) ty ps af none :: rest) (Act.mk ts.toArray df) w := by
  obtain ⟨hu, i, z', hi, hzi, hzc, hs, hb, hk⟩ := appTy_spec ht
  obtain ⟨i2, v2, hi2, hz2, hc2⟩ := zeroTy_spec hz
  rw [hi] at hi2; cases hi2
  rw [hzi] at hz2; cases hz2
  have hbn : (i.bytes : Int) * (n : Int) ≤ 281474976710656 := by
    rw [hb]
    have : bytesOf P e * n ≤ 1000000 * 1000000 := Nat.mul_le_mul hby hn
    have h2 : ((bytesOf P e * n : Nat) : Int) = (bytesOf P e : Int) * (n : Int) := by simp
    rw [← h2]; omega
  have hr := run_makeSlice (P := P) w t e i z' hu hi hzi .i64 .i64 (n : Int) (n : Int) (by omega) (Int.le_refl _) (by rw [hs]; omega) hbn (by omega)
  rw [Int.toNat_natCast, hs, hc2] at hr
  have hr' : (execOp (Act.mk ts.toArray df).eval (Oper.mk (some d) (.makeSlice t x y) ty ps af none)).run P w = .ok (.value (.slice (some ⟨w.heap.size, 0, none⟩) n n)) (w.alloc (.cells (madeCells [z].toArray (n * 1)) e)) := by
    simp only [execOp, hx, hy, Sem.run_bind, hr, Result.andThen_ok, Sem.run_pure]
  have hm : (madeCells [z].toArray (n * 1)).toList = List.replicate n z := by rw [Nat.mul_one]; exact madeCells_one z n
  have hmz : (madeCells [z].toArray (n * 1)).size = n := by rw [← Array.length_toList, hm]; simp
  refine wpl_val rfl hr' (h _ _ (Ext.alloc _ _) ⟨⟨by simp, ?_⟩, by simp⟩)
  refine .inr ⟨w.heap.size, n, _, (0, 0), by simp, Nat.le_refl _, heap_alloc_new w _, .inl (Nat.le_refl _), by simp, by unfold maxLen; omega, by rw [hmz]; omega, ?_⟩
  rw [hm, List.take_of_length_le (by simp)]
  exact (List.flatten_replicate_singleton ..).symm
end
section
variable {P : Program} {ops : Array Oper} {Q : Exit → Act → World → Prop} {w : World} {rest : List Oper} {ts : List Value} {df : List Deferred} {ty : TypeId} {ps : String} {af : Array Edge}
/-- append to what an operand holds -/
theorem wpl_appendO {t e k B d : Nat} {x0 y : Operand} {v0 x : Value} {es fs : List (List Value)} (h0 : (Act.mk ts.toArray df).eval x0 = v0)
    (h : Own B k e w v0 es) (hy : (Act.mk ts.toArray df).eval y = x) (hx : Sl k w x fs) (h1 : ∀ f ∈ fs, ∀ u ∈ f, u.oneCell' = true)
    (hB : B ≤ w.heap.size) (hm : es.length + fs.length ≤ 1000000)
    (hk : ∀ v' w', Own B k e w' v' (es ++ fs) → Mv v0.ownBlock w w' → (v'.ownBlock = v0.ownBlock ∨ v'.ownBlock = some w.heap.size) → wpList P ops Q rest (Act.mk (ts.set d v').toArray df) w')
    (ht : appTy P t e k (bytesOf P e) = true := by decide +kernel) (hby : bytesOf P e ≤ 1000000 := by decide +kernel) :
    wpList P ops Q (Oper.mk (some d) (.call ⟨.builtin .append, #[x0, y], #[t, t]⟩) ty ps af none :: rest) (Act.mk ts.toArray df) w := by
  have hb : (es.length + fs.length) * bytesOf P e ≤ 140737488355328 :=
    calc (es.length + fs.length) * bytesOf P e ≤ 1000000 * 1000000 := Nat.mul_le_mul hm hby
      _ ≤ _ := by decide
  obtain ⟨v', w', hr, ho, hmv, hkin⟩ := run_appendK (ty := ty) ht h hx h1 hB hb (by omega)
  refine wpl_val rfl ?_ (hk v' w' ho hmv hkin)
  simp [execOp, resolve, invoke, builtin, h0, hy, hr]
end
section
variable {P : Program} {Q : Exit → Act → World → Prop} {S : World → Prop} {l : List Oper} {fuel : Nat} {listed : List Bool} {w : World}
/-- one of three comes up -/
theorem wph_three {fuel2 : Nat} {i j k : Nat} {o o' o2 : Oper} {a : Act} (hr : Region.ready .any l.toArray listed.toArray = [i, j, k]) (hi : l[i]? = some o) (hj : l[j]? = some o') (hk : l[k]? = some o2) (hfu : fuel2 = fuel + 1)
    (h1 : wpList P l.toArray (Thn Q fun a' w' => S w' ∧ wpAnyH P .any l.toArray Q S fuel (listed.set i true).toArray a' w') [o] a w)
    (h2 : wpList P l.toArray (Thn Q fun a' w' => S w' ∧ wpAnyH P .any l.toArray Q S fuel (listed.set j true).toArray a' w') [o'] a w)
    (h3 : wpList P l.toArray (Thn Q fun a' w' => S w' ∧ wpAnyH P .any l.toArray Q S fuel (listed.set k true).toArray a' w') [o2] a w) : wpAnyH P .any l.toArray Q S fuel2 listed.toArray a w := by
  subst hfu
  refine wpAnyH_all hr (by simp) fun n hn => ?_
  have : n = i ∨ n = j ∨ n = k := by simpa using hn
  rcases this with rfl | rfl | rfl
  · refine wph_op (o := o) (by simpa using hi) ?_
    simpa using h1
  · refine wph_op (o := o') (by simpa using hj) ?_
    simpa using h2
  · refine wph_op (o := o2) (by simpa using hk) ?_
    simpa using h3
end
end Go.Proofs.X
set_option linter.unusedSimpArgs false
set_option linter.unusedVariables false
namespace Go.Proofs.X
open Go.RowKit
set_option maxRecDepth 100000
theorem parse_none {l : List UInt8} {k : UInt8} {t : List UInt8} (h : k.toNat < 1 ∨ 63 < k.toNat ∨ t.length < k.toNat) (e : l = k :: t) : parse l = none := by rw [e, parse_cons, if_pos h]
theorem drop_get {l : List UInt8} {i : Nat} (h : i < l.length) : l.drop i = l[i] :: l.drop (i + 1) := List.drop_eq_getElem_cons h
theorem getD_get {l : List UInt8} {i : Nat} (h : i < l.length) : l.getD i 0 = l[i] := by simp [h]
/-- what is found at a place, and what is behind it -/
theorem parse_at {l : List UInt8} {i : Nat} (h : i < l.length) : parse (l.drop i) = if (l.getD i 0).toNat < 1 ∨ 63 < (l.getD i 0).toNat ∨ l.length - i - 1 < (l.getD i 0).toNat then none else (parse (l.drop (i + 1 + (l.getD i 0).toNat))).map ((l.take (i + 1 + (l.getD i 0).toNat)).drop (i + 1) :: ·) := by
  rw [drop_get h, getD_get h, parse_cons]
  simp only [List.length_drop]
  rw [show l.length - (i + 1) = l.length - i - 1 by omega]
  congr 1
  rw [List.drop_drop, List.drop_take]
  rw [show i + 1 + l[i].toNat - (i + 1) = l[i].toNat by omega]
set_option maxHeartbeats 1000000 in
/-- lodestarref01.cut -/
theorem r1_cut (nm : List UInt8) (w : World) : Calls Tryz.prog 80 #[str nm] w (Ret w fun v w' => match labels nm with
    | none => v = .tuple #[.slice none 0 0, .bool false]
    | some ls => ∃ s, v = .tuple #[s, .bool true] ∧ Own w.heap.size 1 9 w' s (tcells ls)) := by
  by_cases h254 : 254 < nm.length
  · go_enter Tryz.func80, Tryz.ntmps80
    repeat' (first | ((with_reducible refine o_s ?_); (first | (refine o_1 ?_; refine o_2 ?_) | (refine o_g ?_; first | refine o_u ?_ | refine o_k ?_ | refine o_n ?_ | refine o_v ?_ | ((first | refine o_G ?_ ?_ | refine o_N ?_ ?_) <;> intro hc)))) | ((fail_if_success (with_reducible refine o_s ?_)); go_step))
    go_ret2
    exact ⟨_, rfl, Ext.refl _, by simp [labels, h254]⟩
  · have hlab : labels nm = parse nm := by rw [labels, if_neg h254]
    rw [hlab]
    go_enter Tryz.func80, Tryz.ntmps80
    repeat' (first | ((with_reducible refine o_s ?_); (first | (refine o_1 ?_; refine o_2 ?_) | (refine o_g ?_; first | refine o_u ?_ | refine o_k ?_ | refine o_n ?_ | refine o_v ?_ | ((first | refine o_G ?_ ?_ | refine o_N ?_ ?_) <;> intro hc)))) | ((fail_if_success (with_reducible refine o_s ?_)); go_step))
    have h0 : 0 ≤ nm.length := Nat.zero_le _
    go_loopw [4, 5, 6] (fun o a _ wr => ∃ (i : Nat) (pre : List (List UInt8)), i ≤ nm.length ∧ a = .int .i64 i ∧ Ext w wr ∧ Own w.heap.size 1 9 wr o (tcells pre) ∧ pre.length ≤ i ∧ parse nm = (parse (nm.drop i)).map (pre ++ ·)) (fun _ a _ _ => nm.length - (intOf a).toNat)
    case atStart => exact ⟨0, [], Nat.zero_le _, rfl, Ext.refl _, Own.nil _ _ _ _, Nat.le_refl _, by simp⟩
    case round =>
      obtain ⟨i, pre, hi, rfl, hx, ho, hpl, hpar⟩ := hrel
      by_cases hlt : i < nm.length
      · rw [parse_at hlt] at hpar
        have hb : (nm.getD i 0).toNat < 256 := UInt8.toNat_lt _
        repeat' (first | ((with_reducible refine o_s ?_); (first | (refine o_1 ?_; refine o_2 ?_) | (refine o_g ?_; first | refine o_u ?_ | refine o_k ?_ | refine o_n ?_ | refine o_v ?_ | ((first | refine o_G ?_ ?_ | refine o_N ?_ ?_) <;> intro hc)))) | ((fail_if_success (with_reducible refine o_s ?_)); go_step))
        rotate_left
        · rw [if_neg (by omega), Option.map_map] at hpar
          refine ap1 [str ((nm.take (i + 1 + (nm.getD i 0).toNat)).drop (i + 1))] hx ho (by rw [tcells_length]; omega) ?_
          intro s2 v2 w1 w2 _ _ x2 o2
          refine gset ?_
          repeat' (first | ((with_reducible refine o_s ?_); (first | (refine o_1 ?_; refine o_2 ?_) | (refine o_g ?_; first | refine o_u ?_ | refine o_k ?_ | refine o_n ?_ | refine o_v ?_ | ((first | refine o_G ?_ ?_ | refine o_N ?_ ?_) <;> intro hc)))) | ((fail_if_success (with_reducible refine o_s ?_)); go_step))
          refine ⟨⟨i + 1 + (nm.getD i 0).toNat, pre ++ [(nm.take (i + 1 + (nm.getD i 0).toNat)).drop (i + 1)], by omega, by go_num, x2, ?_, by simp; omega, ?_⟩, by simp [intOf]; omega⟩
          · simpa [tcells] using o2
          · rw [hpar]; congr 1; funext x; simp
        all_goals
          go_ret2
          exact ⟨_, rfl, hx, by rw [hpar, if_pos (by omega)]; rfl⟩
      · have : i = nm.length := by omega
        subst this
        rw [List.drop_length, parse_nil, Option.map_some, List.append_nil] at hpar
        repeat' (first | ((with_reducible refine o_s ?_); (first | (refine o_1 ?_; refine o_2 ?_) | (refine o_g ?_; first | refine o_u ?_ | refine o_k ?_ | refine o_n ?_ | refine o_v ?_ | ((first | refine o_G ?_ ?_ | refine o_N ?_ ?_) <;> intro hc)))) | ((fail_if_success (with_reducible refine o_s ?_)); go_step))
        go_ret2
        exact ⟨_, rfl, hx, by rw [hpar]; exact ⟨_, rfl, ho⟩⟩

/-- lodestarref01.Check -/
theorem r1_Check (nm : List UInt8) (w : World) : Calls Tryz.prog 72 #[str nm] w (RetV w (.int .i64 (if (labels nm).isSome then 0 else 1))) := by
  go_enter Tryz.func72, Tryz.ntmps72
  repeat' (first | ((with_reducible refine o_s ?_); (first | (refine o_1 ?_; refine o_2 ?_) | (refine o_g ?_; first | refine o_u ?_ | refine o_k ?_ | refine o_n ?_ | refine o_v ?_ | ((first | refine o_G ?_ ?_ | refine o_N ?_ ?_) <;> intro hc)))) | ((fail_if_success (with_reducible refine o_s ?_)); go_step))
  refine wpl_callR (enters_of Tryz.func80 rfl rfl) rfl rfl (r1_cut nm _) ?_
  intro v w1 x1 hv
  cases hl : labels nm with
  | none =>
    rw [hl] at hv
    subst hv
    repeat' (first | ((with_reducible refine o_s ?_); (first | (refine o_1 ?_; refine o_2 ?_) | (refine o_g ?_; first | refine o_u ?_ | refine o_k ?_ | refine o_n ?_ | refine o_v ?_ | ((first | refine o_G ?_ ?_ | refine o_N ?_ ?_) <;> intro hc)))) | ((fail_if_success (with_reducible refine o_s ?_)); go_step))
    go_ret
    exact ⟨by simp [hl], x1⟩
  | some ls =>
    rw [hl] at hv
    obtain ⟨s, rfl, _⟩ := hv
    repeat' (first | ((with_reducible refine o_s ?_); (first | (refine o_1 ?_; refine o_2 ?_) | (refine o_g ?_; first | refine o_u ?_ | refine o_k ?_ | refine o_n ?_ | refine o_v ?_ | ((first | refine o_G ?_ ?_ | refine o_N ?_ ?_) <;> intro hc)))) | ((fail_if_success (with_reducible refine o_s ?_)); go_step))
    go_ret
    exact ⟨by simp [hl], x1⟩
theorem lowB_of32 {b : UInt8} (h : 65 ≤ b.toNat) (h2 : b.toNat ≤ 90) : IntKind.wrap .u8 ((b.toNat : Int) + 32) = ((lowB b).toNat : Int) := by
  rw [lowB, if_pos ⟨h, h2⟩]
  have : (b + 32).toNat = b.toNat + 32 := by rw [UInt8.toNat_add]; simp; omega
  rw [this]
  simp [IntKind.wrap, IntKind.bits, IntKind.signed]; omega
set_option maxHeartbeats 1000000 in
/-- lodestarref01.Small -/
theorem r1_Small (l : List UInt8) (w : World) (hl : l.length ≤ 4611686018427387904) : Calls Tryz.prog 81 #[str l] w (RetV w (str (low l))) := by
  go_enter Tryz.func81, Tryz.ntmps81
  repeat' (first | ((with_reducible refine o_s ?_); (first | (refine o_1 ?_; refine o_2 ?_) | (refine o_g ?_; first | refine o_u ?_ | refine o_k ?_ | refine o_n ?_ | refine o_v ?_ | ((first | refine o_G ?_ ?_ | refine o_N ?_ ?_) <;> intro hc)))) | ((fail_if_success (with_reducible refine o_s ?_)); go_step))
  refine wpl_bytes (e := 5) (l := l) rfl rfl (by decide +kernel) (by decide +kernel) (by omega) ?_
  intro v w1 x1 o1
  refine gset ?_
  have hlb : (bcells l).length = l.length := by simp [bcells]
  repeat' (first | ((with_reducible refine o_s ?_); (first | (refine o_1 ?_; refine o_2 ?_) | (refine o_g ?_; first | refine o_u ?_ | refine o_k ?_ | refine o_n ?_ | refine o_v ?_ | ((first | refine o_G ?_ ?_ | refine o_N ?_ ?_) <;> intro hc)))) | ((fail_if_success (with_reducible refine o_s ?_)); go_step))
  go_loopw [4] (fun i wr => ∃ k : Nat, k ≤ l.length ∧ i = .int .i64 k ∧ Ext w wr ∧ Own w.heap.size 1 5 wr v (bcells (lowP l k))) (fun i _ => l.length - (intOf i).toNat)
  case atStart => exact ⟨0, Nat.zero_le _, rfl, x1, by simpa [lowP_zero] using o1⟩
  case round =>
    obtain ⟨k, hk, rfl, hx, ho⟩ := hrel
    have hsl := ho.sl
    have hlen : (bcells (lowP l k)).length = l.length := by simp [bcells, lowP_length]
    by_cases hlt : k < l.length
    · have hp := hsl.elem (bcells_get _ _ _ (lowP_get l k hlt))
      repeat' (first | ((with_reducible refine o_s ?_); (first | (refine o_1 ?_; refine o_2 ?_) | (refine o_g ?_; first | refine o_u ?_ | refine o_k ?_ | refine o_n ?_ | refine o_v ?_ | ((first | refine o_G ?_ ?_ | refine o_N ?_ ?_) <;> intro hc)))) | ((fail_if_success (with_reducible refine o_s ?_)); go_step))
      · refine wpl_storeE1 (c := .int .u8 _) (i := k) rfl rfl rfl ho (by omega) (by decide +kernel) rfl ?_
        intro w2 o2 m2
        have hx2 := ho.mvx m2 hx (Nat.le_refl _)
        have e2 : (bcells (lowP l k)).set k [Value.int .u8 (IntKind.u8.wrap (↑l[k].toNat + 32))] = bcells (lowP l (k + 1)) := by
          rw [lowP_succ l k hlt, ← bcells_set, lowB_of32 (by omega) (by omega)]
        rw [e2] at o2
        clear hx ho hsl hp
        repeat' (first | ((with_reducible refine o_s ?_); (first | (refine o_1 ?_; refine o_2 ?_) | (refine o_g ?_; first | refine o_u ?_ | refine o_k ?_ | refine o_n ?_ | refine o_v ?_ | ((first | refine o_G ?_ ?_ | refine o_N ?_ ?_) <;> intro hc)))) | ((fail_if_success (with_reducible refine o_s ?_)); go_step))
        exact ⟨⟨k + 1, by omega, by go_num, hx2, o2⟩, by simp [intOf]; omega⟩
      all_goals
        refine ⟨⟨k + 1, by omega, by go_num, hx, ?_⟩, by simp [intOf]; omega⟩
        rw [lowP_same l k hlt (lowB_no (by omega))]; exact ho
    · have : k = l.length := by omega
      subst this
      rw [lowP_all] at hsl hlen
      repeat' (first | ((with_reducible refine o_s ?_); (first | (refine o_1 ?_; refine o_2 ?_) | (refine o_g ?_; first | refine o_u ?_ | refine o_k ?_ | refine o_n ?_ | refine o_v ?_ | ((first | refine o_G ?_ ?_ | refine o_N ?_ ?_) <;> intro hc)))) | ((fail_if_success (with_reducible refine o_s ?_)); go_step))
      go_ret
      exact ⟨rfl, hx⟩

end Go.Proofs.X
set_option linter.unusedSimpArgs false
set_option linter.unusedVariables false
namespace Go.Proofs.X
open Go.RowKit
set_option maxRecDepth 100000
/-- lodestarref01.order -/
theorem r1_order (a b : List UInt8) (w : World) : Calls Tryz.prog 146 #[str a, str b] w (RetV w (.int .i64 (cmpB a b))) := by
  go_enter Tryz.func146, Tryz.ntmps146
  repeat' (first | ((with_reducible refine o_s ?_); (first | (refine o_1 ?_; refine o_2 ?_) | (refine o_g ?_; first | refine o_u ?_ | refine o_k ?_ | refine o_n ?_ | refine o_v ?_ | ((first | refine o_G ?_ ?_ | refine o_N ?_ ?_) <;> intro hc)))) | ((fail_if_success (with_reducible refine o_s ?_)); go_step))
  · have h := ‹Op.bytesLess a b = true›
    go_ret
    exact ⟨by simp [cmpB, h], Ext.refl _⟩
  · have h := ‹Op.bytesLess a b = false›
    have h2 := ‹(!(Op.bytesLess a b || a == b)) = true›
    go_ret
    exact ⟨by simp [h] at h2; simp [cmpB, h, h2], Ext.refl _⟩
  · have h := ‹Op.bytesLess a b = false›
    have h2 := ‹(!(Op.bytesLess a b || a == b)) = false›
    go_ret
    exact ⟨by simp [h] at h2; subst h2; simp [cmpB, h], Ext.refl _⟩
/-- lodestarref01.Labels -/
theorem r1_Labels (nm : List UInt8) (w : World) : Calls Tryz.prog 42 #[str nm] w (Ret w fun v w' => Own w.heap.size 1 9 w' v (tcells ((labels nm).getD []))) := by
  go_enter Tryz.func42, Tryz.ntmps42
  repeat' (first | ((with_reducible refine o_s ?_); (first | (refine o_1 ?_; refine o_2 ?_) | (refine o_g ?_; first | refine o_u ?_ | refine o_k ?_ | refine o_n ?_ | refine o_v ?_ | ((first | refine o_G ?_ ?_ | refine o_N ?_ ?_) <;> intro hc)))) | ((fail_if_success (with_reducible refine o_s ?_)); go_step))
  refine wpl_callR (enters_of Tryz.func80 rfl rfl) rfl rfl (r1_cut nm _) ?_
  intro v w1 x1 hv
  cases hl : labels nm with
  | none =>
    rw [hl] at hv
    subst hv
    repeat' (first | ((with_reducible refine o_s ?_); (first | (refine o_1 ?_; refine o_2 ?_) | (refine o_g ?_; first | refine o_u ?_ | refine o_k ?_ | refine o_n ?_ | refine o_v ?_ | ((first | refine o_G ?_ ?_ | refine o_N ?_ ?_) <;> intro hc)))) | ((fail_if_success (with_reducible refine o_s ?_)); go_step))
    go_ret
    refine ⟨_, rfl, x1, ?_⟩
    simp only [hl, Option.getD_none]
    exact Own.nil _ _ _ _
  | some ls =>
    rw [hl] at hv
    obtain ⟨s, rfl, o⟩ := hv
    repeat' (first | ((with_reducible refine o_s ?_); (first | (refine o_1 ?_; refine o_2 ?_) | (refine o_g ?_; first | refine o_u ?_ | refine o_k ?_ | refine o_n ?_ | refine o_v ?_ | ((first | refine o_G ?_ ?_ | refine o_N ?_ ?_) <;> intro hc)))) | ((fail_if_success (with_reducible refine o_s ?_)); go_step))
    go_ret
    refine ⟨_, rfl, x1, ?_⟩
    simp only [hl, Option.getD_some]
    exact o
theorem enc_ge {ls : List (List UInt8)} (h : ls.all fitL = true) : 2 * ls.length ≤ (enc ls).length := by
  induction ls with
  | nil => simp [enc]
  | cons x ls ih =>
    simp only [List.all_cons, Bool.and_eq_true] at h
    have := ih h.2
    have e : enc (x :: ls) = UInt8.ofNat x.length :: x ++ enc ls := by simp [enc]
    have hx : 1 ≤ x.length := by have := h.1; simp [fitL] at this; omega
    rw [e]; simp; omega
theorem join_many {ls : List (List UInt8)} (h : 127 < ls.length) : join ls = none := by
  rw [join, if_neg]
  rintro ⟨h1, h2⟩
  have := enc_ge h1
  omega
set_option maxHeartbeats 1000000 in
/-- lodestarref01.Join -/
theorem r1_Join (v : Value) (ls : List (List UInt8)) (w : World) (h : Sl 1 w v (tcells ls)) : Calls Tryz.prog 43 #[v] w (RetV w (match join ls with | some n => .tuple #[str n, .int .i64 0] | none => .tuple #[str [], .int .i64 1])) := by
  have hlt0 : (tcells ls).length = ls.length := tcells_length ls
  by_cases h127 : 127 < ls.length
  · go_enter Tryz.func43, Tryz.ntmps43
    repeat' (first | ((with_reducible refine o_s ?_); (first | (refine o_1 ?_; refine o_2 ?_) | (refine o_g ?_; first | refine o_u ?_ | refine o_k ?_ | refine o_n ?_ | refine o_v ?_ | ((first | refine o_G ?_ ?_ | refine o_N ?_ ?_) <;> intro hc)))) | ((fail_if_success (with_reducible refine o_s ?_)); go_step))
    go_ret2
    exact ⟨by rw [join_many h127]; rfl, Ext.refl _⟩
  · go_enter Tryz.func43, Tryz.ntmps43
    repeat' (first | ((with_reducible refine o_s ?_); (first | (refine o_1 ?_; refine o_2 ?_) | (refine o_g ?_; first | refine o_u ?_ | refine o_k ?_ | refine o_n ?_ | refine o_v ?_ | ((first | refine o_G ?_ ?_ | refine o_N ?_ ?_) <;> intro hc)))) | ((fail_if_success (with_reducible refine o_s ?_)); go_step))
    go_loopw [4, 5] (fun s i wr => ∃ k : Nat, k ≤ ls.length ∧ i = .int .i64 k ∧ s = str (enc (ls.take k)) ∧ Ext w wr ∧ (ls.take k).all fitL = true ∧ (enc (ls.take k)).length ≤ 64 * k) (fun _ i _ => ls.length - (intOf i).toNat)
    case atStart => exact ⟨0, Nat.zero_le _, rfl, rfl, Ext.refl _, rfl, by simp [enc]⟩
    case round =>
      obtain ⟨k, hk, rfl, rfl, hx, hall, hlen⟩ := hrel
      have hsl := h.ext hx
      by_cases hlt : k < ls.length
      · have hp := hsl.elem (tcells_at hlt)
        repeat' (first | ((with_reducible refine o_s ?_); (first | (refine o_1 ?_; refine o_2 ?_) | (refine o_g ?_; first | refine o_u ?_ | refine o_k ?_ | refine o_n ?_ | refine o_v ?_ | ((first | refine o_G ?_ ?_ | refine o_N ?_ ?_) <;> intro hc)))) | ((fail_if_success (with_reducible refine o_s ?_)); go_step))
        rotate_left
        · have h63 : ls[k].length ≤ 63 := by omega
          have h1 : 1 ≤ ls[k].length := by omega
          refine wph_region (S := fun w' => Ext wr w') (by decide +kernel) ?_
          intro w1 x1 hh1
          refine tk 0 ?_; refine gset ?_; refine tk 1 ?_; refine gset ?_; refine tk 2 ?_; refine gset ?_; refine tk 3 ?_; refine gset ?_; refine tk 4 ?_; refine gset ?_; refine tk 5 ?_; refine gset ?_; refine tk 6 ?_; refine gset ?_; refine tk 10 ?_; refine gset ?_; refine tk 11 ?_; refine gset ?_; refine tk 12 ?_; refine gset ?_; refine tk 13 ?_; refine gset ?_
          refine wph_one (i := 7) (by decide +kernel) rfl rfl ?_
          refine wpl_slice (e := 5) (k := 1) (bytes := 1) (xs := [.int .u8 (IntKind.wrap .u8 (ls[k].length : Nat))]) rfl rfl rfl (by simp [Value.cells]) (by decide +kernel) (by simp) ?_
          intro v2 w2 x2 _ s2 _
          have s2 : Sl 1 w2 v2 (bcells [UInt8.ofNat ls[k].length]) := by simpa [bcells, Value.cells, wrapU] using s2
          refine gset ?_
          refine wph_nil ⟨by exact extc, ?_⟩
          refine wph_one (i := 8) (by decide +kernel) rfl rfl ?_
          repeat' (first | ((with_reducible refine o_s ?_); (first | (refine o_1 ?_; refine o_2 ?_) | (refine o_g ?_; first | refine o_u ?_ | refine o_k ?_ | refine o_n ?_ | refine o_v ?_ | ((first | refine o_G ?_ ?_ | refine o_N ?_ ?_) <;> intro hc)))) | ((fail_if_success (with_reducible refine o_s ?_)); go_step))
          refine ⟨by exact extc, ?_⟩
          refine wph_one (i := 9) (by decide +kernel) rfl rfl ?_
          repeat' (first | ((with_reducible refine o_s ?_); (first | (refine o_1 ?_; refine o_2 ?_) | (refine o_g ?_; first | refine o_u ?_ | refine o_k ?_ | refine o_n ?_ | refine o_v ?_ | ((first | refine o_G ?_ ?_ | refine o_N ?_ ?_) <;> intro hc)))) | ((fail_if_success (with_reducible refine o_s ?_)); go_step))
          refine ⟨by exact extc, ?_⟩
          refine wph_one (i := 14) (by decide +kernel) rfl rfl ?_
          repeat' (first | ((with_reducible refine o_s ?_); (first | (refine o_1 ?_; refine o_2 ?_) | (refine o_g ?_; first | refine o_u ?_ | refine o_k ?_ | refine o_n ?_ | refine o_v ?_ | ((first | refine o_G ?_ ?_ | refine o_N ?_ ?_) <;> intro hc)))) | ((fail_if_success (with_reducible refine o_s ?_)); go_step))
          refine ⟨by exact extc, ?_⟩
          refine wph_one (i := 15) (by decide +kernel) rfl rfl ?_
          repeat' (first | ((with_reducible refine o_s ?_); (first | (refine o_1 ?_; refine o_2 ?_) | (refine o_g ?_; first | refine o_u ?_ | refine o_k ?_ | refine o_n ?_ | refine o_v ?_ | ((first | refine o_G ?_ ?_ | refine o_N ?_ ?_) <;> intro hc)))) | ((fail_if_success (with_reducible refine o_s ?_)); go_step))
          refine ⟨by exact extc, ?_⟩
          refine wph_done (by decide +kernel) ?_
          have e : enc (ls.take k) ++ [UInt8.ofNat ls[k].length] ++ ls[k] = enc (ls.take (k + 1)) := by
            rw [List.take_add_one, List.getElem?_eq_getElem hlt, Option.toList_some, enc_append, enc_one]; simp
          rw [e]
          repeat' (first | ((with_reducible refine o_s ?_); (first | (refine o_1 ?_; refine o_2 ?_) | (refine o_g ?_; first | refine o_u ?_ | refine o_k ?_ | refine o_n ?_ | refine o_v ?_ | ((first | refine o_G ?_ ?_ | refine o_N ?_ ?_) <;> intro hc)))) | ((fail_if_success (with_reducible refine o_s ?_)); go_step))
          refine ⟨⟨k + 1, by omega, by go_num, rfl, by exact extc, ?_, ?_⟩, by simp [intOf]; omega⟩
          · rw [List.take_add_one, List.getElem?_eq_getElem hlt, Option.toList_some, List.all_append, hall]
            simp [fitL]; omega
          · rw [← e]; simp; omega
        all_goals
          go_ret2
          refine ⟨?_, hx⟩
          rw [join_bad (List.getElem_mem hlt) (by simp [fitL]; omega)]
          rfl
      · have : k = ls.length := by omega
        subst this
        rw [List.take_length] at hall hlen ⊢
        repeat' (first | ((with_reducible refine o_s ?_); (first | (refine o_1 ?_; refine o_2 ?_) | (refine o_g ?_; first | refine o_u ?_ | refine o_k ?_ | refine o_n ?_ | refine o_v ?_ | ((first | refine o_G ?_ ?_ | refine o_N ?_ ?_) <;> intro hc)))) | ((fail_if_success (with_reducible refine o_s ?_)); go_step))
        · go_ret2
          refine ⟨?_, hx⟩
          rw [join, if_neg (by omega)]
          rfl
        · go_ret2
          refine ⟨?_, hx⟩
          rw [join, if_pos ⟨hall, by omega⟩]
          rfl

end Go.Proofs.X
set_option linter.unusedSimpArgs false
set_option linter.unusedVariables false
namespace Go.Proofs.X
open Go.RowKit
set_option maxRecDepth 100000
theorem turned_eq (n : List UInt8) : turned n = (labels n).map fun ls => (ls.map low).reverse := by
  cases h : labels n with
  | none => simp [turned, fold, h]
  | some ls => simp [turned, (fold_valid h).2.1]
set_option maxHeartbeats 1000000 in
/-- lodestarref01.Fold -/
theorem r1_Fold (nm : List UInt8) (w : World) : Calls Tryz.prog 54 #[str nm] w (RetV w (str (fold nm))) := by
  go_enter Tryz.func54, Tryz.ntmps54
  repeat' (first | ((with_reducible refine o_s ?_); (first | (refine o_1 ?_; refine o_2 ?_) | (refine o_g ?_; first | refine o_u ?_ | refine o_k ?_ | refine o_n ?_ | refine o_v ?_ | ((first | refine o_G ?_ ?_ | refine o_N ?_ ?_) <;> intro hc)))) | ((fail_if_success (with_reducible refine o_s ?_)); go_step))
  refine wpl_callR (enters_of Tryz.func80 rfl rfl) rfl rfl (r1_cut nm _) ?_
  intro v w1 x1 hv
  cases hl : labels nm with
  | none =>
    rw [hl] at hv
    subst hv
    repeat' (first | ((with_reducible refine o_s ?_); (first | (refine o_1 ?_; refine o_2 ?_) | (refine o_g ?_; first | refine o_u ?_ | refine o_k ?_ | refine o_n ?_ | refine o_v ?_ | ((first | refine o_G ?_ ?_ | refine o_N ?_ ?_) <;> intro hc)))) | ((fail_if_success (with_reducible refine o_s ?_)); go_step))
    go_ret
    exact ⟨by simp [fold, hl], x1⟩
  | some ls =>
    rw [hl] at hv
    obtain ⟨s, rfl, hs⟩ := hv
    have hfit := labels_fit hl
    have hlen := len_le_enc ls
    rw [hfit.2.1] at hlen
    repeat' (first | ((with_reducible refine o_s ?_); (first | (refine o_1 ?_; refine o_2 ?_) | (refine o_g ?_; first | refine o_u ?_ | refine o_k ?_ | refine o_n ?_ | refine o_v ?_ | ((first | refine o_G ?_ ?_ | refine o_N ?_ ?_) <;> intro hc)))) | ((fail_if_success (with_reducible refine o_s ?_)); go_step))
    go_loopw [5] (fun i wr => ∃ k : Nat, k ≤ ls.length ∧ i = .int .i64 k ∧ Ext w wr ∧ Own w.heap.size 1 9 wr s (tcells (mapP low ls k))) (fun i _ => ls.length - (intOf i).toNat)
    case atStart => exact ⟨0, Nat.zero_le _, rfl, x1, by simpa [mapP_zero] using hs⟩
    case round =>
      obtain ⟨k, hk, rfl, hx, ho⟩ := hrel
      have hsl := ho.sl
      have hlen2 : (tcells (mapP low ls k)).length = ls.length := by rw [tcells_length, mapP_length]
      by_cases hlt : k < ls.length
      · have hp := hsl.elem (tcells_get _ _ _ (mapP_get low ls k hlt))
        have h254 : ls[k].length ≤ 254 := by have := mem_enc_le (List.getElem_mem hlt); rw [hfit.2.1] at this; omega
        repeat' (first | ((with_reducible refine o_s ?_); (first | (refine o_1 ?_; refine o_2 ?_) | (refine o_g ?_; first | refine o_u ?_ | refine o_k ?_ | refine o_n ?_ | refine o_v ?_ | ((first | refine o_G ?_ ?_ | refine o_N ?_ ?_) <;> intro hc)))) | ((fail_if_success (with_reducible refine o_s ?_)); go_step))
        refine wpl_callV (enters_of Tryz.func81 rfl rfl) rfl rfl (r1_Small _ _ (by omega)) ?_; intro w2 x2; refine gset ?_
        have hsl := hsl.ext x2
        have ho := ho.ext x2
        have hx := hx.trans x2
        clear hp
        repeat' (first | ((with_reducible refine o_s ?_); (first | (refine o_1 ?_; refine o_2 ?_) | (refine o_g ?_; first | refine o_u ?_ | refine o_k ?_ | refine o_n ?_ | refine o_v ?_ | ((first | refine o_G ?_ ?_ | refine o_N ?_ ?_) <;> intro hc)))) | ((fail_if_success (with_reducible refine o_s ?_)); go_step))
        refine wpl_storeE1 (c := str (low ls[k])) (i := k) rfl rfl rfl ho (by omega) (by decide +kernel) rfl ?_
        intro w3 o3 m3
        have hx3 := ho.mvx m3 hx (Nat.le_refl _)
        rw [tcells_set, ← mapP_succ low ls k hlt] at o3
        clear hx ho hsl
        repeat' (first | ((with_reducible refine o_s ?_); (first | (refine o_1 ?_; refine o_2 ?_) | (refine o_g ?_; first | refine o_u ?_ | refine o_k ?_ | refine o_n ?_ | refine o_v ?_ | ((first | refine o_G ?_ ?_ | refine o_N ?_ ?_) <;> intro hc)))) | ((fail_if_success (with_reducible refine o_s ?_)); go_step))
        exact ⟨⟨k + 1, by omega, by go_num, hx3, o3⟩, by simp [intOf]; omega⟩
      · have : k = ls.length := by omega
        subst this
        rw [mapP_all] at hsl hlen2
        repeat' (first | ((with_reducible refine o_s ?_); (first | (refine o_1 ?_; refine o_2 ?_) | (refine o_g ?_; first | refine o_u ?_ | refine o_k ?_ | refine o_n ?_ | refine o_v ?_ | ((first | refine o_G ?_ ?_ | refine o_N ?_ ?_) <;> intro hc)))) | ((fail_if_success (with_reducible refine o_s ?_)); go_step))
        refine wpl_callV (enters_of Tryz.func43 rfl rfl) rfl rfl (r1_Join _ _ _ hsl) ?_; intro w2 x2; refine gset ?_
        cases hj : join (ls.map low) with
        | none =>
          repeat' (first | ((with_reducible refine o_s ?_); (first | (refine o_1 ?_; refine o_2 ?_) | (refine o_g ?_; first | refine o_u ?_ | refine o_k ?_ | refine o_n ?_ | refine o_v ?_ | ((first | refine o_G ?_ ?_ | refine o_N ?_ ?_) <;> intro hc)))) | ((fail_if_success (with_reducible refine o_s ?_)); go_step))
          go_ret
          exact ⟨by simp [fold, hl, hj], hx.trans x2⟩
        | some n =>
          repeat' (first | ((with_reducible refine o_s ?_); (first | (refine o_1 ?_; refine o_2 ?_) | (refine o_g ?_; first | refine o_u ?_ | refine o_k ?_ | refine o_n ?_ | refine o_v ?_ | ((first | refine o_G ?_ ?_ | refine o_N ?_ ?_) <;> intro hc)))) | ((fail_if_success (with_reducible refine o_s ?_)); go_step))
          go_ret
          exact ⟨by simp [fold, hl, hj], hx.trans x2⟩
/-- one name is another, or below it -/
def underN (n t : List UInt8) : Bool := match turned n with
  | none => false
  | some a => match turned t with
    | none => false
    | some b => decide (a.take b.length = b)
def rlow (ls : List (List UInt8)) : List (List UInt8) := (ls.map low).reverse
theorem rlow_length (ls : List (List UInt8)) : (rlow ls).length = ls.length := by simp [rlow]
theorem rlow_get {ls : List (List UInt8)} {k : Nat} (h : k < ls.length) : (rlow ls)[k]'(by rw [rlow_length]; exact h) = low (ls[ls.length - 1 - k]'(by omega)) := by
  simp [rlow]
theorem back_at {w : World} {v : Value} {ls : List (List UInt8)} (h : Sl 1 w v (tcells ls)) {k : Nat} (hk : k < ls.length) : Pts w (elemPtr v ((((tcells ls).length : Int) - 1 - k).toNat * 1)) [str (ls[ls.length - 1 - k]'(by omega))] := by
  have := h.elem (i := ls.length - 1 - k) (e := [str (ls[ls.length - 1 - k]'(by omega))]) (tcells_at (by omega))
  rwa [show (((tcells ls).length : Int) - 1 - k).toNat = ls.length - 1 - k by rw [tcells_length]; omega]
theorem take_len_eq {α : Type} {a b : List α} {k : Nat} (h : a.take b.length = b) (hk : k < b.length) (ha : k < a.length) : a[k] = b[k] := by
  have h1 : (a.take b.length)[k]? = b[k]? := by rw [h]
  rw [List.getElem?_take, if_pos hk, List.getElem?_eq_getElem ha, List.getElem?_eq_getElem hk] at h1
  exact Option.some.inj h1
set_option maxHeartbeats 2000000 in
/-- lodestarref01.Under -/
theorem r1_Under (a b : List UInt8) (w : World) : Calls Tryz.prog 44 #[str a, str b] w (RetV w (.bool (underN a b))) := by
  go_enter Tryz.func44, Tryz.ntmps44
  repeat' (first | ((with_reducible refine o_s ?_); (first | (refine o_1 ?_; refine o_2 ?_) | (refine o_g ?_; first | refine o_u ?_ | refine o_k ?_ | refine o_n ?_ | refine o_v ?_ | ((first | refine o_G ?_ ?_ | refine o_N ?_ ?_) <;> intro hc)))) | ((fail_if_success (with_reducible refine o_s ?_)); go_step))
  refine wpl_callR (enters_of Tryz.func80 rfl rfl) rfl rfl (r1_cut a _) ?_
  intro v w1 x1 hv
  cases hl : labels a with
  | none =>
    rw [hl] at hv
    subst hv
    repeat' (first | ((with_reducible refine o_s ?_); (first | (refine o_1 ?_; refine o_2 ?_) | (refine o_g ?_; first | refine o_u ?_ | refine o_k ?_ | refine o_n ?_ | refine o_v ?_ | ((first | refine o_G ?_ ?_ | refine o_N ?_ ?_) <;> intro hc)))) | ((fail_if_success (with_reducible refine o_s ?_)); go_step))
    refine wpl_callR (enters_of Tryz.func80 rfl rfl) rfl rfl (r1_cut b _) ?_
    intro v2 w2 x2 hv2
    have hu : underN a b = false := by simp [underN, turned_eq, hl]
    cases hm : labels b with
    | none =>
      rw [hm] at hv2
      subst hv2
      repeat' (first | ((with_reducible refine o_s ?_); (first | (refine o_1 ?_; refine o_2 ?_) | (refine o_g ?_; first | refine o_u ?_ | refine o_k ?_ | refine o_n ?_ | refine o_v ?_ | ((first | refine o_G ?_ ?_ | refine o_N ?_ ?_) <;> intro hc)))) | ((fail_if_success (with_reducible refine o_s ?_)); go_step))
      go_ret
      exact ⟨by rw [hu]; rfl, x1.trans x2⟩
    | some ms =>
      rw [hm] at hv2
      obtain ⟨s2, rfl, o2⟩ := hv2
      repeat' (first | ((with_reducible refine o_s ?_); (first | (refine o_1 ?_; refine o_2 ?_) | (refine o_g ?_; first | refine o_u ?_ | refine o_k ?_ | refine o_n ?_ | refine o_v ?_ | ((first | refine o_G ?_ ?_ | refine o_N ?_ ?_) <;> intro hc)))) | ((fail_if_success (with_reducible refine o_s ?_)); go_step))
      go_ret
      exact ⟨by rw [hu]; rfl, x1.trans x2⟩
  | some ls =>
    rw [hl] at hv
    obtain ⟨s1, rfl, o1⟩ := hv
    repeat' (first | ((with_reducible refine o_s ?_); (first | (refine o_1 ?_; refine o_2 ?_) | (refine o_g ?_; first | refine o_u ?_ | refine o_k ?_ | refine o_n ?_ | refine o_v ?_ | ((first | refine o_G ?_ ?_ | refine o_N ?_ ?_) <;> intro hc)))) | ((fail_if_success (with_reducible refine o_s ?_)); go_step))
    refine wpl_callR (enters_of Tryz.func80 rfl rfl) rfl rfl (r1_cut b _) ?_
    intro v2 w2 x2 hv2
    cases hm : labels b with
    | none =>
      have hu : underN a b = false := by simp [underN, turned_eq, hm, hl]
      rw [hm] at hv2
      subst hv2
      repeat' (first | ((with_reducible refine o_s ?_); (first | (refine o_1 ?_; refine o_2 ?_) | (refine o_g ?_; first | refine o_u ?_ | refine o_k ?_ | refine o_n ?_ | refine o_v ?_ | ((first | refine o_G ?_ ?_ | refine o_N ?_ ?_) <;> intro hc)))) | ((fail_if_success (with_reducible refine o_s ?_)); go_step))
      go_ret
      exact ⟨by rw [hu]; rfl, x1.trans x2⟩
    | some ms =>
      rw [hm] at hv2
      obtain ⟨s2, rfl, o2⟩ := hv2
      have hu : underN a b = true ↔ (rlow ls).take ms.length = rlow ms := by
        simp only [underN, turned_eq, hm, hl, Option.map_some, decide_eq_true_eq]
        rw [show ((ms.map low).reverse).length = ms.length by simp]; rfl
      have hA := o1.sl.ext x2
      have hB := o2.sl
      have tl := tcells_length ls
      have tm := tcells_length ms
      have fl := labels_fit hl
      have fm := labels_fit hm
      have ll := len_le_enc ls
      have lm := len_le_enc ms
      rw [fl.2.1] at ll
      rw [fm.2.1] at lm
      by_cases hlt : ls.length < ms.length
      · have hno : (rlow ls).take ms.length ≠ rlow ms := fun h => by
          have := congrArg List.length h
          simp [rlow_length] at this; omega
        repeat' (first | ((with_reducible refine o_s ?_); (first | (refine o_1 ?_; refine o_2 ?_) | (refine o_g ?_; first | refine o_u ?_ | refine o_k ?_ | refine o_n ?_ | refine o_v ?_ | ((first | refine o_G ?_ ?_ | refine o_N ?_ ?_) <;> intro hc)))) | ((fail_if_success (with_reducible refine o_s ?_)); go_step))
        go_ret
        have hno' : underN a b = false := by cases h : underN a b with | false => rfl | true => exact absurd (hu.1 h) hno
        exact ⟨by rw [hno']; rfl, x1.trans x2⟩
      · have x12 := x1.trans x2
        repeat' (first | ((with_reducible refine o_s ?_); (first | (refine o_1 ?_; refine o_2 ?_) | (refine o_g ?_; first | refine o_u ?_ | refine o_k ?_ | refine o_n ?_ | refine o_v ?_ | ((first | refine o_G ?_ ?_ | refine o_N ?_ ?_) <;> intro hc)))) | ((fail_if_success (with_reducible refine o_s ?_)); go_step))
        go_loopw [9] (fun i wr => ∃ k : Nat, k ≤ ms.length ∧ i = .int .i64 k ∧ Ext w2 wr ∧ (rlow ls).take k = (rlow ms).take k) (fun i _ => ms.length - (intOf i).toNat)
        case atStart => exact ⟨0, Nat.zero_le _, rfl, Ext.refl _, rfl⟩
        case round =>
          obtain ⟨k, hk, rfl, hx, hall⟩ := hrel
          by_cases hk2 : k < ms.length
          · have hA := hA.ext hx
            have hB := hB.ext hx
            have hkl : k < ls.length := by omega
            have hpA := back_at hA hkl
            have hpB := back_at hB hk2
            have lA : (ls[ls.length - 1 - k]'(by omega)).length ≤ 254 := by have := mem_enc_le (List.getElem_mem (l := ls) (n := ls.length - 1 - k) (by omega)); rw [fl.2.1] at this; omega
            have lB : (ms[ms.length - 1 - k]'(by omega)).length ≤ 254 := by have := mem_enc_le (List.getElem_mem (l := ms) (n := ms.length - 1 - k) (by omega)); rw [fm.2.1] at this; omega
            have gA := rlow_get hkl
            have gB := rlow_get hk2
            generalize hx1 : ls[ls.length - 1 - k]'(by omega) = x at *
            generalize hy1 : ms[ms.length - 1 - k]'(by omega) = y at *
            repeat' (first | ((with_reducible refine o_s ?_); (first | (refine o_1 ?_; refine o_2 ?_) | (refine o_g ?_; first | refine o_u ?_ | refine o_k ?_ | refine o_n ?_ | refine o_v ?_ | ((first | refine o_G ?_ ?_ | refine o_N ?_ ?_) <;> intro hc)))) | ((fail_if_success (with_reducible refine o_s ?_)); go_step))
            refine wpq_region (by decide +kernel) (by decide +kernel) ?_
            repeat' (first | ((with_reducible refine q_s ?_); (first | (refine q_1 ?_; refine q_2 ?_) | (refine q_g ?_; first | refine q_u ?_ | refine q_k ?_ | refine q_v ?_))) | (with_reducible refine q_n ?_))
            refine wpq_call (enters_of Tryz.func81 rfl rfl) rfl rfl (fun w' _ => r1_Small x w' (by omega)) ?_
            refine gset ?_
            repeat' (first | ((with_reducible refine q_s ?_); (first | (refine q_1 ?_; refine q_2 ?_) | (refine q_g ?_; first | refine q_u ?_ | refine q_k ?_ | refine q_v ?_))) | (with_reducible refine q_n ?_))
            refine wpq_call (enters_of Tryz.func81 rfl rfl) rfl rfl (fun w' _ => r1_Small y w' (by omega)) ?_
            refine gset ?_
            repeat' (first | ((with_reducible refine q_s ?_); (first | (refine q_1 ?_; refine q_2 ?_) | (refine q_g ?_; first | refine q_u ?_ | refine q_k ?_ | refine q_v ?_))) | (with_reducible refine q_n ?_))
            intro w3 x3
            repeat' (first | ((with_reducible refine o_s ?_); (first | (refine o_1 ?_; refine o_2 ?_) | (refine o_g ?_; first | refine o_u ?_ | refine o_k ?_ | refine o_n ?_ | refine o_v ?_ | ((first | refine o_G ?_ ?_ | refine o_N ?_ ?_) <;> intro hc)))) | ((fail_if_success (with_reducible refine o_s ?_)); go_step))
            · have hne := ‹(!decide (low x = low y)) = true›
              have hno : underN a b = false := by
                cases h : underN a b with
                | false => rfl
                | true =>
                  have h2 := hu.1 h
                  rw [← rlow_length ms] at h2
                  have := take_len_eq h2 (by rw [rlow_length]; exact hk2) (by rw [rlow_length]; exact hkl)
                  rw [gA, gB] at this
                  simp [this] at hne
              go_ret
              exact ⟨by rw [hno]; rfl, x12.trans (hx.trans x3)⟩
            · have heq := ‹(!decide (low x = low y)) = false›
              refine ⟨⟨k + 1, by omega, by go_num, hx.trans x3, ?_⟩, by simp [intOf]; omega⟩
              refine take_succ_eq hall (by rw [rlow_length]; exact hkl) (by rw [rlow_length]; exact hk2) ?_
              rw [gA, gB]
              simpa using heq
          · have : k = ms.length := by omega
            subst this
            have hyes : underN a b = true := hu.2 (by rw [hall, ← rlow_length, List.take_length])
            repeat' (first | ((with_reducible refine o_s ?_); (first | (refine o_1 ?_; refine o_2 ?_) | (refine o_g ?_; first | refine o_u ?_ | refine o_k ?_ | refine o_n ?_ | refine o_v ?_ | ((first | refine o_G ?_ ?_ | refine o_N ?_ ?_) <;> intro hc)))) | ((fail_if_success (with_reducible refine o_s ?_)); go_step))
            go_ret
            exact ⟨by rw [hyes]; rfl, x12.trans hx⟩

theorem cmpL_take : ∀ (k : Nat) (a b : List (List UInt8)), a.take k = b.take k → k ≤ a.length → k ≤ b.length → cmpL a b = cmpL (a.drop k) (b.drop k)
  | 0, a, b, _, _, _ => by simp
  | k + 1, x :: a, y :: b, h, h1, h2 => by
    simp only [List.take_succ_cons, List.cons.injEq] at h
    obtain ⟨rfl, h⟩ := h
    have e : cmpB x x = 0 := tpo_cmpB.refl x
    rw [cmpL, e]
    simp only [ne_eq, not_true_eq_false, if_false, List.drop_succ_cons]
    exact cmpL_take k a b h (by simpa using h1) (by simpa using h2)
  | k + 1, [], _, _, h1, _ => by simp at h1
  | k + 1, _ :: _, [], _, _, h2 => by simp at h2
theorem cmpL_at {k : Nat} {a b : List (List UInt8)} (h : a.take k = b.take k) (ha : k < a.length) (hb : k < b.length) (hne : cmpB a[k] b[k] ≠ 0) : cmpL a b = cmpB a[k] b[k] := by
  rw [cmpL_take k a b h (by omega) (by omega), List.drop_eq_getElem_cons ha, List.drop_eq_getElem_cons hb, cmpL, if_pos hne]
theorem cmpL_end {k : Nat} {a b : List (List UInt8)} (h : a.take k = b.take k) (h1 : k ≤ a.length) (h2 : k ≤ b.length) (he : k = a.length ∨ k = b.length) : cmpL a b = if a.length < b.length then -1 else if b.length < a.length then 1 else 0 := by
  rw [cmpL_take k a b h h1 h2]
  rcases he with rfl | rfl
  · rw [List.drop_length]
    cases hd : b.drop a.length with
    | nil =>
      have := List.drop_eq_nil_iff.1 hd
      rw [cmpL, if_neg (by omega), if_neg (by omega)]
    | cons y l =>
      have : a.length < b.length := by
        rcases Nat.lt_or_ge a.length b.length with h | h
        · exact h
        · rw [List.drop_eq_nil_iff.2 h] at hd; cases hd
      rw [cmpL, if_pos this]
  · rw [List.drop_length]
    cases hd : a.drop b.length with
    | nil =>
      have := List.drop_eq_nil_iff.1 hd
      rw [cmpL, if_neg (by omega), if_neg (by omega)]
    | cons y l =>
      have : b.length < a.length := by
        rcases Nat.lt_or_ge b.length a.length with h | h
        · exact h
        · rw [List.drop_eq_nil_iff.2 h] at hd; cases hd
      rw [cmpL, if_neg (by omega), if_pos this]
set_option maxHeartbeats 4000000 in
/-- lodestarref01.Compare -/
theorem r1_Compare (a b : List UInt8) (w : World) : Calls Tryz.prog 94 #[str a, str b] w (RetV w (.int .i64 (cmpN a b))) := by
  go_enter Tryz.func94, Tryz.ntmps94
  repeat' (first | ((with_reducible refine o_s ?_); (first | (refine o_1 ?_; refine o_2 ?_) | (refine o_g ?_; first | refine o_u ?_ | refine o_k ?_ | refine o_n ?_ | refine o_v ?_ | ((first | refine o_G ?_ ?_ | refine o_N ?_ ?_) <;> intro hc)))) | ((fail_if_success (with_reducible refine o_s ?_)); go_step))
  refine wpl_callR (enters_of Tryz.func80 rfl rfl) rfl rfl (r1_cut a _) ?_
  intro v w1 x1 hv
  cases hl : labels a with
  | none =>
    rw [hl] at hv
    subst hv
    repeat' (first | ((with_reducible refine o_s ?_); (first | (refine o_1 ?_; refine o_2 ?_) | (refine o_g ?_; first | refine o_u ?_ | refine o_k ?_ | refine o_n ?_ | refine o_v ?_ | ((first | refine o_G ?_ ?_ | refine o_N ?_ ?_) <;> intro hc)))) | ((fail_if_success (with_reducible refine o_s ?_)); go_step))
    refine wpl_callR (enters_of Tryz.func80 rfl rfl) rfl rfl (r1_cut b _) ?_
    intro v2 w2 x2 hv2
    cases hm : labels b with
    | none =>
      rw [hm] at hv2
      subst hv2
      repeat' (first | ((with_reducible refine o_s ?_); (first | (refine o_1 ?_; refine o_2 ?_) | (refine o_g ?_; first | refine o_u ?_ | refine o_k ?_ | refine o_n ?_ | refine o_v ?_ | ((first | refine o_G ?_ ?_ | refine o_N ?_ ?_) <;> intro hc)))) | ((fail_if_success (with_reducible refine o_s ?_)); go_step))
      refine wpl_callV (enters_of Tryz.func146 rfl rfl) rfl rfl (r1_order a b _) ?_; intro w3 x3; refine gset ?_
      repeat' (first | ((with_reducible refine o_s ?_); (first | (refine o_1 ?_; refine o_2 ?_) | (refine o_g ?_; first | refine o_u ?_ | refine o_k ?_ | refine o_n ?_ | refine o_v ?_ | ((first | refine o_G ?_ ?_ | refine o_N ?_ ?_) <;> intro hc)))) | ((fail_if_success (with_reducible refine o_s ?_)); go_step))
      go_ret
      exact ⟨by simp [cmpN, turned_eq, hl, hm], (x1.trans x2).trans x3⟩
    | some ms =>
      rw [hm] at hv2
      obtain ⟨s2, rfl, o2⟩ := hv2
      repeat' (first | ((with_reducible refine o_s ?_); (first | (refine o_1 ?_; refine o_2 ?_) | (refine o_g ?_; first | refine o_u ?_ | refine o_k ?_ | refine o_n ?_ | refine o_v ?_ | ((first | refine o_G ?_ ?_ | refine o_N ?_ ?_) <;> intro hc)))) | ((fail_if_success (with_reducible refine o_s ?_)); go_step))
      go_ret
      exact ⟨by simp [cmpN, turned_eq, hl, hm], x1.trans x2⟩
  | some ls =>
    rw [hl] at hv
    obtain ⟨s1, rfl, o1⟩ := hv
    repeat' (first | ((with_reducible refine o_s ?_); (first | (refine o_1 ?_; refine o_2 ?_) | (refine o_g ?_; first | refine o_u ?_ | refine o_k ?_ | refine o_n ?_ | refine o_v ?_ | ((first | refine o_G ?_ ?_ | refine o_N ?_ ?_) <;> intro hc)))) | ((fail_if_success (with_reducible refine o_s ?_)); go_step))
    refine wpl_callR (enters_of Tryz.func80 rfl rfl) rfl rfl (r1_cut b _) ?_
    intro v2 w2 x2 hv2
    cases hm : labels b with
    | none =>
      rw [hm] at hv2
      subst hv2
      repeat' (first | ((with_reducible refine o_s ?_); (first | (refine o_1 ?_; refine o_2 ?_) | (refine o_g ?_; first | refine o_u ?_ | refine o_k ?_ | refine o_n ?_ | refine o_v ?_ | ((first | refine o_G ?_ ?_ | refine o_N ?_ ?_) <;> intro hc)))) | ((fail_if_success (with_reducible refine o_s ?_)); go_step))
      go_ret
      exact ⟨by simp [cmpN, turned_eq, hl, hm], x1.trans x2⟩
    | some ms =>
      rw [hm] at hv2
      obtain ⟨s2, rfl, o2⟩ := hv2
      have hu : cmpN a b = cmpL (rlow ls) (rlow ms) := by simp [cmpN, turned_eq, hm, hl, rlow]
      have hA := o1.sl.ext x2
      have hB := o2.sl
      have tl := tcells_length ls
      have tm := tcells_length ms
      have fl := labels_fit hl
      have fm := labels_fit hm
      have ll := len_le_enc ls
      have lm := len_le_enc ms
      rw [fl.2.1] at ll
      rw [fm.2.1] at lm
      have x12 := x1.trans x2
      have rl := rlow_length ls
      have rm := rlow_length ms
      repeat' (first | ((with_reducible refine o_s ?_); (first | (refine o_1 ?_; refine o_2 ?_) | (refine o_g ?_; first | refine o_u ?_ | refine o_k ?_ | refine o_n ?_ | refine o_v ?_ | ((first | refine o_G ?_ ?_ | refine o_N ?_ ?_) <;> intro hc)))) | ((fail_if_success (with_reducible refine o_s ?_)); go_step))
      go_loopw [9, 10] (fun i _ wr => ∃ k : Nat, k ≤ ls.length ∧ k ≤ ms.length ∧ i = .int .i64 k ∧ Ext w2 wr ∧ (rlow ls).take k = (rlow ms).take k) (fun i _ _ => ms.length - (intOf i).toNat)
      case atStart => exact ⟨0, Nat.zero_le _, Nat.zero_le _, rfl, Ext.refl _, rfl⟩
      case round =>
        obtain ⟨k, hk, hk2, rfl, hx, hall⟩ := hrel
        have hA := hA.ext hx
        have hB := hB.ext hx
        by_cases hin : k < ls.length ∧ k < ms.length
        · obtain ⟨hkl, hkm⟩ := hin
          have hpA := back_at hA hkl
          have hpB := back_at hB hkm
          have lA : (ls[ls.length - 1 - k]'(by omega)).length ≤ 254 := by have := mem_enc_le (List.getElem_mem (l := ls) (n := ls.length - 1 - k) (by omega)); rw [fl.2.1] at this; omega
          have lB : (ms[ms.length - 1 - k]'(by omega)).length ≤ 254 := by have := mem_enc_le (List.getElem_mem (l := ms) (n := ms.length - 1 - k) (by omega)); rw [fm.2.1] at this; omega
          have gA := rlow_get hkl
          have gB := rlow_get hkm
          generalize hx1 : ls[ls.length - 1 - k]'(by omega) = x at *
          generalize hy1 : ms[ms.length - 1 - k]'(by omega) = y at *
          repeat' (first | ((with_reducible refine o_s ?_); (first | (refine o_1 ?_; refine o_2 ?_) | (refine o_g ?_; first | refine o_u ?_ | refine o_k ?_ | refine o_n ?_ | refine o_v ?_ | ((first | refine o_G ?_ ?_ | refine o_N ?_ ?_) <;> intro hc)))) | ((fail_if_success (with_reducible refine o_s ?_)); go_step))
          refine wpq_region (by decide +kernel) (by decide +kernel) ?_
          repeat' (first | ((with_reducible refine q_s ?_); (first | (refine q_1 ?_; refine q_2 ?_) | (refine q_g ?_; first | refine q_u ?_ | refine q_k ?_ | refine q_v ?_))) | (with_reducible refine q_n ?_))
          refine wpq_call (enters_of Tryz.func81 rfl rfl) rfl rfl (fun w' _ => r1_Small x w' (by omega)) ?_
          refine gset ?_
          repeat' (first | ((with_reducible refine q_s ?_); (first | (refine q_1 ?_; refine q_2 ?_) | (refine q_g ?_; first | refine q_u ?_ | refine q_k ?_ | refine q_v ?_))) | (with_reducible refine q_n ?_))
          refine wpq_call (enters_of Tryz.func81 rfl rfl) rfl rfl (fun w' _ => r1_Small y w' (by omega)) ?_
          refine gset ?_
          repeat' (first | ((with_reducible refine q_s ?_); (first | (refine q_1 ?_; refine q_2 ?_) | (refine q_g ?_; first | refine q_u ?_ | refine q_k ?_ | refine q_v ?_))) | (with_reducible refine q_n ?_))
          refine wpq_call (enters_of Tryz.func146 rfl rfl) rfl rfl (fun w' _ => r1_order (low x) (low y) w') ?_
          refine gset ?_
          repeat' (first | ((with_reducible refine q_s ?_); (first | (refine q_1 ?_; refine q_2 ?_) | (refine q_g ?_; first | refine q_u ?_ | refine q_k ?_ | refine q_v ?_))) | (with_reducible refine q_n ?_))
          intro w3 x3
          repeat' (first | ((with_reducible refine o_s ?_); (first | (refine o_1 ?_; refine o_2 ?_) | (refine o_g ?_; first | refine o_u ?_ | refine o_k ?_ | refine o_n ?_ | refine o_v ?_ | ((first | refine o_G ?_ ?_ | refine o_N ?_ ?_) <;> intro hc)))) | ((fail_if_success (with_reducible refine o_s ?_)); go_step))
          · have hne := ‹(!decide (cmpB (low x) (low y) = 0)) = true›
            go_ret
            refine ⟨?_, x12.trans (hx.trans x3)⟩
            rw [hu, cmpL_at hall (by omega) (by omega) (by rw [gA, gB]; simpa using hne), gA, gB]
            rfl
          · have heq := ‹(!decide (cmpB (low x) (low y) = 0)) = false›
            refine ⟨⟨k + 1, by omega, by omega, by go_num, hx.trans x3, ?_⟩, by simp [intOf]; omega⟩
            refine take_succ_eq hall (by omega) (by omega) ?_
            rw [gA, gB]
            exact cmpB_zero (by simpa using heq)
        · have he : cmpN a b = if ls.length < ms.length then -1 else if ms.length < ls.length then 1 else 0 := by
            rw [hu, cmpL_end hall (by omega) (by omega) (by omega), rl, rm]
          repeat' (first | ((with_reducible refine o_s ?_); (first | (refine o_1 ?_; refine o_2 ?_) | (refine o_g ?_; first | refine o_u ?_ | refine o_k ?_ | refine o_n ?_ | refine o_v ?_ | ((first | refine o_G ?_ ?_ | refine o_N ?_ ?_) <;> intro hc)))) | ((fail_if_success (with_reducible refine o_s ?_)); go_step))
          all_goals
            go_ret
            refine ⟨?_, x12.trans hx⟩
            rw [he]
            first
              | (rw [if_pos (by omega)]; rfl)
              | (rw [if_neg (by omega), if_pos (by omega)]; rfl)
              | (rw [if_neg (by omega), if_neg (by omega)]; rfl)

end Go.Proofs.X
set_option linter.unusedSimpArgs false
set_option linter.unusedVariables false
namespace Go.Proofs.X
open Go.RowKit
set_option maxRecDepth 100000
theorem suf_concat (l : List UInt8) (a : UInt8) : Lib.hasSuffix (l ++ [a]) [0] = decide (a = 0) := by
  have h : Lib.hasSuffix (l ++ [a]) [0] = true ↔ a = 0 := by
    unfold Lib.hasSuffix
    rw [List.isSuffixOf_iff_suffix]
    constructor
    · rintro ⟨t, ht⟩
      have := congrArg List.reverse ht
      simp at this
      exact this.1.symm
    · rintro rfl; exact ⟨l, rfl⟩
  by_cases ha : a = 0
  · rw [h.2 ha, decide_eq_true ha]
  · cases hh : Lib.hasSuffix (l ++ [a]) [0] with
    | true => exact absurd (h.1 hh) ha
    | false => rw [decide_eq_false ha]
theorem hostN_nil : hostN [] = none := by simp [hostN, Lib.hasSuffix]
theorem hostN_concat (l : List UInt8) (a : UInt8) : hostN (l ++ [a]) = if a = 0 ∧ (labels l).isSome = true then some l else none := by
  have hs := suf_concat l a
  by_cases ha : a = 0
  · subst ha
    have ht : Lib.trimSuffix (l ++ [0]) [0] = l := by simp [Lib.trimSuffix, hs]
    simp [hostN, hs, ht]
  · simp [hostN, hs, ha]
theorem host_take {s n : List UInt8} (h : hostN s = some n) : n = s.take (s.length - 1) := by
  rcases List.eq_nil_or_concat s with rfl | ⟨l, a, rfl⟩
  · rw [hostN_nil] at h; cases h
  · rw [List.concat_eq_append, hostN_concat] at h
    split at h
    · cases h; simp
    · cases h
set_option maxHeartbeats 1000000 in
/-- lodestarref03.isHost -/
theorem r3_isHost (s : List UInt8) (w : World) (hl : s.length ≤ 4611686018427387904) : Calls Tryz.prog 145 #[str s] w (RetV w (.bool (hostN s).isSome)) := by
  rcases List.eq_nil_or_concat s with rfl | ⟨l, a, rfl⟩
  · rw [hostN_nil]
    go_enter Tryz.func145, Tryz.ntmps145
    repeat' (first | ((with_reducible refine o_s ?_); (first | (refine o_1 ?_; refine o_2 ?_) | (refine o_g ?_; first | refine o_u ?_ | refine o_k ?_ | refine o_n ?_ | refine o_v ?_ | ((first | refine o_G ?_ ?_ | refine o_N ?_ ?_) <;> intro hc)))) | ((fail_if_success (with_reducible refine o_s ?_)); go_step))
    go_ret
    exact ⟨rfl, Ext.refl _⟩
  · rw [List.concat_eq_append] at *
    have hlen : (l ++ [a]).length = l.length + 1 := by simp
    have hn : (((l ++ [a]).length : Int) - 1).toNat = l.length := by rw [hlen]; omega
    have e1 : (l ++ [a]).getD (((l ++ [a]).length : Int) - 1).toNat 0 = a := by rw [hn]; simp
    have e2 : (l ++ [a]).take (((l ++ [a]).length : Int) - 1).toNat = l := by rw [hn]; simp
    have hh : (hostN (l ++ [a])).isSome = (decide (a = 0) && (labels l).isSome) := by
      rw [hostN_concat]; by_cases h1 : a = 0 <;> cases h2 : (labels l).isSome <;> simp [h1]
    generalize l ++ [a] = s at *
    rw [hh]
    go_enter Tryz.func145, Tryz.ntmps145
    repeat' (first | ((with_reducible refine o_s ?_); (first | (refine o_1 ?_; refine o_2 ?_) | (refine o_g ?_; first | refine o_u ?_ | refine o_k ?_ | refine o_n ?_ | refine o_v ?_ | ((first | refine o_G ?_ ?_ | refine o_N ?_ ?_) <;> intro hc)))) | ((fail_if_success (with_reducible refine o_s ?_)); go_step))
    · have hz := ‹((s.getD ((s.length : Int) - 1).toNat 0).toNat : Int) = 0›
      rw [e1] at hz
      have ha : a = 0 := by apply UInt8.toNat_inj.1; simpa using hz
      rw [e2]
      refine wpl_callV (enters_of Tryz.func72 rfl rfl) rfl rfl (r1_Check l _) ?_; intro w1 x1; refine gset ?_
      cases hls : (labels l).isSome with
      | true =>
        repeat' (first | ((with_reducible refine o_s ?_); (first | (refine o_1 ?_; refine o_2 ?_) | (refine o_g ?_; first | refine o_u ?_ | refine o_k ?_ | refine o_n ?_ | refine o_v ?_ | ((first | refine o_G ?_ ?_ | refine o_N ?_ ?_) <;> intro hc)))) | ((fail_if_success (with_reducible refine o_s ?_)); go_step))
        go_ret
        exact ⟨by simp [ha, hls], x1⟩
      | false =>
        repeat' (first | ((with_reducible refine o_s ?_); (first | (refine o_1 ?_; refine o_2 ?_) | (refine o_g ?_; first | refine o_u ?_ | refine o_k ?_ | refine o_n ?_ | refine o_v ?_ | ((first | refine o_G ?_ ?_ | refine o_N ?_ ?_) <;> intro hc)))) | ((fail_if_success (with_reducible refine o_s ?_)); go_step))
        go_ret
        exact ⟨by simp [ha, hls], x1⟩
    · have hz := ‹¬((s.getD ((s.length : Int) - 1).toNat 0).toNat : Int) = 0›
      rw [e1] at hz
      have ha : ¬ a = 0 := by rintro rfl; simp at hz
      go_ret
      exact ⟨by simp [ha], Ext.refl _⟩
    · omega
/-- lodestarref03.ahead -/
theorem r3_ahead (k : Int) (w : World) : Calls Tryz.prog 144 #[.int .i64 k] w (RetV w (.int .i64 (ahead k))) := by
  go_enter Tryz.func144, Tryz.ntmps144
  repeat' (first | ((with_reducible refine o_s ?_); (first | (refine o_1 ?_; refine o_2 ?_) | (refine o_g ?_; first | refine o_u ?_ | refine o_k ?_ | refine o_n ?_ | refine o_v ?_ | ((first | refine o_G ?_ ?_ | refine o_N ?_ ?_) <;> intro hc)))) | ((fail_if_success (with_reducible refine o_s ?_)); go_step))
  all_goals
    go_ret
    exact ⟨by unfold ahead; simp_all, Ext.refl _⟩
/-- lodestarref03.Host -/
theorem r3_Host (nm : List UInt8) (w : World) (hl : nm.length ≤ 9223372036854775806) : Calls Tryz.prog 101 #[str nm] w (RetV w (if (labels nm).isSome = true then .tuple #[str (nm ++ [0]), .int .i64 0] else .tuple #[str [], .int .i64 1])) := by
  go_enter Tryz.func101, Tryz.ntmps101
  repeat' (first | ((with_reducible refine o_s ?_); (first | (refine o_1 ?_; refine o_2 ?_) | (refine o_g ?_; first | refine o_u ?_ | refine o_k ?_ | refine o_n ?_ | refine o_v ?_ | ((first | refine o_G ?_ ?_ | refine o_N ?_ ?_) <;> intro hc)))) | ((fail_if_success (with_reducible refine o_s ?_)); go_step))
  refine wpl_callV (enters_of Tryz.func72 rfl rfl) rfl rfl (r1_Check nm _) ?_; intro w1 x1; refine gset ?_
  cases hls : (labels nm).isSome with
  | true =>
    simp only [↓reduceIte]
    repeat' (first | ((with_reducible refine o_s ?_); (first | (refine o_1 ?_; refine o_2 ?_) | (refine o_g ?_; first | refine o_u ?_ | refine o_k ?_ | refine o_n ?_ | refine o_v ?_ | ((first | refine o_G ?_ ?_ | refine o_N ?_ ?_) <;> intro hc)))) | ((fail_if_success (with_reducible refine o_s ?_)); go_step))
    go_ret2
    exact ⟨by rw [hls]; rfl, x1⟩
  | false =>
    simp only [↓reduceIte, Bool.false_eq_true]
    repeat' (first | ((with_reducible refine o_s ?_); (first | (refine o_1 ?_; refine o_2 ?_) | (refine o_g ?_; first | refine o_u ?_ | refine o_k ?_ | refine o_n ?_ | refine o_v ?_ | ((first | refine o_G ?_ ?_ | refine o_N ?_ ?_) <;> intro hc)))) | ((fail_if_success (with_reducible refine o_s ?_)); go_step))
    go_ret2
    exact ⟨by rw [hls]; rfl, x1⟩

theorem wrapB (c : UInt8) : ((c.toNat : Nat) : Int) = ((c.toNat : Nat) : Int) := rfl
/-- what the walk over texts comes to: the place, if it is past the end or just there -/
def textsAt (s : List UInt8) (i : Nat) : Bool := if s.length < i then false else textsN (s.drop i)
theorem textsAt_step {s : List UInt8} {i : Nat} (h : i < s.length) : textsAt s i = textsAt s (i + 1 + (s.getD i 0).toNat) := by
  unfold textsAt
  rw [if_neg (by omega), drop_get h, textsN_cons, getD_get h, List.drop_drop]
  simp only [List.length_drop]
  by_cases hc : s.length - (i + 1) < s[i].toNat
  · rw [if_pos hc, if_pos (by omega)]
  · rw [if_neg hc, if_neg (by omega)]
set_option maxHeartbeats 1000000 in
/-- lodestarref03.texts -/
theorem r3_texts (s : List UInt8) (w : World) (hl : s.length ≤ 4611686018427387904) : Calls Tryz.prog 143 #[str s] w (RetV w (.bool (textsB s))) := by
  go_enter Tryz.func143, Tryz.ntmps143
  repeat' (first | ((with_reducible refine o_s ?_); (first | (refine o_1 ?_; refine o_2 ?_) | (refine o_g ?_; first | refine o_u ?_ | refine o_k ?_ | refine o_n ?_ | refine o_v ?_ | ((first | refine o_G ?_ ?_ | refine o_N ?_ ?_) <;> intro hc)))) | ((fail_if_success (with_reducible refine o_s ?_)); go_step))
  go_loopw [3] (fun a wr => ∃ i : Nat, i ≤ s.length + 256 ∧ a = .int .i64 i ∧ Ext w wr ∧ textsN s = textsAt s i ∧ (s.length < i → i ≤ s.length + 256)) (fun a _ => s.length - (intOf a).toNat)
  case atStart => exact ⟨0, by omega, rfl, Ext.refl _, by simp [textsAt], by omega⟩
  case round =>
    obtain ⟨i, hi, rfl, hx, ht, _⟩ := hrel
    by_cases hlt : i < s.length
    · rw [textsAt_step hlt] at ht
      have hb : (s.getD i 0).toNat < 256 := UInt8.toNat_lt _
      repeat' (first | ((with_reducible refine o_s ?_); (first | (refine o_1 ?_; refine o_2 ?_) | (refine o_g ?_; first | refine o_u ?_ | refine o_k ?_ | refine o_n ?_ | refine o_v ?_ | ((first | refine o_G ?_ ?_ | refine o_N ?_ ?_) <;> intro hc)))) | ((fail_if_success (with_reducible refine o_s ?_)); go_step))
      exact ⟨⟨i + 1 + (s.getD i 0).toNat, by omega, by go_num, hx, ht, by omega⟩, by simp [intOf]; omega⟩
    · have hv : textsB s = (decide (s ≠ []) && decide (i = s.length)) := by
        unfold textsB
        rw [ht, textsAt]
        by_cases he : s.length < i
        · rw [if_pos he, decide_eq_false (show ¬ i = s.length by omega)]; simp
        · have : i = s.length := by omega
          subst this
          rw [if_neg he, List.drop_length]
          simp [textsN, textsF]
      repeat' (first | ((with_reducible refine o_s ?_); (first | (refine o_1 ?_; refine o_2 ?_) | (refine o_g ?_; first | refine o_u ?_ | refine o_k ?_ | refine o_n ?_ | refine o_v ?_ | ((first | refine o_G ?_ ?_ | refine o_N ?_ ?_) <;> intro hc)))) | ((fail_if_success (with_reducible refine o_s ?_)); go_step))
      · have h0 := ‹(!decide (s = [])) = true›
        go_ret
        exact ⟨by simp [hv] at h0 ⊢; simp [h0]; omega, hx⟩
      · have h0 := ‹(!decide (s = [])) = false›
        go_ret
        exact ⟨by simp [hv] at h0 ⊢; simp [h0], hx⟩

def numU (s : List UInt8) (k : Nat) : Nat := (s.take k).foldl (fun n c => 256 * n + c.toNat) 0
theorem numU_succ {s : List UInt8} {k : Nat} (h : k < s.length) : numU s (k + 1) = 256 * numU s k + (s.getD k 0).toNat := by
  rw [numU, List.take_add_one, List.getElem?_eq_getElem h, Option.toList_some, List.foldl_append, getD_get h]
  rfl
theorem numU_lt (s : List UInt8) : ∀ k, k ≤ s.length → numU s k < 256 ^ k
  | 0, _ => by simp [numU]
  | k + 1, h => by
    have h1 := numU_lt s k (by omega)
    have h2 : (s.getD k 0).toNat < 256 := UInt8.toNat_lt _
    rw [numU_succ (by omega), Nat.pow_succ]
    omega
set_option maxHeartbeats 1000000 in
/-- lodestarref03.Number -/
theorem r3_Number (s : List UInt8) (w : World) (hl : s.length ≤ 4) : Calls Tryz.prog 98 #[str s] w (RetV w (.int .i64 (numU s s.length : Nat))) := by
  go_enter Tryz.func98, Tryz.ntmps98
  repeat' (first | ((with_reducible refine o_s ?_); (first | (refine o_1 ?_; refine o_2 ?_) | (refine o_g ?_; first | refine o_u ?_ | refine o_k ?_ | refine o_n ?_ | refine o_v ?_ | ((first | refine o_G ?_ ?_ | refine o_N ?_ ?_) <;> intro hc)))) | ((fail_if_success (with_reducible refine o_s ?_)); go_step))
  go_loopw [3, 4] (fun n i wr => ∃ k : Nat, k ≤ s.length ∧ i = .int .i64 k ∧ Ext w wr ∧ n = .int .i64 (numU s k : Nat)) (fun _ i _ => s.length - (intOf i).toNat)
  case atStart => exact ⟨0, by omega, rfl, Ext.refl _, rfl⟩
  case round =>
    obtain ⟨k, hk, rfl, hx, rfl⟩ := hrel
    by_cases hlt : k < s.length
    · have hb : (s.getD k 0).toNat < 256 := UInt8.toNat_lt _
      have hn : numU s k < 4294967296 := Nat.lt_of_lt_of_le (numU_lt s k hk) (by calc 256 ^ k ≤ 256 ^ 4 := Nat.pow_le_pow_right (by omega) (by omega)
                                                                                      _ = _ := by decide)
      repeat' (first | ((with_reducible refine o_s ?_); (first | (refine o_1 ?_; refine o_2 ?_) | (refine o_g ?_; first | refine o_u ?_ | refine o_k ?_ | refine o_n ?_ | refine o_v ?_ | ((first | refine o_G ?_ ?_ | refine o_N ?_ ?_) <;> intro hc)))) | ((fail_if_success (with_reducible refine o_s ?_)); go_step))
      refine ⟨⟨k + 1, by omega, by go_num, hx, ?_⟩, by simp [intOf]; omega⟩
      rw [numU_succ hlt]
      go_num
    · have : k = s.length := by omega
      subst this
      repeat' (first | ((with_reducible refine o_s ?_); (first | (refine o_1 ?_; refine o_2 ?_) | (refine o_g ?_; first | refine o_u ?_ | refine o_k ?_ | refine o_n ?_ | refine o_v ?_ | ((first | refine o_G ?_ ?_ | refine o_N ?_ ?_) <;> intro hc)))) | ((fail_if_success (with_reducible refine o_s ?_)); go_step))
      go_ret
      exact ⟨rfl, hx⟩
/-- four bytes of a number, of which the last j are laid -/
def wideP (n j : Nat) : List UInt8 := [if 4 ≤ j then UInt8.ofNat (n / 16777216) else 0, if 3 ≤ j then UInt8.ofNat (n / 65536) else 0, if 2 ≤ j then UInt8.ofNat (n / 256) else 0, if 1 ≤ j then UInt8.ofNat n else 0]
theorem wideP_zero (n : Nat) : bcells (wideP n 0) = List.replicate 4 [.int .u8 0] := by simp [wideP, bcells, List.replicate]
theorem wideP_four (n : Nat) : wideP n 4 = be4 n := by simp [wideP, be4]
theorem wideP_succ (n j : Nat) (h : j < 4) : (bcells (wideP n j)).set (3 - j) [.int .u8 ((UInt8.ofNat (n / 256 ^ j)).toNat : Nat)] = bcells (wideP n (j + 1)) := by
  have : j = 0 ∨ j = 1 ∨ j = 2 ∨ j = 3 := by omega
  rcases this with rfl | rfl | rfl | rfl <;> simp [wideP, bcells]
set_option maxHeartbeats 2000000 in
/-- lodestarref03.Wide -/
theorem r3_Wide (n : Nat) (w : World) (hn : n < 4294967296) : Calls Tryz.prog 102 #[.int .i64 (n : Nat), .int .i64 4] w (RetV w (str (be4 n))) := by
  go_enter Tryz.func102, Tryz.ntmps102
  repeat' (first | ((with_reducible refine o_s ?_); (first | (refine o_1 ?_; refine o_2 ?_) | (refine o_g ?_; first | refine o_u ?_ | refine o_k ?_ | refine o_n ?_ | refine o_v ?_ | ((first | refine o_G ?_ ?_ | refine o_N ?_ ?_) <;> intro hc)))) | ((fail_if_success (with_reducible refine o_s ?_)); go_step))
  refine wpl_makeZ (e := 5) (n := 4) (z := .int .u8 0) ?_ rfl rfl (by omega)
  intro v w1 x1 o1
  refine gset ?_
  repeat' (first | ((with_reducible refine o_s ?_); (first | (refine o_1 ?_; refine o_2 ?_) | (refine o_g ?_; first | refine o_u ?_ | refine o_k ?_ | refine o_n ?_ | refine o_v ?_ | ((first | refine o_G ?_ ?_ | refine o_N ?_ ?_) <;> intro hc)))) | ((fail_if_success (with_reducible refine o_s ?_)); go_step))
  rw [← wideP_zero n] at o1
  go_loopw [0, 6] (fun m i wr => ∃ j : Nat, j ≤ 4 ∧ i = .int .i64 (3 - (j : Int)) ∧ m = .int .i64 (n / 256 ^ j : Nat) ∧ Ext w wr ∧ Own w.heap.size 1 5 wr v (bcells (wideP n j))) (fun _ i _ => (intOf i + 1).toNat)
  case atStart => exact ⟨0, by omega, rfl, by simp, x1, o1⟩
  case round =>
    obtain ⟨j, hj, rfl, rfl, hx, ho⟩ := hrel
    have hsl := ho.sl
    have hle : n / 256 ^ j ≤ n := Nat.div_le_self _ _
    have hbl : (bcells (wideP n j)).length = 4 := by simp [bcells, wideP]
    by_cases hlt : j < 4
    · generalize hq : n / 256 ^ j = q at *
      repeat' (first | ((with_reducible refine o_s ?_); (first | (refine o_1 ?_; refine o_2 ?_) | (refine o_g ?_; first | refine o_u ?_ | refine o_k ?_ | refine o_n ?_ | refine o_v ?_ | ((first | refine o_G ?_ ?_ | refine o_N ?_ ?_) <;> intro hc)))) | ((fail_if_success (with_reducible refine o_s ?_)); go_step))
      refine wpl_run rfl (Runs.remN (n := 256) rfl rfl (by omega) (by omega)) ?_
      refine gset ?_
      repeat' (first | ((with_reducible refine o_s ?_); (first | (refine o_1 ?_; refine o_2 ?_) | (refine o_g ?_; first | refine o_u ?_ | refine o_k ?_ | refine o_n ?_ | refine o_v ?_ | ((first | refine o_G ?_ ?_ | refine o_N ?_ ?_) <;> intro hc)))) | ((fail_if_success (with_reducible refine o_s ?_)); go_step))
      refine wpl_storeE1 (c := .int .u8 _) (i := (3 - (j : Int)).toNat) rfl rfl rfl ho (by omega) (by decide +kernel) rfl ?_
      intro w2 o2 m2
      have hx2 := ho.mvx m2 hx (Nat.le_refl _)
      have e2 : (bcells (wideP n j)).set (3 - (j : Int)).toNat [Value.int .u8 (IntKind.wrap .u8 ((q % 256 : Nat) : Int))] = bcells (wideP n (j + 1)) := by
        rw [show (3 - (j : Int)).toNat = 3 - j by omega, wrapU, ← wideP_succ n j hlt, hq]
        congr 4
        simp
      rw [e2] at o2
      clear ho hsl
      repeat' (first | ((with_reducible refine o_s ?_); (first | (refine o_1 ?_; refine o_2 ?_) | (refine o_g ?_; first | refine o_u ?_ | refine o_k ?_ | refine o_n ?_ | refine o_v ?_ | ((first | refine o_G ?_ ?_ | refine o_N ?_ ?_) <;> intro hc)))) | ((fail_if_success (with_reducible refine o_s ?_)); go_step))
      refine wpl_run rfl (Runs.quoN (n := 256) rfl rfl (by omega) (by omega)) ?_
      refine gset ?_
      repeat' (first | ((with_reducible refine o_s ?_); (first | (refine o_1 ?_; refine o_2 ?_) | (refine o_g ?_; first | refine o_u ?_ | refine o_k ?_ | refine o_n ?_ | refine o_v ?_ | ((first | refine o_G ?_ ?_ | refine o_N ?_ ?_) <;> intro hc)))) | ((fail_if_success (with_reducible refine o_s ?_)); go_step))
      refine ⟨⟨j + 1, by omega, by go_num, ?_, hx2, o2⟩, by simp [intOf]; omega⟩
      rw [← hq, Nat.div_div_eq_div_mul, Nat.pow_succ]
    · have : j = 4 := by omega
      subst this
      rw [wideP_four] at hsl
      repeat' (first | ((with_reducible refine o_s ?_); (first | (refine o_1 ?_; refine o_2 ?_) | (refine o_g ?_; first | refine o_u ?_ | refine o_k ?_ | refine o_n ?_ | refine o_v ?_ | ((first | refine o_G ?_ ?_ | refine o_N ?_ ?_) <;> intro hc)))) | ((fail_if_success (with_reducible refine o_s ?_)); go_step))
      go_ret
      exact ⟨rfl, hx⟩

/-- where the first byte 0 is that the walk comes to -/
theorem walkN_at {s : List UInt8} {i : Nat} (h : i < s.length) : walkN (s.drop i) = if (s.getD i 0).toNat = 0 then 0 else 1 + (s.getD i 0).toNat + walkN (s.drop (i + 1 + (s.getD i 0).toNat)) := by
  rw [drop_get h, walkN_cons, getD_get h, List.drop_drop]
/-- how many bytes the name has that data begins with -/
def firstR (s : List UInt8) : Nat := if s.length ≤ walkN s then 0 else if (hostN (s.take (walkN s + 1))).isSome = true then walkN s + 1 else 0
theorem firstR_firstN (s : List UInt8) : firstN s = if firstR s = 0 then (if s.length ≤ walkN s then ([], [], false) else ([], s.drop (walkN s + 1), false)) else (s.take (firstR s - 1), s.drop (firstR s), true) := by
  unfold firstR firstN
  by_cases h : s.length ≤ walkN s
  · simp [h]
  · simp only [h, if_false]
    cases hh : hostN (s.take (walkN s + 1)) with
    | none => simp
    | some n =>
      have := host_take hh
      simp only [Option.isSome_some, if_true, Option.getD_some]
      rw [if_neg (by omega), this]
      rw [List.length_take, List.take_take]
      congr 2
      omega
theorem firstR_le (s : List UInt8) : firstR s ≤ s.length := by
  unfold firstR; split
  · omega
  · split <;> omega
set_option maxHeartbeats 1000000 in
/-- lodestarref03.first -/
theorem r3_first (s : List UInt8) (w : World) (hl : s.length ≤ 4611686018427387904) : Calls Tryz.prog 97 #[str s] w (RetV w (.int .i64 (firstR s : Nat))) := by
  go_enter Tryz.func97, Tryz.ntmps97
  repeat' (first | ((with_reducible refine o_s ?_); (first | (refine o_1 ?_; refine o_2 ?_) | (refine o_g ?_; first | refine o_u ?_ | refine o_k ?_ | refine o_n ?_ | refine o_v ?_ | ((first | refine o_G ?_ ?_ | refine o_N ?_ ?_) <;> intro hc)))) | ((fail_if_success (with_reducible refine o_s ?_)); go_step))
  go_loopw [3] (fun a wr => ∃ i : Nat, a = .int .i64 i ∧ i ≤ s.length + 256 ∧ Ext w wr ∧ walkN s = i + walkN (s.drop i)) (fun a _ => s.length - (intOf a).toNat)
  case atStart => exact ⟨0, rfl, by omega, Ext.refl _, by simp⟩
  case round =>
    obtain ⟨i, rfl, hi, hx, hw⟩ := hrel
    by_cases hlt : i < s.length
    · rw [walkN_at hlt] at hw
      have hb : (s.getD i 0).toNat < 256 := UInt8.toNat_lt _
      by_cases hz : (s.getD i 0).toNat = 0
      · rw [if_pos hz] at hw
        repeat' (first | ((with_reducible refine o_s ?_); (first | (refine o_1 ?_; refine o_2 ?_) | (refine o_g ?_; first | refine o_u ?_ | refine o_k ?_ | refine o_n ?_ | refine o_v ?_ | ((first | refine o_G ?_ ?_ | refine o_N ?_ ?_) <;> intro hc)))) | ((fail_if_success (with_reducible refine o_s ?_)); go_step))
        refine wpl_callV (enters_of Tryz.func145 rfl rfl) rfl rfl (r3_isHost (s.take (i + 1)) _ (by simp; omega)) ?_; intro w2 x2; refine gset ?_
        cases hh : (hostN (s.take (i + 1))).isSome with
        | true =>
          repeat' (first | ((with_reducible refine o_s ?_); (first | (refine o_1 ?_; refine o_2 ?_) | (refine o_g ?_; first | refine o_u ?_ | refine o_k ?_ | refine o_n ?_ | refine o_v ?_ | ((first | refine o_G ?_ ?_ | refine o_N ?_ ?_) <;> intro hc)))) | ((fail_if_success (with_reducible refine o_s ?_)); go_step))
          go_ret
          exact ⟨by rw [firstR, hw, if_neg (by omega), Nat.add_zero, hh]; rfl, hx.trans x2⟩
        | false =>
          repeat' (first | ((with_reducible refine o_s ?_); (first | (refine o_1 ?_; refine o_2 ?_) | (refine o_g ?_; first | refine o_u ?_ | refine o_k ?_ | refine o_n ?_ | refine o_v ?_ | ((first | refine o_G ?_ ?_ | refine o_N ?_ ?_) <;> intro hc)))) | ((fail_if_success (with_reducible refine o_s ?_)); go_step))
          go_ret
          exact ⟨by rw [firstR, hw, if_neg (by omega), Nat.add_zero, hh]; rfl, hx.trans x2⟩
      · rw [if_neg hz] at hw
        repeat' (first | ((with_reducible refine o_s ?_); (first | (refine o_1 ?_; refine o_2 ?_) | (refine o_g ?_; first | refine o_u ?_ | refine o_k ?_ | refine o_n ?_ | refine o_v ?_ | ((first | refine o_G ?_ ?_ | refine o_N ?_ ?_) <;> intro hc)))) | ((fail_if_success (with_reducible refine o_s ?_)); go_step))
        exact ⟨⟨i + 1 + (s.getD i 0).toNat, by go_num, by omega, hx, by omega⟩, by simp [intOf]; omega⟩
    · repeat' (first | ((with_reducible refine o_s ?_); (first | (refine o_1 ?_; refine o_2 ?_) | (refine o_g ?_; first | refine o_u ?_ | refine o_k ?_ | refine o_n ?_ | refine o_v ?_ | ((first | refine o_G ?_ ?_ | refine o_N ?_ ?_) <;> intro hc)))) | ((fail_if_success (with_reducible refine o_s ?_)); go_step))
      go_ret
      exact ⟨by rw [firstR, if_pos (by omega)]; rfl, hx⟩

end Go.Proofs.X
