/- Laws and walks that the proof of the statement is made of (part 12). -/
import Derived.Test.YtcabalnocddidaaGreatRows
import Derived.Test.YtcabalnocddidaaGreatP11
set_option linter.unusedSimpArgs false
set_option linter.unusedVariables false
namespace Go.Proofs.X
open Go.RowKit
set_option maxRecDepth 100000
def FJ : TaskR := dO [1, 120, 1, 65] 1 [3, 4] 9
def uI : MsgR := { zeroM with resp := true, au := [⟨[1, 97], 2, 5, [1, 110, 0]⟩], ex := [⟨[1, 110], 1, 5, [10, 0, 0, 7]⟩] }
def zH : MsgR := { zeroM with resp := true, auth := true, an := [⟨[1, 120, 1, 97], 1, 5, [49, 50, 51, 52]⟩] }
def EQ : TaskR := ⟨[1, 120, 1, 97], 1, [3, 4], [], [4], [], 0, 8, none⟩
def DW : TaskR := ⟨[1, 120, 1, 97], 1, [3, 4], [], [], [], 0, 7, none⟩
def DX : TaskR := ⟨[1, 120, 1, 97], 1, [3, 4], [1, 97], [], [], 0, 6, none⟩
def CQ : List Rec := [⟨[1, 120, 1, 97], 1, 5, [49, 50, 51, 52]⟩]
def DY : TaskR := ⟨[1, 120, 1, 97], 1, [3, 4], [1, 97], [], CQ, 0, 6, some ⟨2, 0, [], 0, 0, CQ, []⟩⟩
deriving instance DecidableEq for TaskR
deriving instance DecidableEq for RSet
deriving instance DecidableEq for LrnR
def ER : List LrnR := [⟨⟨[1, 97], 2, 5, [[1, 110, 0]]⟩, 2⟩, ⟨⟨[1, 110], 1, 5, [[10, 0, 0, 7]]⟩, 1⟩]
def ES : List LrnR := [⟨⟨[1, 120, 1, 97], 1, 5, [[49, 50, 51, 52]]⟩, 4⟩]
theorem DN : dL [1, 120, 1, 65] 1 [3, 4] 9 = 0 := by decide +kernel
theorem DO : dL [] 1 [] 9 = 1 := by decide +kernel
theorem ET : FJ.on = (EQ, ⟨1, 3, [1, 120, 1, 97], 1, 0, [], []⟩) := by decide +kernel
theorem EU : EQ.timeout = (DW, ⟨1, 4, [1, 120, 1, 97], 1, 0, [], []⟩) := by decide +kernel
theorem EV : DW.reply uI = (DX, ⟨1, 7, [1, 120, 1, 97], 1, 0, [], []⟩, ER) := by decide +kernel
theorem EW : DX.reply zH = (DY, ⟨2, 0, [], 0, 0, CQ, []⟩, ES) := by decide +kernel
theorem EX : DY.timeout = (DY, ⟨2, 0, [], 0, 0, CQ, []⟩) := by decide +kernel
section
variable {P : Program} {w w0 : World} {ts : List Value} {df : List Deferred} {d : Option Nat} {ty : TypeId} {ps : String} {af : Array Edge} {g : Option (Nat × Bool)}
theorem Runs.fieldP {s : TypeId} {m n off : Nat} {p : Value} {vs : List Value} (hx : ts.getD m undef = p) (hp : Pts w0 p vs) (hf : eL P s n off = true) :
 Runs P (Oper.mk d (.fieldAddr s (.tmp m) n) ty ps af g) (Act.mk ts.toArray df) w (bA p off) := by
 obtain ⟨b, o, rfl, _⟩ := hp
 obtain ⟨fs, f, i, ht, hf, ho, hie, hz⟩ := eM hf
 have hx' : (Act.mk ts.toArray df).eval (.tmp m) = .pointer (some ⟨b, o, none⟩) := by rw [cT]; exact hx
 constructor
 simp [execOp, hx', Instr.fieldAt, Instr.sureAddr, run_underlying ht, hf, fieldPlace, sizeOf, typeInfo, hie, hz, bA, ho]
end
theorem Own.same {B k e : Nat} {w w' : World} {v : Value} {es : List (List Value)} (h : Own B k e w v es) (hs : ∀ r, v.ownBlock = some r → w'.heap[r]? = w.heap[r]?) : Own B k e w' v es := by
 obtain ⟨⟨h1, h2⟩, h3⟩ := h
 refine ⟨⟨h1, ?_⟩, h3⟩
 rcases h2 with h2 | ⟨gg, cap, cur, fz, rfl, hb, hg, r⟩
 ·exact .inl h2
 ·exact .inr ⟨gg, cap, cur, fz, rfl, hb, by rw [hs gg rfl]; exact hg, r⟩
theorem Own.fr {B k e b : Nat} {w0 w w' : World} {t : TaskR} {rv sv gv ev v : Value} {es : List (List Value)} (h : Own B k e w v es) (hf : Fr b gv w w') (hT : TaskV w0 w b t rv sv gv ev) (h1 : 99 ≠ e) (h2 : e ≠ 64) : Own B k e w' v es :=
 h.same fun r hr => hf.block r (h.block r hr).2 (by rintro rfl; exact h.neBlock hT.blk h1 hr) (by
  intro e2
  rcases h.ne hT.gs h2 with e3 | e3
  ·rw [hr] at e3; cases e3
  ·exact e3 (by rw [hr, e2]))
theorem Fr.box {b c t : Nat} {w0 w w' : World} {tk : TaskR} {rv sv gv ev : Value} {cs : Array Value} {fz : Nat × Nat} (hf : Fr b gv w w') (hT : TaskV w0 w b tk rv sv gv ev) (hc : w.heap[c]? = some (.cells cs t fz)) (h1 : t ≠ 99) (h2 : t ≠ 64) : w'.heap[c]? = some (.cells cs t fz) := by
 rw [hf.block c (Array.getElem?_eq_some_iff.1 hc).1 (by
  rintro rfl
  have := hT.blk
  rw [hc] at this
  simp only [Option.some.injEq, Obj.cells.injEq] at this
  exact h1 this.2.1) (hT.gs.neBlock hc h2)]
 exact hc
theorem iP {t : TaskR} {l : List Rec} {n : List UInt8} {k : Int} {K : Nat} (h : ∀ r ∈ l, r.data.length ≤ K) : ∀ r ∈ t.of l n k, r.data.length ≤ K := by
 intro r hr
 unfold TaskR.of at hr
 obtain ⟨q, hq, rfl⟩ := List.mem_map.1 (List.mem_filter.1 hr).1
 exact h q (List.mem_filter.1 hq).1
theorem DP : TaskB DW 0 := ⟨by decide, by decide, by decide, by decide, by decide, by intro a h; cases h⟩
theorem DQ : TaskB DX 0 := ⟨by decide, by decide, by decide, by decide, by decide, by intro a h; cases h⟩
set_option maxHeartbeats 4000000 in
theorem zI (w : World) : Calls Tryz.prog 15 #[] w (FI w) := by
 go_enter Tryz.func15, Tryz.ntmps15
 (repeat' first | ((with_reducible refine aG ?_); go_step) | ((with_reducible refine aE ?_); first | refine aL ?_ | (refine aJ ?_ ?_ <;> intro hc)) | fail)
 refine bD (v := .agg #[aF [1, 120, 1, 65], .int .i64 1]) (Runs.build rfl (by kernel_rfl)) ?_
 refine aA ?_
 refine cD (e := 3) (k := 1) (bytes := 8) (xs := [.int .i64 3, .int .i64 4]) rfl rfl rfl (by simp [Value.cells]) (by decide +kernel) (by simp) ?_
 intro v1 w1 x1 _ sl1 _
 refine aA ?_
 have sl1' : Sl 1 w1 v1 (aZ [3, 4]) := sl1
 refine aM (enters_of Tryz.func24 rfl rfl) rfl rfl (zG [1, 120, 1, 65] 1 v1 [3, 4] 9 _ sl1' (by decide)) ?_
 intro r w2 x2 hr
 unfold fN at hr
 rw [if_pos DN] at hr
 obtain ⟨b, u2, rfl, hu2⟩ := hr
 change ActRet w1 b FJ.on u2 w2 at hu2
 rw [ET] at hu2
 obtain ⟨⟨a1, a2, rfl, oa1, oa2⟩, hT2⟩ := hu2
 have hbn : b < w2.heap.size := by obtain ⟨_, _, _, _, h⟩ := hT2; exact (Array.getElem?_eq_some_iff.1 h.blk).1
 refine aA ?_
 (repeat' first | ((with_reducible refine aG ?_); go_step) | ((with_reducible refine aE ?_); first | refine aL ?_ | (refine aJ ?_ ?_ <;> intro hc)) | fail)
 refine aH (z := bT) rfl (by decide +kernel) ?_
 intro w3 x3 s3 h3
 refine aA ?_
 have hT3 := hT2.grow x3
 (repeat' first | ((with_reducible refine aG ?_); go_step) | ((with_reducible refine aE ?_); first | refine aL ?_ | (refine aJ ?_ ?_ <;> intro hc)) | fail)
 refine aD (v := .agg (bG ⟨1, 3, [1, 120, 1, 97], 1, 0, [], []⟩ a1 a2).toArray) rfl rfl rfl h3 (show aN Tryz.prog 33 7 = true by decide +kernel) rfl (cY oa1.one oa2.one) ?_
 intro w4 p4
 have x4 : Ext w2 w4 := x3.move p4.mv (by rintro k ⟨⟩; exact Nat.le_refl _)
 have hT4 := hT2.grow x4
 have hA4 : w4.heap[w2.heap.size]? = some (.cells (bG ⟨1, 3, [1, 120, 1, 97], 1, 0, [], []⟩ a1 a2).toArray 33 (0, 0)) := p4.this
 have hx4 := x1.trans (x2.trans x4)
 clear hT2 hT3 p4 h3 x3
 (repeat' first | ((with_reducible refine aG ?_); go_step) | ((with_reducible refine aE ?_); first | refine aL ?_ | (refine aJ ?_ ?_ <;> intro hc)) | fail)
 refine bD (v := .agg #[aF [], .int .i64 1]) (Runs.build rfl (by kernel_rfl)) ?_
 refine aA ?_
 refine aM (enters_of Tryz.func24 rfl rfl) rfl rfl (zG [] 1 (.slice none 0 0) [] 9 _ (Sl.nil _ _) (by decide)) ?_
 intro r w5 x5 hr
 unfold fN at hr
 rw [DO, if_neg (by decide)] at hr
 subst hr
 refine aA ?_
 have hT5 := hT4.grow x5
 have hA5 := x5.at hA4
 (repeat' first | ((with_reducible refine aG ?_); go_step) | ((with_reducible refine aE ?_); first | refine aL ?_ | (refine aJ ?_ ?_ <;> intro hc)) | fail)
 refine aH (z := bT) rfl (by decide +kernel) ?_
 intro w6 x6 s6 h6
 refine aA ?_
 (repeat' first | ((with_reducible refine aG ?_); go_step) | ((with_reducible refine aE ?_); first | refine aL ?_ | (refine aJ ?_ ?_ <;> intro hc)) | fail)
 refine aD (v := .agg bT.toArray) rfl rfl rfl h6 (show aN Tryz.prog 33 7 = true by decide +kernel) rfl (by decide +kernel) ?_
 intro w7 p7
 have x7 : Ext w5 w7 := x6.move p7.mv (by rintro k ⟨⟩; exact Nat.le_refl _)
 have hT7 := hT5.grow x7
 have hA7 := x7.at hA5
 have hx7 := hx4.trans (x5.trans x7)
 clear hT4 hT5 hA4 hA5 p7 h6 x6
 change TaskAt w1 w7 b EQ at hT7
 (repeat' first | ((with_reducible refine aG ?_); go_step) | ((with_reducible refine aE ?_); first | refine aL ?_ | (refine aJ ?_ ?_ <;> intro hc)) | fail)
 refine aO (vs := [.pointer (some ⟨b, 0, none⟩)]) (enters_of Tryz.func21 rfl rfl) rfl rfl (lT hT7 (by decide) (by decide) (by intro a h; cases h)) ?_
 rintro e8 w8 ⟨u8, rfl, hu8, hm8⟩
 refine ⟨_, rfl, ?_⟩
 rw [EU] at hu8
 obtain ⟨⟨b1, b2, rfl, ob1, ob2⟩, hT8⟩ := hu8
 change TaskAt w1 w8 b DW at hT8
 refine aA ?_
 have z4 := x4.size
 have z57 := (x5.trans x7).size
 have hA8 := hm8.at hA7 (by intro e; have := Option.some.inj e; omega)
 have hx8 := hx7.move hm8 (by rintro k ⟨⟩; obtain ⟨_, _, _, _, h⟩ := hT8; have := h.ge; have := x1.size; omega)
 (repeat' first | ((with_reducible refine aG ?_); go_step) | ((with_reducible refine aE ?_); first | refine aL ?_ | (refine aJ ?_ ?_ <;> intro hc)) | fail)
 refine aH (z := bT) rfl (by decide +kernel) ?_
 intro w9 x9 s9 h9
 refine aA ?_
 (repeat' first | ((with_reducible refine aG ?_); go_step) | ((with_reducible refine aE ?_); first | refine aL ?_ | (refine aJ ?_ ?_ <;> intro hc)) | fail)
 refine aD (v := .agg (bG ⟨1, 4, [1, 120, 1, 97], 1, 0, [], []⟩ b1 b2).toArray) rfl rfl rfl h9 (show aN Tryz.prog 33 7 = true by decide +kernel) rfl (cY ob1.one ob2.one) ?_
 intro w10 p10
 have x10 : Ext w8 w10 := x9.move p10.mv (by rintro k ⟨⟩; exact Nat.le_refl _)
 have hT10 := hT8.grow x10
 have hA10 := x10.at hA8
 have hB10 : w10.heap[w8.heap.size]? = some (.cells (bG ⟨1, 4, [1, 120, 1, 97], 1, 0, [], []⟩ b1 b2).toArray 33 (0, 0)) := p10.this
 have hx10 := hx8.trans x10
 have z8 := hm8.size
 clear hT7 hT8 hA7 hA8 p10 h9 x9
 (repeat' first | ((with_reducible refine aG ?_); go_step) | ((with_reducible refine aE ?_); first | refine aL ?_ | (refine aJ ?_ ?_ <;> intro hc)) | fail)
 refine bD (v := .agg #[aF [1, 97], .int .i64 2, .int .i64 5, aF [1, 110, 0]]) (Runs.build rfl (by kernel_rfl)) ?_
 refine aA ?_
 refine cD (e := 64) (k := 4) (bytes := dN Tryz.prog 64) (xs := [.agg #[aF [1, 97], .int .i64 2, .int .i64 5, aF [1, 110, 0]]]) rfl rfl rfl (by simp [Value.cells]) (by decide +kernel) (by decide +kernel) ?_
 intro v11 w11 x11 _ _ o11
 refine aA ?_
 refine bD (v := .agg #[aF [1, 110], .int .i64 1, .int .i64 5, aF [10, 0, 0, 7]]) (Runs.build rfl (by kernel_rfl)) ?_
 refine aA ?_
 refine cD (e := 64) (k := 4) (bytes := dN Tryz.prog 64) (xs := [.agg #[aF [1, 110], .int .i64 1, .int .i64 5, aF [10, 0, 0, 7]]]) rfl rfl rfl (by simp [Value.cells]) (by decide +kernel) (by decide +kernel) ?_
 intro v12 w12 x12 _ _ o12
 refine aA ?_
 have o11' : Own w10.heap.size 4 64 w12 v11 (aI uI.au) := (show Own w10.heap.size 4 64 w11 v11 (aI uI.au) from o11).ext x12
 have o12' : Own w11.heap.size 4 64 w12 v12 (aI uI.ex) := o12
 have hT12 := (hT10.grow x11).grow x12
 have hA12 := x12.at (x11.at hA10)
 have hB12 := x12.at (x11.at hB10)
 obtain ⟨rv, sv, gv, ev, hV12⟩ := hT12
 refine bD (v := .agg (dF uI (.slice none 0 0) (.slice none 0 0) v11 v12).toArray) (Runs.build (vals := [(1, .bool true), (10, v11), (11, v12)]) rfl (by obtain ⟨_, _, _, rfl⟩ := o11'.sl.slf; obtain ⟨_, _, _, rfl⟩ := o12'.sl.slf; kernel_rfl)) ?_
 refine aA ?_
 refine aO (vs := [.pointer (some ⟨b, 0, none⟩), .agg (dF uI (.slice none 0 0) (.slice none 0 0) v11 v12).toArray]) (enters_of Tryz.func16 rfl rfl) rfl rfl (rC hV12 DP (by decide) uI _ _ _ _ (fun w' hm' => ⟨Sl.nil _ _, Sl.nil _ _, (o11'.mv hm' (.inr (o11'.neBlock hV12.blk (by decide)))).sl, (o12'.mv hm' (.inr (o12'.neBlock hV12.blk (by decide)))).sl⟩) (by decide) (by decide) (by decide) (fun z => iP (by decide)) (fun n => iP (by decide))) ?_
 rintro e13 w13 ⟨u13, l13, rfl, hu13, hl13, hf13⟩
 refine ⟨_, rfl, ?_⟩
 rw [EV] at hu13 hl13
 obtain ⟨⟨c1, c2, rfl, oc1, oc2⟩, hT13⟩ := hu13
 change TaskAt w1 w13 b DX at hT13
 have hA13 := hf13.box hV12 hA12 (by decide) (by decide)
 have hB13 := hf13.box hV12 hB12 (by decide) (by decide)
 obtain ⟨css, k1, k2, k3⟩ := hl13
 obtain ⟨e0, e1, rfl⟩ : ∃ e0 e1, css = [e0, e1] := by
  match css, (show css.length = 2 from k2) with
  | [e0, e1], _ => exact ⟨e0, e1, rfl⟩
 refine aA ?_
 (repeat' first | ((with_reducible refine aG ?_); go_step) | ((with_reducible refine aE ?_); first | refine aL ?_ | (refine aJ ?_ ?_ <;> intro hc)) | fail)
 refine aH (z := bT) rfl (by decide +kernel) ?_
 intro w14 x14 s14 h14
 refine aA ?_
 (repeat' first | ((with_reducible refine aG ?_); go_step) | ((with_reducible refine aE ?_); first | refine aL ?_ | (refine aJ ?_ ?_ <;> intro hc)) | fail)
 refine aD (v := .agg (bG ⟨1, 7, [1, 120, 1, 97], 1, 0, [], []⟩ c1 c2).toArray) rfl rfl rfl h14 (show aN Tryz.prog 33 7 = true by decide +kernel) rfl (cY oc1.one oc2.one) ?_
 intro w15 p15
 have x15 : Ext w13 w15 := x14.move p15.mv (by rintro k ⟨⟩; exact Nat.le_refl _)
 have hT15 := hT13.grow x15
 have hA15 := x15.at hA13
 have hB15 := x15.at hB13
 have hC15 : w15.heap[w13.heap.size]? = some (.cells (bG ⟨1, 7, [1, 120, 1, 97], 1, 0, [], []⟩ c1 c2).toArray 33 (0, 0)) := p15.this
 have k15 := k1.ext x15
 clear hT10 hT13 hA13 hB13 p15 h14 x14 hA12 hB12 hA10 hB10 k1 k3
 (repeat' first | ((with_reducible refine aG ?_); go_step) | ((with_reducible refine aE ?_); first | refine aL ?_ | (refine aJ ?_ ?_ <;> intro hc)) | fail)
 refine bD (v := .agg #[aF [1, 120, 1, 97], .int .i64 1, .int .i64 5, aF [49, 50, 51, 52]]) (Runs.build rfl (by kernel_rfl)) ?_
 refine aA ?_
 refine cD (e := 64) (k := 4) (bytes := dN Tryz.prog 64) (xs := [.agg #[aF [1, 120, 1, 97], .int .i64 1, .int .i64 5, aF [49, 50, 51, 52]]]) rfl rfl rfl (by simp [Value.cells]) (by decide +kernel) (by decide +kernel) ?_
 intro v16 w16 x16 _ _ o16
 refine aA ?_
 have o16' : Own w15.heap.size 4 64 w16 v16 (aI zH.an) := o16
 have hT16 := hT15.grow x16
 have hA16 := x16.at hA15
 have hB16 := x16.at hB15
 have hC16 := x16.at hC15
 have k16 := k15.ext x16
 obtain ⟨rv', sv', gv', ev', hV16⟩ := hT16
 refine bD (v := .agg (dF zH (.slice none 0 0) v16 (.slice none 0 0) (.slice none 0 0)).toArray) (Runs.build (vals := [(1, .bool true), (3, .bool true), (9, v16)]) rfl (by obtain ⟨_, _, _, rfl⟩ := o16'.sl.slf; kernel_rfl)) ?_
 refine aA ?_
 refine aO (vs := [.pointer (some ⟨b, 0, none⟩), .agg (dF zH (.slice none 0 0) v16 (.slice none 0 0) (.slice none 0 0)).toArray]) (enters_of Tryz.func16 rfl rfl) rfl rfl (rC hV16 DQ (by decide) zH _ _ _ _ (fun w' hm' => ⟨Sl.nil _ _, (o16'.mv hm' (.inr (o16'.neBlock hV16.blk (by decide)))).sl, Sl.nil _ _, Sl.nil _ _⟩) (by decide) (by decide) (by decide) (fun z => iP (by decide)) (fun n => iP (by decide))) ?_
 rintro e17 w17 ⟨u17, l17, rfl, hu17, hl17, hf17⟩
 refine ⟨_, rfl, ?_⟩
 rw [EW] at hu17 hl17
 obtain ⟨⟨d1, d2, rfl, od1, od2⟩, hT17⟩ := hu17
 change TaskAt w1 w17 b DY at hT17
 have hA17 := hf17.box hV16 hA16 (by decide) (by decide)
 have hB17 := hf17.box hV16 hB16 (by decide) (by decide)
 have hC17 := hf17.box hV16 hC16 (by decide) (by decide)
 have k17 := k16.fr hf17 hV16 (by decide) (by decide)
 obtain ⟨cst, j1, j2, j3⟩ := hl17
 obtain ⟨f0, rfl⟩ : ∃ f0, cst = [f0] := by
  match cst, (show cst.length = 1 from j2) with
  | [f0], _ => exact ⟨f0, rfl⟩
 obtain ⟨xd, hf0, hxd, _, _⟩ := j3 0 ⟨⟨[1, 120, 1, 97], 1, 5, [[49, 50, 51, 52]]⟩, 4⟩ rfl
 obtain rfl : f0 = oW ⟨⟨[1, 120, 1, 97], 1, 5, [[49, 50, 51, 52]]⟩, 4⟩ xd := by simpa using hf0
 refine aA ?_
 (repeat' first | ((with_reducible refine aG ?_); go_step) | ((with_reducible refine aE ?_); first | refine aL ?_ | (refine aJ ?_ ?_ <;> intro hc)) | fail)
 refine aH (z := bT) rfl (by decide +kernel) ?_
 intro w18 x18 s18 h18
 refine aA ?_
 (repeat' first | ((with_reducible refine aG ?_); go_step) | ((with_reducible refine aE ?_); first | refine aL ?_ | (refine aJ ?_ ?_ <;> intro hc)) | fail)
 refine aD (v := .agg (bG ⟨2, 0, [], 0, 0, CQ, []⟩ d1 d2).toArray) rfl rfl rfl h18 (show aN Tryz.prog 33 7 = true by decide +kernel) rfl (cY od1.one od2.one) ?_
 intro w19 p19
 have x19 : Ext w17 w19 := x18.move p19.mv (by rintro k ⟨⟩; exact Nat.le_refl _)
 have hT19 := hT17.grow x19
 have hpA := aC (cs := bG ⟨1, 3, [1, 120, 1, 97], 1, 0, [], []⟩ a1 a2) (x19.at hA17)
 have hpB := aC (cs := bG ⟨1, 4, [1, 120, 1, 97], 1, 0, [], []⟩ b1 b2) (x19.at hB17)
 have hpC := aC (cs := bG ⟨1, 7, [1, 120, 1, 97], 1, 0, [], []⟩ c1 c2) (x19.at hC17)
 have hpD := aC (cs := bG ⟨2, 0, [], 0, 0, CQ, []⟩ d1 d2) p19.this
 have k19 := (k17.ext x19).sl
 have j19 := j1.ext x19
 have od19 : Own 0 4 64 w19 d1 [[aF [1, 120, 1, 97], .int .i64 1, .int .i64 5, aF [49, 50, 51, 52]]] := (show Own 0 4 64 w17 d1 [[aF [1, 120, 1, 97], .int .i64 1, .int .i64 5, aF [49, 50, 51, 52]]] from od1).ext x19
 have sd19 := od19.sl
 have sj19 := j19.sl
 have hx19 : Ext w w19 := by obtain ⟨_, _, _, _, h⟩ := hT19; exact x1.trans h.ext
 clear hT15 hT17 hA15 hB15 hC15 hA16 hB16 hC16 hA17 hB17 hC17 p19 h18 x18 k15 k16 k17 j1 od1 hf13 hf17
 ((with_reducible refine aE ?_); (first | (refine lC ?_; refine iR ?_) | (refine mS ?_; refine pI ?_; (with_reducible refine aE ?_); refine lC ?_; refine iR ?_)))
 (first | ((with_reducible refine aG ?_); go_step) | fail)
 (first | ((with_reducible refine aG ?_); go_step) | fail)
 (first | ((with_reducible refine aG ?_); go_step) | fail)
 (first | ((with_reducible refine aG ?_); go_step) | fail)
 simp only [List.append]
 (repeat' first | ((with_reducible refine aG ?_); go_step) | ((with_reducible refine aE ?_); first | refine aL ?_ | (refine aJ ?_ ?_ <;> intro hc)) | fail)
 have hqA : Pts w19 (bA (.pointer (some ⟨w2.heap.size, 0, none⟩)) 2) [aF [1, 120, 1, 97], .int .i64 1] := (hpA.part 2).front 2
 ((with_reducible refine aE ?_); (first | (refine lC ?_; refine iR ?_) | (refine mS ?_; refine pI ?_; (with_reducible refine aE ?_); refine lC ?_; refine iR ?_)))
 clear hqA
 have hZ : Calls Tryz.prog 22 #[.pointer (some ⟨b, 0, none⟩)] w19 (bU w19 (aF [1, 97])) := iI hT19
 (repeat' first | ((with_reducible refine aG ?_); go_step) | ((with_reducible refine aE ?_); first | refine aL ?_ | (refine aJ ?_ ?_ <;> intro hc)) | fail)
 all_goals first
  | (exfalso; exact hc rfl)
  | skip
 refine aB (enters_of Tryz.func22 rfl rfl) rfl rfl hZ ?_
 intro w20 x20
 refine aA ?_
 have hpD20 := hpD.ext x20
 have sd20 := sd19.ext x20
 have sj20 := sj19.ext x20
 have hT20 := hT19.grow x20
 have hpf := sj20.elem (i := 0) (e := oW ⟨⟨[1, 120, 1, 97], 1, 5, [[49, 50, 51, 52]]⟩, 4⟩ xd) rfl
 (repeat' first | ((with_reducible refine aG ?_); go_step) | ((with_reducible refine aE ?_); first | refine aL ?_ | (refine aJ ?_ ?_ <;> intro hc)) | fail)
 all_goals first
  | (exfalso; exact hc rfl)
  | skip
 refine bD (Runs.fieldP rfl hpf (show eL Tryz.prog 61 1 4 = true by decide +kernel)) ?_
 refine aA ?_
 (repeat' first | ((with_reducible refine aG ?_); go_step) | ((with_reducible refine aE ?_); first | refine aL ?_ | (refine aJ ?_ ?_ <;> intro hc)) | fail)
 refine aO (vs := [.pointer (some ⟨b, 0, none⟩)]) (enters_of Tryz.func21 rfl rfl) rfl rfl (lT hT20 (by decide) (by decide) (by intro a h; cases h; exact ⟨by decide, by decide⟩)) ?_
 rintro e21 w21 ⟨u21, rfl, hu21, hm21⟩
 refine ⟨_, rfl, ?_⟩
 rw [EX] at hu21
 obtain ⟨⟨g1, g2, rfl, og1, og2⟩, hT21⟩ := hu21
 have hx21 : Ext w w21 := by obtain ⟨_, _, _, _, h⟩ := hT21; exact x1.trans h.ext
 refine aA ?_
 (repeat' first | ((with_reducible refine aG ?_); go_step) | ((with_reducible refine aE ?_); first | refine aL ?_ | (refine aJ ?_ ?_ <;> intro hc)) | fail)
 refine bD (v := .int .i64 2) (Runs.fieldV (off := 0) rfl rfl (by decide +kernel)) ?_
 refine aA ?_
 (repeat' first | ((with_reducible refine aG ?_); go_step) | ((with_reducible refine aE ?_); first | refine aL ?_ | (refine aJ ?_ ?_ <;> intro hc)) | fail)
 go_ret
 exact ⟨rfl, hx21⟩
theorem CI (w : World) : Calls Tryz.prog 15 #[] w (bU w (.bool true)) := zI w
theorem TaskV.other2 {w0 w w' : World} {b c : Nat} {t : TaskR} {rv sv gv ev u1 u2 : Value} {fz : Nat × Nat} {o : Obj} {a : ActR} (h : TaskV w0 w b t rv sv gv ev) (hp : Put w w' c o) (hc : w.heap[c]? = some (.cells (bG a u1 u2).toArray 33 fz)) (ha : a.kind ≠ 2) (hg : w0.heap.size ≤ c) : TaskV w0 w' b t rv sv gv ev := by
 refine ⟨h.ge, h.ext.move hp.mv (by rintro k ⟨⟩; exact hg), hp.mv.at h.blk ?_, h.rs.mv hp.mv (.inr (h.rs.neBlock hc (by decide))), h.ss.mv hp.mv (.inr (h.ss.neBlock hc (by decide))), h.gs.mv hp.mv (.inr (h.gs.neBlock hc (by decide))), ?_⟩
 ·intro e
  have e2 := h.blk
  rw [Option.some.inj e, hc] at e2
  simp only [Option.some.injEq, Obj.cells.injEq] at e2
  exact absurd e2.2.1 (by decide)
 ·have he := h.es
  generalize hst : t.stop = s at he
  cases s with
  | none => exact he
  | some a' =>
   obtain ⟨k, v1, v2, g1, g2, g3, g4, g5, g6⟩ := he
   refine ⟨k, v1, v2, g1, g2, hp.mv.at g3 (fun e => ?_), g4.mv hp.mv (.inr (g4.neBlock hc (by decide))), g5.mv hp.mv (.inr (g5.neBlock hc (by decide))), g6⟩
   rw [Option.some.inj e, hc] at g3
   simp only [Option.some.injEq, Obj.cells.injEq] at g3
   have e3 := congrArg (fun q => q[0]?) g3.1
   simp [bG, g6] at e3
   exact ha e3
theorem TaskAt.other2 {w0 w w' : World} {b c : Nat} {t : TaskR} {u1 u2 : Value} {fz : Nat × Nat} {o : Obj} {a : ActR} (h : TaskAt w0 w b t) (hp : Put w w' c o) (hc : w.heap[c]? = some (.cells (bG a u1 u2).toArray 33 fz)) (ha : a.kind ≠ 2) (hg : w0.heap.size ≤ c) : TaskAt w0 w' b t := by
 obtain ⟨rv, sv, gv, ev, h⟩ := h
 exact ⟨rv, sv, gv, ev, h.other2 hp hc ha hg⟩
theorem TaskAt.ext {w0 w : World} {b : Nat} {t : TaskR} (h : TaskAt w0 w b t) : Ext w0 w := by obtain ⟨_, _, _, _, h⟩ := h; exact h.ext
theorem TaskAt.lt {w0 w : World} {b : Nat} {t : TaskR} (h : TaskAt w0 w b t) : b < w.heap.size := by obtain ⟨_, _, _, _, h⟩ := h; exact (Array.getElem?_eq_some_iff.1 h.blk).1
structure ActAt (w0 w : World) (b c : Nat) (r : TaskR × ActR) : Prop where
 tsk : TaskAt w0 w b r.1
 out : ∃ v1 v2, w.heap[c]? = some (.cells (bG r.2 v1 v2).toArray 33 (0, 0)) ∧ Own 0 4 64 w v1 (aI r.2.ans) ∧ Own 0 4 64 w v2 (aI r.2.auth)
 ge : w0.heap.size ≤ c
 ne : c ≠ b
theorem ActAt.grow {w0 w w' : World} {b c : Nat} {r : TaskR × ActR} (h : ActAt w0 w b c r) (hx : Ext w w') : ActAt w0 w' b c r := by
 obtain ⟨v1, v2, h1, h2, h3⟩ := h.out
 exact ⟨h.tsk.grow hx, ⟨v1, v2, hx.at h1, h2.ext hx, h3.ext hx⟩, h.ge, h.ne⟩
theorem ActAt.next {w0 w1 w2 : World} {b c : Nat} {a : ActR} {r : TaskR × ActR} {u1 u2 v1 v2 : Value} (hT : TaskAt w0 w1 b r.1) (hc : w1.heap[c]? = some (.cells (bG a u1 u2).toArray 33 (0, 0))) (ha : a.kind ≠ 2) (hg : w0.heap.size ≤ c) (hn : c ≠ b)
 (o1 : Own 0 4 64 w1 v1 (aI r.2.ans)) (o2 : Own 0 4 64 w1 v2 (aI r.2.auth)) (hp : Put w1 w2 c (.cells (bG r.2 v1 v2).toArray 33 (0, 0))) : ActAt w0 w2 b c r :=
 ⟨hT.other2 hp hc ha hg, ⟨v1, v2, hp.this, o1.mv hp.mv (.inr (o1.neBlock hc (by decide))), o2.mv hp.mv (.inr (o2.neBlock hc (by decide)))⟩, hg, hn⟩
theorem mP {qn : List UInt8} {qt : Int} {roots : List Int} {budget : Int} (h : dL qn qt roots budget = 0) : 1 ≤ roots.length ∧ roots.length ≤ 20 ∧ 1 ≤ budget ∧ budget ≤ 100 := by
 unfold dL at h
 split at h
 ·rename_i c; exact ⟨c.2.2.1.1, c.2.2.1.2, c.2.2.2.1.1, c.2.2.2.1.2⟩
 ·cases h
theorem zJ (qn : List UInt8) (qt : Int) (roots : List Int) (budget : Int) : dL qn qt roots budget = 0 ∨ dL qn qt roots budget = 1 := by unfold dL; split <;> simp
theorem CJ (qn : List UInt8) (qt : Int) (roots : List Int) (budget : Int) : dO qn qt roots budget = wS qn qt roots budget 0 := by
 unfold dO wS
 simp
set_option maxHeartbeats 1000000 in
theorem uJ {w0 w : World} {b : Nat} {t : TaskR} {rv sv gv ev : Value} {a : ActR} (h : TaskV w0 w b t rv sv gv ev) (hst : t.stop = some a) (h1 : a.ans.length ≤ 1000000) (h2 : a.auth.length ≤ 1000000) : Calls Tryz.prog 21 #[.pointer (some ⟨b, 0, none⟩)] w (tG w fun u w' => ActV w' u a) := by
 have hp := aC (cs := bN t rv sv gv ev) h.blk
 have he := h.es
 go_enter Tryz.func21, Tryz.ntmps21
 (repeat' first | ((with_reducible refine aG ?_); go_step) | ((with_reducible refine aE ?_); first | refine aL ?_ | (refine aJ ?_ ?_ <;> intro hc)) | fail)
 refine aH (z := bT) rfl (by decide +kernel) ?_
 intro w1 x1 s1 hb1
 refine aA ?_
 have hp1 := hp.ext x1
 have hA1 := h.grow x1
 rw [hst] at he
 obtain ⟨c, v1, v2, rfl, hc, hcb, o1, o2, -⟩ := he
 (repeat' first | ((with_reducible refine aG ?_); go_step) | ((with_reducible refine aE ?_); first | refine aL ?_ | (refine aJ ?_ ?_ <;> intro hc)) | fail)
 refine aM (enters_of Tryz.func43 rfl rfl) rfl rfl (kW ⟨_, _, _, _, hA1⟩ hst h1 h2) ?_
 intro u w4 x4 hu
 refine aA ?_
 have h14 := x4.at hb1
 refine aD (v := u) rfl rfl rfl h14 (by rw [hu.1.size]; exact (show aN Tryz.prog 33 7 = true by decide +kernel)) (by rw [hu.1.size]; rfl) hu.1.one ?_
 intro w5 p5
 have x5 : Ext w w5 := (x1.trans x4).move p5.mv (by rintro k ⟨⟩; exact Nat.le_refl _)
 obtain ⟨u1, u2, rfl, q1, q2⟩ := (hu.1.put p5 h14 (by decide)).out
 (repeat' first | ((with_reducible refine aG ?_); go_step) | ((with_reducible refine aE ?_); first | refine aL ?_ | (refine aJ ?_ ?_ <;> intro hc)) | fail)
 refine bodyPost_ret (bV (cs := bG a u1 u2) rfl rfl p5.this (show bK Tryz.prog 33 7 = true by decide +kernel)) rfl ⟨_, rfl, x5, u1, u2, rfl, q1, q2⟩
set_option maxHeartbeats 1000000 in
theorem zK {w0 w : World} {b : Nat} {t : TaskR} {rv sv gv ev : Value} {a' : ActR} (h : TaskV w0 w b t rv sv gv ev) (hst : t.stop = some a') (h1 : a'.ans.length ≤ 1000000) (h2 : a'.auth.length ≤ 1000000) (m : MsgR) (q a u e : Value) (hm : MsgV w m q a u e) :
 Calls Tryz.prog 16 #[.pointer (some ⟨b, 0, none⟩), .agg (dF m q a u e).toArray] w (tG w fun r w' => ∃ u', r = .tuple #[u', .slice none 0 0] ∧ ActV w' u' a') := by
 have hp := aC (cs := bN t rv sv gv ev) h.blk
 have he := h.es
 go_enter Tryz.func16, Tryz.ntmps16
 repeat' (first | ((with_reducible refine aG ?_); go_step) | fail)
 refine cQ (vs := dF m q a u e) rfl rfl ?_
 intro w1 x1 s1 hb1
 refine aA ?_
 have hp1 := aC (cs := dF m q a u e) hb1
 have hpt1 := hp.ext x1
 (repeat' first | ((with_reducible refine aG ?_); go_step) | ((with_reducible refine aE ?_); first | refine aL ?_ | (refine aJ ?_ ?_ <;> intro hc)) | fail)
 refine aH (z := bT) rfl (by decide +kernel) ?_
 intro w2 x2 s2 hb2
 refine aA ?_
 have hp2 := hp1.ext x2
 have hpt2 := hpt1.ext x2
 have hh2 := h.grow (x1.trans x2)
 rw [hst] at he
 obtain ⟨c, v1, v2, rfl, hc, hcb, o1, o2, -⟩ := he
 (repeat' first | ((with_reducible refine aG ?_); go_step) | ((with_reducible refine aE ?_); first | refine aL ?_ | (refine aJ ?_ ?_ <;> intro hc)) | fail)
 refine aM (enters_of Tryz.func43 rfl rfl) rfl rfl (kW ⟨_, _, _, _, hh2⟩ hst h1 h2) ?_
 intro u' w4 x4 hu
 refine aA ?_
 have h14 := x4.at hb2
 refine aD (v := u') rfl rfl rfl h14 (by rw [hu.1.size]; exact (show aN Tryz.prog 33 7 = true by decide +kernel)) (by rw [hu.1.size]; rfl) hu.1.one ?_
 intro w5 p5
 have x5 : Ext w w5 := (x1.trans (x2.trans x4)).move p5.mv (by rintro k ⟨⟩; exact x1.size)
 obtain ⟨u1, u2, rfl, q1, q2⟩ := (hu.1.put p5 h14 (by decide)).out
 (repeat' first | ((with_reducible refine aG ?_); go_step) | ((with_reducible refine aE ?_); first | refine aL ?_ | (refine aJ ?_ ?_ <;> intro hc)) | fail)
 refine bodyPost_ret (bE (cs := bG a' u1 u2) rfl rfl p5.this (show bK Tryz.prog 33 7 = true by decide +kernel)) rfl ⟨_, rfl, x5, _, rfl, u1, u2, rfl, q1, q2⟩
structure ActIn (w0 w : World) (b c : Nat) (r : TaskR × ActR) : Prop where
 tsk : ∃ rv sv gv ev, TaskV w0 w b r.1 rv sv gv ev ∧ ev ≠ .pointer (some ⟨c, 0, none⟩)
 out : ∃ v1 v2, w.heap[c]? = some (.cells (bG r.2 v1 v2).toArray 33 (0, 0)) ∧ Own 0 4 64 w v1 (aI r.2.ans) ∧ Own 0 4 64 w v2 (aI r.2.auth)
 ge : w0.heap.size ≤ c
 ne : c ≠ b
theorem TaskV.other3 {w0 w w' : World} {b c : Nat} {t : TaskR} {rv sv gv ev u1 u2 : Value} {fz : Nat × Nat} {o : Obj} {a : ActR} (h : TaskV w0 w b t rv sv gv ev) (hp : Put w w' c o) (hc : w.heap[c]? = some (.cells (bG a u1 u2).toArray 33 fz)) (ha : ev ≠ .pointer (some ⟨c, 0, none⟩)) (hg : w0.heap.size ≤ c) : TaskV w0 w' b t rv sv gv ev := by
 refine ⟨h.ge, h.ext.move hp.mv (by rintro k ⟨⟩; exact hg), hp.mv.at h.blk ?_, h.rs.mv hp.mv (.inr (h.rs.neBlock hc (by decide))), h.ss.mv hp.mv (.inr (h.ss.neBlock hc (by decide))), h.gs.mv hp.mv (.inr (h.gs.neBlock hc (by decide))), ?_⟩
 ·intro e
  have e2 := h.blk
  rw [Option.some.inj e, hc] at e2
  simp only [Option.some.injEq, Obj.cells.injEq] at e2
  exact absurd e2.2.1 (by decide)
 ·have he := h.es
  generalize hst : t.stop = s at he
  cases s with
  | none => exact he
  | some a' =>
   obtain ⟨k, v1, v2, g1, g2, g3, g4, g5, g6⟩ := he
   refine ⟨k, v1, v2, g1, g2, hp.mv.at g3 (fun e => ?_), g4.mv hp.mv (.inr (g4.neBlock hc (by decide))), g5.mv hp.mv (.inr (g5.neBlock hc (by decide))), g6⟩
   exact ha (by rw [g1, Option.some.inj e])
theorem ActIn.next {w0 w1 w2 : World} {b c : Nat} {a : ActR} {r : TaskR × ActR} {u1 u2 v1 v2 rv sv gv ev : Value} (hT : TaskV w0 w1 b r.1 rv sv gv ev) (he : ev ≠ .pointer (some ⟨c, 0, none⟩)) (hc : w1.heap[c]? = some (.cells (bG a u1 u2).toArray 33 (0, 0))) (hg : w0.heap.size ≤ c) (hn : c ≠ b)
 (o1 : Own 0 4 64 w1 v1 (aI r.2.ans)) (o2 : Own 0 4 64 w1 v2 (aI r.2.auth)) (hp : Put w1 w2 c (.cells (bG r.2 v1 v2).toArray 33 (0, 0))) : ActIn w0 w2 b c r :=
 ⟨⟨rv, sv, gv, ev, hT.other3 hp hc he hg, he⟩, ⟨v1, v2, hp.this, o1.mv hp.mv (.inr (o1.neBlock hc (by decide))), o2.mv hp.mv (.inr (o2.neBlock hc (by decide)))⟩, hg, hn⟩
theorem ActIn.grow {w0 w w' : World} {b c : Nat} {r : TaskR × ActR} (h : ActIn w0 w b c r) (hx : Ext w w') : ActIn w0 w' b c r := by
 obtain ⟨v1, v2, h1, h2, h3⟩ := h.out
 obtain ⟨rv, sv, gv, ev, h4, h5⟩ := h.tsk
 exact ⟨⟨rv, sv, gv, ev, h4.grow hx, h5⟩, ⟨v1, v2, hx.at h1, h2.ext hx, h3.ext hx⟩, h.ge, h.ne⟩
theorem TaskAt.apart {w0 w : World} {b c : Nat} {t : TaskR} {u1 u2 : Value} {fz : Nat × Nat} {a : ActR} (h : TaskAt w0 w b t) (hc : w.heap[c]? = some (.cells (bG a u1 u2).toArray 33 fz)) (ha : a.kind ≠ 2) : ∃ rv sv gv ev, TaskV w0 w b t rv sv gv ev ∧ ev ≠ .pointer (some ⟨c, 0, none⟩) := by
 obtain ⟨rv, sv, gv, ev, h⟩ := h
 refine ⟨rv, sv, gv, ev, h, fun e => ?_⟩
 have he := h.es
 generalize hst : t.stop = s at he
 cases s with
 | none =>
  rw [show ev = .pointer none from he] at e
  cases e
 | some a' =>
  obtain ⟨k, v1, v2, g1, g2, g3, g4, g5, g6⟩ := he
  rw [g1] at e
  simp only [Value.pointer.injEq, Option.some.injEq, Addr.mk.injEq] at e
  rw [e.1, hc] at g3
  simp only [Option.some.injEq, Obj.cells.injEq] at g3
  have e3 := congrArg (fun q => q[0]?) g3.1
  simp [bG, g6] at e3
  exact ha e3
def aV (t : TaskR) (s : gZ) : TaskR × ActR := if s.1 = true then t.timeout else ((t.reply s.2).1, (t.reply s.2).2.1)
theorem zL {t : TaskR} (ht : TaskOk t) (s : gZ) : lQ t (aV t s).1 (aV t s).2 := by
 unfold aV
 split
 ·exact uC ht
 ·exact yS ht s.2
theorem uK {t : TaskR} (ht : TaskOk t) (s : gZ) : (aV t s).1.zone = [] ∨ bB (aV t s).1.zone t.zone = true := by
 unfold aV
 split
 ·rw [qW]; exact ht.zone
 ·exact uB ht s.2
theorem AU {t : TaskR} {n : Nat} (h : TaskB t n) (s : gZ) (hs : kU s.2 = true) : TaskB (aV t s).1 (n + 25) := by
 have ha : s.2.an.length ≤ 25 := by
  unfold kU dG at hs
  simp only [Bool.and_eq_true, decide_eq_true_eq] at hs
  exact hs.2.1.1.1
 unfold aV
 split
 ·exact h.timeout.weaken (by omega)
 ·exact h.reply s.2 ha (by omega)
theorem jA {t : TaskR} {a : ActR} (h : t.stop = some a) (s : gZ) : aV t s = (t, a) := by
 unfold aV TaskR.timeout TaskR.reply
 rw [h]
 split <;> rfl
theorem xF {qn : List UInt8} {roots : List Int} {l : List gZ} (h : rD qn roots l = true) : qn.length ≤ 300 ∧ roots.length ≤ 30 ∧ l.length ≤ 20 ∧ ∀ s ∈ l, kU s.2 = true := by
 unfold rD at h
 simp only [Bool.and_eq_true, decide_eq_true_eq, List.all_eq_true] at h
 exact ⟨h.1.1.1, h.1.1.2, h.1.2, h.2⟩
theorem AV {qn : List UInt8} {qt : Int} {roots : List Int} {budget : Int} (h : dL qn qt roots budget = 0) : (dO qn qt roots budget).on.2.kind = 1 ∧ (dO qn qt roots budget).on.1.stop = none ∧ (dO qn qt roots budget).on.1.left = budget - 1 ∧ TaskOk (dO qn qt roots budget).on.1 ∧ TaskB (dO qn qt roots budget).on.1 0 := by
 obtain ⟨n1, n2, n3, n4⟩ := mP h
 rw [CJ, AJ (i := 0) n1 (show ((0 : Nat) : Int) < budget by omega)]
 have hl : (wS qn qt roots budget (0 + 1)).left = budget - 1 := rfl
 refine ⟨rfl, rfl, rfl, ⟨?_, .inl rfl, by intro a h; cases h⟩, ⟨?_, ?_, by show (0 : Int) ≤ 0; omega, by show (0 : Int) ≤ 8; omega, by show (0 : Nat) ≤ 0; omega, by intro a h; cases h⟩⟩
 ·rw [hl]; omega
 ·rw [hl]; omega
 ·rw [hl]; omega
theorem uL {m : MsgR} (h : kU m = true) : m.an.length ≤ 25 ∧ m.au.length ≤ 25 ∧ m.ex.length ≤ 25 ∧ (∀ r ∈ m.au, r.data.length ≤ 9223372036854775807) ∧ (∀ r ∈ m.ex, r.data.length ≤ 9223372036854775807) := by
 unfold kU dG at h
 simp only [Bool.and_eq_true, decide_eq_true_eq, List.all_eq_true] at h
 obtain ⟨_, ⟨⟨h1, _⟩, ⟨h2, h2'⟩⟩, ⟨h3, h3'⟩⟩ := h
 refine ⟨h1, h2, h3, fun r hr => ?_, fun r hr => ?_⟩
 ·have := h2' r hr
  unfold eE at this
  simp only [Bool.and_eq_true, decide_eq_true_eq] at this
  omega
 ·have := h3' r hr
  unfold eE at this
  simp only [Bool.and_eq_true, decide_eq_true_eq] at this
  omega
set_option maxHeartbeats 4000000 in
theorem uM (qn : List UInt8) (qt : Int) (rv : Value) (roots : List Int) (budget : Int) (lv : Value) (l : List gZ) (w : World) (hr : Sl 1 w rv (aZ roots)) (hl : RopsAt w lv l) : Calls Tryz.prog 4 #[.agg (dM qn qt rv budget lv).toArray] w (FI w) := by
 have hFew := fun w0 (h1 : Sl 1 w0 rv (aZ roots)) (h2 : RopsAt w0 lv l) => AT qn qt rv roots budget lv l w0 h1 h2
 go_enter Tryz.func4, Tryz.ntmps4
 repeat' (first | ((with_reducible refine aG ?_); go_step) | fail)
 refine cQ (vs := dM qn qt rv budget lv) rfl rfl ?_
 intro w0 x0 s0 hb0
 refine aA ?_
 have hp0 := aC (cs := dM qn qt rv budget lv) hb0
 have hr0 := hr.ext x0
 have hl0 := hl.ext x0
 (repeat' first | ((with_reducible refine aG ?_); go_step) | ((with_reducible refine aE ?_); first | refine aL ?_ | (refine aJ ?_ ?_ <;> intro hc)) | fail)
 refine bD (v := .agg (dM qn qt rv budget lv).toArray) (Runs.loadN hp0 rfl (show bK Tryz.prog 48 5 = true by decide +kernel)) ?_
 refine aA ?_
 refine aB (enters_of Tryz.func23 rfl rfl) rfl rfl (hFew _ hr0 hl0) ?_; intro w1 x1; refine aA ?_
 cases hf : rD qn roots l with
 | false =>
  (repeat' first | ((with_reducible refine aG ?_); go_step) | ((with_reducible refine aE ?_); first | refine aL ?_ | (refine aJ ?_ ?_ <;> intro hc)) | fail)
  refine aB (enters_of Tryz.func15 rfl rfl) rfl rfl (CI _) ?_; intro w2 x2; refine aA ?_
  (repeat' first | ((with_reducible refine aG ?_); go_step) | ((with_reducible refine aE ?_); first | refine aL ?_ | (refine aJ ?_ ?_ <;> intro hc)) | fail)
  go_ret
  exact ⟨rfl, x0.trans (x1.trans x2)⟩
 | true =>
  obtain ⟨f1, f2, f3, f4⟩ := xF hf
  have hp1 := hp0.ext x1
  have hb1 := x1.at hb0
  have hr1 := hr0.ext x1
  have hl1 := hl0.ext x1
  have hx1 := x0.trans x1
  clear hp0
  (repeat' first | ((with_reducible refine aG ?_); go_step) | ((with_reducible refine aE ?_); first | refine aL ?_ | (refine aJ ?_ ?_ <;> intro hc)) | fail)
  refine bD (v := .agg #[aF qn, .int .i64 qt]) (Runs.loadN ((hp1.part 0).front 2) rfl (show bK Tryz.prog 31 2 = true by decide +kernel)) ?_
  refine aA ?_
  (repeat' first | ((with_reducible refine aG ?_); go_step) | ((with_reducible refine aE ?_); first | refine aL ?_ | (refine aJ ?_ ?_ <;> intro hc)) | fail)
  refine aM (enters_of Tryz.func24 rfl rfl) rfl rfl (zG qn qt rv roots budget _ hr1 (by omega)) ?_
  intro r w2 x2 hr2
  unfold fN at hr2
  rcases zJ qn qt roots budget with hE | hE
  ·rw [if_pos hE] at hr2
   obtain ⟨b, u2, rfl, ⟨v1, v2, rfl, oa1, oa2⟩, hT2⟩ := hr2
   obtain ⟨n1, n2, n3, n4⟩ := mP hE
   obtain ⟨t1, t2, t3, t4, t5⟩ := AV hE
   generalize (dO qn qt roots budget).on = N at *
   refine aA ?_
   (repeat' first | ((with_reducible refine aG ?_); go_step) | ((with_reducible refine aE ?_); first | refine aL ?_ | (refine aJ ?_ ?_ <;> intro hc)) | fail)
   refine aH (z := bT) rfl (by decide +kernel) ?_
   intro w3 x3 s3 h3
   refine aA ?_
   (repeat' first | ((with_reducible refine aG ?_); go_step) | ((with_reducible refine aE ?_); first | refine aL ?_ | (refine aJ ?_ ?_ <;> intro hc)) | fail)
   refine aD (v := .agg (bG N.2 v1 v2).toArray) rfl rfl rfl h3 (show aN Tryz.prog 33 7 = true by decide +kernel) rfl (cY oa1.one oa2.one) ?_
   intro w4 p4
   have x4 : Ext w2 w4 := x3.move p4.mv (by rintro k ⟨⟩; exact Nat.le_refl _)
   have hA4 : ActIn w1 w4 b w2.heap.size N := by
    obtain ⟨rv', sv', gv', ev', hV⟩ := hT2.grow x4
    refine ⟨⟨rv', sv', gv', ev', hV, ?_⟩, ⟨v1, v2, p4.this, oa1.ext x4, oa2.ext x4⟩, x2.size, by have := hT2.lt; omega⟩
    have he := hV.es
    rw [t2] at he
    rw [show ev' = .pointer none from he]
    intro e; cases e
   have hb4 := x4.at (x2.at hb1)
   have hpa := aC (cs := bG N.2 v1 v2) p4.this
   simp only [bG, t1] at hpa
   clear hT2 oa1 oa2 h3 x3 p4 hp1
   (repeat' first | ((with_reducible refine aG ?_); go_step) | ((with_reducible refine aE ?_); first | refine aL ?_ | (refine aJ ?_ ?_ <;> intro hc)) | fail)
   obtain ⟨css, h1, h2, h3⟩ := hl1
   have hB0 := x2.size
   have hw1 := hx1.size
   have hcl : w.heap.size < w1.heap.size := (Array.getElem?_eq_some_iff.1 hb1).1
   go_loopw [6, 7, 8, 9, 10] (fun sent done i _ _ wr => ∃ (k : Nat) (t : TaskR) (A : ActR) (d : Bool), k ≤ l.length ∧ i = .int .i64 k ∧ sent = .int .i64 (budget - t.left) ∧ done = .bool d ∧ d = t.stop.isSome ∧ ActIn w1 wr b w2.heap.size (t, A) ∧ (t.stop = none → A.kind = 1) ∧ TaskOk t ∧ TaskB t (25 * k) ∧ wr.heap[w.heap.size]? = some (.cells (dM qn qt rv budget lv).toArray 48 (0, 0))) (fun _ _ i _ _ _ => l.length - (intOf i).toNat)
   case atStart => exact ⟨0, N.1, N.2, false, Nat.zero_le _, rfl, by rw [t3, show budget - (budget - 1) = 1 by omega], rfl, by rw [t2]; rfl, hA4, fun _ => t1, t4, t5, hb4⟩
   case round =>
    obtain ⟨k, t, A, d, hk, rfl, rfl, rfl, hd, hA, hkA, hO, hB, hbr⟩ := hrel
    have hpr := aC (cs := dM qn qt rv budget lv) hbr
    obtain ⟨⟨rv', sv', gv', ev', hV, hev⟩, ⟨u1', u2', hbx, o1, o2⟩, hge, hne⟩ := hA
    have hxr := hV.ext
    have hlr := h1.ext hxr
    have hBr := hxr.size
    have hbV : w1.heap.size ≤ b := hV.ge
    by_cases hlt : k < l.length
    ·obtain ⟨mq, ma, mu, me, hcs, hm⟩ := h3 k l[k] (List.getElem?_eq_getElem hlt)
     have hfl := f4 l[k] (List.getElem_mem hlt)
     have hpe := hlr.elem hcs
     have hmr := hm.ext hxr
     generalize l[k] = s at *
     have hso := zL hO s
     have hsz := uK hO s
     have hsb := AU hB s hfl
     have hsO := hO.step hso hsz
     obtain ⟨fm1, fm2, fm3, fm4, fm5⟩ := uL hfl
     (repeat' first | ((with_reducible refine aG ?_); go_step) | ((with_reducible refine aE ?_); first | refine aL ?_ | (refine aJ ?_ ?_ <;> intro hc)) | fail)
     refine aB (enters_of Tryz.func22 rfl rfl) rfl rfl (iI ⟨_, _, _, _, hV⟩) ?_; intro w5 x5; refine aA ?_
     have hV5 := hV.grow x5
     have hbx5 := x5.at hbx
     have hbr5 := x5.at hbr
     have hpr5 := hpr.ext x5
     have hpe5 : Pts w5 (cX lv (k * 14)) (.bool s.1 :: dF s.2 mq ma mu me) := hpe.ext x5
     have hlr5 := hlr.ext x5
     have hx5 := hxr.trans x5
     have hmV : ∀ w', Mv (some b) w5 w' → MsgV w' s.2 mq ma mu me := fun w' h' => hm.ext (hx5.move h' (by rintro c ⟨⟩; exact hbV))
     have hm5 := hm.ext hx5
     have hns : some w2.heap.size ≠ some b := by intro e; exact hne (Option.some.inj e)
     clear hpr hpe hlr hmr
     cases hlate : s.1 with
     | true =>
      rw [hlate] at hpe5
      have hR : aV t s = t.timeout := by unfold aV; rw [if_pos hlate]
      cases hst : t.stop with
      | none =>
       have hd0 : d = false := by rw [hd, hst]; rfl
       have l0 := hB.l0
       have l1 := hB.l1
       (repeat' first | ((with_reducible refine aG ?_); go_step) | ((with_reducible refine aE ?_); first | refine aL ?_ | (refine aJ ?_ ?_ <;> intro hc)) | fail)
       refine aO (vs := [.pointer (some ⟨b, 0, none⟩)]) (enters_of Tryz.func21 rfl rfl) rfl rfl (lT ⟨_, _, _, _, hV5⟩ hB.l0 (Int.le_trans hB.l1 (by decide)) (by intro a h; rw [hst] at h; cases h)) ?_
       rintro e6 w6 ⟨u6', rfl, ⟨⟨d1, d2, rfl, q1, q2⟩, hT6⟩, hm6⟩
       refine ⟨_, rfl, ?_⟩
       rw [← hR] at q1 q2 hT6 ⊢
       refine aA ?_
       have hbx6 := hm6.at hbx5 hns
       have hbr6 := hm6.at hbr5 (by intro e; have := Option.some.inj e; omega)
       obtain ⟨rv6, sv6, gv6, ev6, hV6, hev6⟩ := hT6.apart hbx6 (by rw [hkA hst]; decide)
       (repeat' first | ((with_reducible refine aG ?_); go_step) | ((with_reducible refine aE ?_); first | refine aL ?_ | (refine aJ ?_ ?_ <;> intro hc)) | fail)
       refine aD (v := .agg (bG (aV t s).2 d1 d2).toArray) rfl rfl rfl hbx6 (show aN Tryz.prog 33 7 = true by decide +kernel) rfl (cY q1.one q2.one) ?_
       intro w7 p7
       have hA7 : ActIn w1 w7 b w2.heap.size (aV t s) := ActIn.next hV6 hev6 hbx6 hge hne q1 q2 p7
       have hbr7 := p7.mv.at hbr6 (by intro e; have := Option.some.inj e; omega)
       have hpa7 := aC (cs := bG (aV t s).2 d1 d2) p7.this
       have hpr7 := aC (cs := dM qn qt rv budget lv) hbr7
       rcases hso with hc1 | hc2
       ·obtain ⟨K1, K2, K3, K4, K5⟩ := hc1
        simp only [bG, K1] at hpa7
        subst hd0
        (repeat' first | ((with_reducible refine aG ?_); go_step) | ((with_reducible refine aE ?_); first | refine aL ?_ | (refine aJ ?_ ?_ <;> intro hc)) | fail)
        all_goals first
         | (exfalso; omega)
         | skip
        have hT7 : TaskAt w1 w7 b (aV t s).1 := by obtain ⟨⟨a1, a2, a3, a4, h, _⟩, _⟩ := hA7; exact ⟨a1, a2, a3, a4, h⟩
        refine aB (enters_of Tryz.func22 rfl rfl) rfl rfl (iI hT7) ?_; intro w8 x8; refine aA ?_
        have hA8 := hA7.grow x8
        have hbr8 := x8.at hbr7
        have hx8 : Ext w1 w8 := hT7.ext.trans x8
        clear hpa7 hpr7
        have hrel9 : ∀ w9, Ext w8 w9 → (∃ (k' : Nat) (t' : TaskR) (A' : ActR) (d' : Bool), k' ≤ l.length ∧ Value.int .i64 ((k + 1 : Nat) : Int) = .int .i64 k' ∧ Value.int .i64 (budget - t.left + 1) = .int .i64 (budget - t'.left) ∧ Value.bool false = .bool d' ∧ d' = t'.stop.isSome ∧ ActIn w1 w9 b w2.heap.size (t', A') ∧ (t'.stop = none → A'.kind = 1) ∧ TaskOk t' ∧ TaskB t' (25 * k') ∧ w9.heap[w.heap.size]? = some (.cells (dM qn qt rv budget lv).toArray 48 (0, 0))) := fun w9 x9 =>
         ⟨k + 1, (aV t s).1, (aV t s).2, false, by omega, rfl, by rw [K4, show budget - t.left + 1 = budget - (t.left - 1) by omega], rfl, by rw [K3]; rfl, hA8.grow x9, (fun _ => K1), hsO, by rw [Nat.mul_succ]; exact hsb, x9.at hbr8⟩
        by_cases hz0 : (aV t s).1.zone = []
        ·rw [hz0]
         (repeat' first | ((with_reducible refine aG ?_); go_step) | ((with_reducible refine aE ?_); first | refine aL ?_ | (refine aJ ?_ ?_ <;> intro hc)) | fail)
         exact ⟨hrel9 _ (Ext.refl _), by simp [intOf]; omega⟩
        ·have hz1 := hsz.resolve_left hz0
         have hun := fun w' => fZ (aV t s).1.zone t.zone w'
         rw [hz1] at hun
         (repeat' first | ((with_reducible refine aG ?_); go_step) | ((with_reducible refine aE ?_); first | refine aL ?_ | (refine aJ ?_ ?_ <;> intro hc)) | fail)
         all_goals first
          | (exfalso; have hh := hc; simp [hz0] at hh; done)
          | skip
         refine aB (enters_of Tryz.func25 rfl rfl) rfl rfl (hun _) ?_; intro w9 x9; refine aA ?_
         (repeat' first | ((with_reducible refine aG ?_); go_step) | ((with_reducible refine aE ?_); first | refine aL ?_ | (refine aJ ?_ ?_ <;> intro hc)) | fail)
         exact ⟨hrel9 _ x9, by simp [intOf]; omega⟩
       ·obtain ⟨K1, K2, K3⟩ := hc2
        simp only [bG, K1] at hpa7
        (repeat' first | ((with_reducible refine aG ?_); go_step) | ((with_reducible refine aE ?_); first | refine aL ?_ | (refine aJ ?_ ?_ <;> intro hc)) | fail)
        all_goals first
         | (exfalso; omega)
         | skip
        have hT7 : TaskAt w1 w7 b (aV t s).1 := by obtain ⟨⟨a1, a2, a3, a4, h, _⟩, _⟩ := hA7; exact ⟨a1, a2, a3, a4, h⟩
        refine aB (enters_of Tryz.func22 rfl rfl) rfl rfl (iI hT7) ?_; intro w8 x8; refine aA ?_
        have hA8 := hA7.grow x8
        have hbr8 := x8.at hbr7
        have hx8 : Ext w1 w8 := hT7.ext.trans x8
        clear hpa7 hpr7
        have hrel9 : ∀ w9, Ext w8 w9 → (∃ (k' : Nat) (t' : TaskR) (A' : ActR) (d' : Bool), k' ≤ l.length ∧ Value.int .i64 ((k + 1 : Nat) : Int) = .int .i64 k' ∧ Value.int .i64 (budget - t.left) = .int .i64 (budget - t'.left) ∧ Value.bool true = .bool d' ∧ d' = t'.stop.isSome ∧ ActIn w1 w9 b w2.heap.size (t', A') ∧ (t'.stop = none → A'.kind = 1) ∧ TaskOk t' ∧ TaskB t' (25 * k') ∧ w9.heap[w.heap.size]? = some (.cells (dM qn qt rv budget lv).toArray 48 (0, 0))) := fun w9 x9 =>
         ⟨k + 1, (aV t s).1, (aV t s).2, true, by omega, rfl, by rw [K3], rfl, by rw [K2]; rfl, hA8.grow x9, (fun e => by rw [K2] at e; cases e), hsO, by rw [Nat.mul_succ]; exact hsb, x9.at hbr8⟩
        by_cases hz0 : (aV t s).1.zone = []
        ·rw [hz0]
         (repeat' first | ((with_reducible refine aG ?_); go_step) | ((with_reducible refine aE ?_); first | refine aL ?_ | (refine aJ ?_ ?_ <;> intro hc)) | fail)
         exact ⟨hrel9 _ (Ext.refl _), by simp [intOf]; omega⟩
        ·have hz1 := hsz.resolve_left hz0
         have hun := fun w' => fZ (aV t s).1.zone t.zone w'
         rw [hz1] at hun
         (repeat' first | ((with_reducible refine aG ?_); go_step) | ((with_reducible refine aE ?_); first | refine aL ?_ | (refine aJ ?_ ?_ <;> intro hc)) | fail)
         all_goals first
          | (exfalso; have hh := hc; simp [hz0] at hh; done)
          | skip
         refine aB (enters_of Tryz.func25 rfl rfl) rfl rfl (hun _) ?_; intro w9 x9; refine aA ?_
         (repeat' first | ((with_reducible refine aG ?_); go_step) | ((with_reducible refine aE ?_); first | refine aL ?_ | (refine aJ ?_ ?_ <;> intro hc)) | fail)
         exact ⟨hrel9 _ x9, by simp [intOf]; omega⟩
      | some a0 =>
       (repeat' first | ((with_reducible refine aG ?_); go_step) | ((with_reducible refine aE ?_); first | refine aL ?_ | (refine aJ ?_ ?_ <;> intro hc)) | fail)
       have hSt : aV t s = (t, a0) := jA hst s
       have hsB := hB.stop a0 hst
       refine aM (enters_of Tryz.func21 rfl rfl) rfl rfl (uJ hV5 hst (by omega) (by omega)) ?_
       rintro u6' w6 x6 ⟨d1, d2, rfl, q1, q2⟩
       rw [show a0 = (aV t s).2 by rw [hSt]] at q1 q2 ⊢
       refine aA ?_
       have hbx6 := x6.at hbx5
       have hbr6 := x6.at hbr5
       have hV6 : TaskV w1 w6 b (aV t s).1 rv' sv' gv' ev' := by rw [hSt]; exact hV5.grow x6
       have hev6 := hev
       (repeat' first | ((with_reducible refine aG ?_); go_step) | ((with_reducible refine aE ?_); first | refine aL ?_ | (refine aJ ?_ ?_ <;> intro hc)) | fail)
       refine aD (v := .agg (bG (aV t s).2 d1 d2).toArray) rfl rfl rfl hbx6 (show aN Tryz.prog 33 7 = true by decide +kernel) rfl (cY q1.one q2.one) ?_
       intro w7 p7
       have hA7 : ActIn w1 w7 b w2.heap.size (aV t s) := ActIn.next hV6 hev6 hbx6 hge hne q1 q2 p7
       have hbr7 := p7.mv.at hbr6 (by intro e; have := Option.some.inj e; omega)
       have hpa7 := aC (cs := bG (aV t s).2 d1 d2) p7.this
       have hpr7 := aC (cs := dM qn qt rv budget lv) hbr7
       have hc2 : (aV t s).2.kind = 2 ∧ (aV t s).1.stop = some (aV t s).2 ∧ (aV t s).1.left = t.left := by
        rcases hso with ⟨_, h, _⟩ | h
        ·rw [hst] at h; cases h
        ·exact h
       obtain ⟨K1, K2, K3⟩ := hc2
       simp only [bG, K1] at hpa7
       (repeat' first | ((with_reducible refine aG ?_); go_step) | ((with_reducible refine aE ?_); first | refine aL ?_ | (refine aJ ?_ ?_ <;> intro hc)) | fail)
       all_goals first
        | (exfalso; omega)
        | skip
       have hT7 : TaskAt w1 w7 b (aV t s).1 := by obtain ⟨⟨a1, a2, a3, a4, h, _⟩, _⟩ := hA7; exact ⟨a1, a2, a3, a4, h⟩
       refine aB (enters_of Tryz.func22 rfl rfl) rfl rfl (iI hT7) ?_; intro w8 x8; refine aA ?_
       have hA8 := hA7.grow x8
       have hbr8 := x8.at hbr7
       have hx8 : Ext w1 w8 := hT7.ext.trans x8
       clear hpa7 hpr7
       have hrel9 : ∀ w9, Ext w8 w9 → (∃ (k' : Nat) (t' : TaskR) (A' : ActR) (d' : Bool), k' ≤ l.length ∧ Value.int .i64 ((k + 1 : Nat) : Int) = .int .i64 k' ∧ Value.int .i64 (budget - t.left) = .int .i64 (budget - t'.left) ∧ Value.bool true = .bool d' ∧ d' = t'.stop.isSome ∧ ActIn w1 w9 b w2.heap.size (t', A') ∧ (t'.stop = none → A'.kind = 1) ∧ TaskOk t' ∧ TaskB t' (25 * k') ∧ w9.heap[w.heap.size]? = some (.cells (dM qn qt rv budget lv).toArray 48 (0, 0))) := fun w9 x9 =>
        ⟨k + 1, (aV t s).1, (aV t s).2, true, by omega, rfl, by rw [K3], rfl, by rw [K2]; rfl, hA8.grow x9, (fun e => by rw [K2] at e; cases e), hsO, by rw [Nat.mul_succ]; exact hsb, x9.at hbr8⟩
       by_cases hz0 : (aV t s).1.zone = []
       ·rw [hz0]
        (repeat' first | ((with_reducible refine aG ?_); go_step) | ((with_reducible refine aE ?_); first | refine aL ?_ | (refine aJ ?_ ?_ <;> intro hc)) | fail)
        exact ⟨hrel9 _ (Ext.refl _), by simp [intOf]; omega⟩
       ·have hz1 := hsz.resolve_left hz0
        have hun := fun w' => fZ (aV t s).1.zone t.zone w'
        rw [hz1] at hun
        (repeat' first | ((with_reducible refine aG ?_); go_step) | ((with_reducible refine aE ?_); first | refine aL ?_ | (refine aJ ?_ ?_ <;> intro hc)) | fail)
        all_goals first
         | (exfalso; have hh := hc; simp [hz0] at hh; done)
         | skip
        refine aB (enters_of Tryz.func25 rfl rfl) rfl rfl (hun _) ?_; intro w9 x9; refine aA ?_
        (repeat' first | ((with_reducible refine aG ?_); go_step) | ((with_reducible refine aE ?_); first | refine aL ?_ | (refine aJ ?_ ?_ <;> intro hc)) | fail)
        exact ⟨hrel9 _ x9, by simp [intOf]; omega⟩
     | false =>
      rw [hlate] at hpe5
      have hR : aV t s = ((t.reply s.2).1, (t.reply s.2).2.1) := by unfold aV; rw [if_neg (by rw [hlate]; decide)]
      cases hst : t.stop with
      | none =>
       have hd0 : d = false := by rw [hd, hst]; rfl
       have l0 := hB.l0
       have l1 := hB.l1
       (repeat' first | ((with_reducible refine aG ?_); go_step) | ((with_reducible refine aE ?_); first | refine aL ?_ | (refine aJ ?_ ?_ <;> intro hc)) | fail)
       refine bD (v := .agg (dF s.2 mq ma mu me).toArray) (Runs.loadN (hpe5.part 1) rfl (show bK Tryz.prog 25 13 = true by decide +kernel)) ?_
       refine aA ?_
       refine aO (vs := [.pointer (some ⟨b, 0, none⟩), .agg (dF s.2 mq ma mu me).toArray]) (enters_of Tryz.func16 rfl rfl) rfl rfl (rC hV5 hB (by omega) s.2 mq ma mu me hmV (by omega) (by omega) (by omega) (fun z => iP fm4) (fun n => iP fm5)) ?_
       rintro e6 w6 ⟨u6', l6, rfl, ⟨⟨d1, d2, rfl, q1, q2⟩, hT6⟩, hl6, hf6⟩
       refine ⟨_, rfl, ?_⟩
       have hR1 : (aV t s).1 = (t.reply s.2).1 := by rw [hR]
       have hR2 : (aV t s).2 = (t.reply s.2).2.1 := by rw [hR]
       dsimp only at q1 q2 hT6 ⊢
       rw [← hR2] at q1 q2 ⊢
       rw [← hR1] at hT6
       refine aA ?_
       have hbx6 := hf6.box hV5 hbx5 (by decide) (by decide)
       have hbr6 := hf6.box hV5 hbr5 (by decide) (by decide)
       obtain ⟨rv6, sv6, gv6, ev6, hV6, hev6⟩ := hT6.apart hbx6 (by rw [hkA hst]; decide)
       (repeat' first | ((with_reducible refine aG ?_); go_step) | ((with_reducible refine aE ?_); first | refine aL ?_ | (refine aJ ?_ ?_ <;> intro hc)) | fail)
       refine aD (v := .agg (bG (aV t s).2 d1 d2).toArray) rfl rfl rfl hbx6 (show aN Tryz.prog 33 7 = true by decide +kernel) rfl (cY q1.one q2.one) ?_
       intro w7 p7
       have hA7 : ActIn w1 w7 b w2.heap.size (aV t s) := ActIn.next hV6 hev6 hbx6 hge hne q1 q2 p7
       have hbr7 := p7.mv.at hbr6 (by intro e; have := Option.some.inj e; omega)
       have hpa7 := aC (cs := bG (aV t s).2 d1 d2) p7.this
       have hpr7 := aC (cs := dM qn qt rv budget lv) hbr7
       rcases hso with hc1 | hc2
       ·obtain ⟨K1, K2, K3, K4, K5⟩ := hc1
        simp only [bG, K1] at hpa7
        subst hd0
        (repeat' first | ((with_reducible refine aG ?_); go_step) | ((with_reducible refine aE ?_); first | refine aL ?_ | (refine aJ ?_ ?_ <;> intro hc)) | fail)
        all_goals first
         | (exfalso; omega)
         | skip
        have hT7 : TaskAt w1 w7 b (aV t s).1 := by obtain ⟨⟨a1, a2, a3, a4, h, _⟩, _⟩ := hA7; exact ⟨a1, a2, a3, a4, h⟩
        refine aB (enters_of Tryz.func22 rfl rfl) rfl rfl (iI hT7) ?_; intro w8 x8; refine aA ?_
        have hA8 := hA7.grow x8
        have hbr8 := x8.at hbr7
        have hx8 : Ext w1 w8 := hT7.ext.trans x8
        clear hpa7 hpr7
        have hrel9 : ∀ w9, Ext w8 w9 → (∃ (k' : Nat) (t' : TaskR) (A' : ActR) (d' : Bool), k' ≤ l.length ∧ Value.int .i64 ((k + 1 : Nat) : Int) = .int .i64 k' ∧ Value.int .i64 (budget - t.left + 1) = .int .i64 (budget - t'.left) ∧ Value.bool false = .bool d' ∧ d' = t'.stop.isSome ∧ ActIn w1 w9 b w2.heap.size (t', A') ∧ (t'.stop = none → A'.kind = 1) ∧ TaskOk t' ∧ TaskB t' (25 * k') ∧ w9.heap[w.heap.size]? = some (.cells (dM qn qt rv budget lv).toArray 48 (0, 0))) := fun w9 x9 =>
         ⟨k + 1, (aV t s).1, (aV t s).2, false, by omega, rfl, by rw [K4, show budget - t.left + 1 = budget - (t.left - 1) by omega], rfl, by rw [K3]; rfl, hA8.grow x9, (fun _ => K1), hsO, by rw [Nat.mul_succ]; exact hsb, x9.at hbr8⟩
        by_cases hz0 : (aV t s).1.zone = []
        ·rw [hz0]
         (repeat' first | ((with_reducible refine aG ?_); go_step) | ((with_reducible refine aE ?_); first | refine aL ?_ | (refine aJ ?_ ?_ <;> intro hc)) | fail)
         exact ⟨hrel9 _ (Ext.refl _), by simp [intOf]; omega⟩
        ·have hz1 := hsz.resolve_left hz0
         have hun := fun w' => fZ (aV t s).1.zone t.zone w'
         rw [hz1] at hun
         (repeat' first | ((with_reducible refine aG ?_); go_step) | ((with_reducible refine aE ?_); first | refine aL ?_ | (refine aJ ?_ ?_ <;> intro hc)) | fail)
         all_goals first
          | (exfalso; have hh := hc; simp [hz0] at hh; done)
          | skip
         refine aB (enters_of Tryz.func25 rfl rfl) rfl rfl (hun _) ?_; intro w9 x9; refine aA ?_
         (repeat' first | ((with_reducible refine aG ?_); go_step) | ((with_reducible refine aE ?_); first | refine aL ?_ | (refine aJ ?_ ?_ <;> intro hc)) | fail)
         exact ⟨hrel9 _ x9, by simp [intOf]; omega⟩
       ·obtain ⟨K1, K2, K3⟩ := hc2
        simp only [bG, K1] at hpa7
        (repeat' first | ((with_reducible refine aG ?_); go_step) | ((with_reducible refine aE ?_); first | refine aL ?_ | (refine aJ ?_ ?_ <;> intro hc)) | fail)
        all_goals first
         | (exfalso; omega)
         | skip
        have hT7 : TaskAt w1 w7 b (aV t s).1 := by obtain ⟨⟨a1, a2, a3, a4, h, _⟩, _⟩ := hA7; exact ⟨a1, a2, a3, a4, h⟩
        refine aB (enters_of Tryz.func22 rfl rfl) rfl rfl (iI hT7) ?_; intro w8 x8; refine aA ?_
        have hA8 := hA7.grow x8
        have hbr8 := x8.at hbr7
        have hx8 : Ext w1 w8 := hT7.ext.trans x8
        clear hpa7 hpr7
        have hrel9 : ∀ w9, Ext w8 w9 → (∃ (k' : Nat) (t' : TaskR) (A' : ActR) (d' : Bool), k' ≤ l.length ∧ Value.int .i64 ((k + 1 : Nat) : Int) = .int .i64 k' ∧ Value.int .i64 (budget - t.left) = .int .i64 (budget - t'.left) ∧ Value.bool true = .bool d' ∧ d' = t'.stop.isSome ∧ ActIn w1 w9 b w2.heap.size (t', A') ∧ (t'.stop = none → A'.kind = 1) ∧ TaskOk t' ∧ TaskB t' (25 * k') ∧ w9.heap[w.heap.size]? = some (.cells (dM qn qt rv budget lv).toArray 48 (0, 0))) := fun w9 x9 =>
         ⟨k + 1, (aV t s).1, (aV t s).2, true, by omega, rfl, by rw [K3], rfl, by rw [K2]; rfl, hA8.grow x9, (fun e => by rw [K2] at e; cases e), hsO, by rw [Nat.mul_succ]; exact hsb, x9.at hbr8⟩
        by_cases hz0 : (aV t s).1.zone = []
        ·rw [hz0]
         (repeat' first | ((with_reducible refine aG ?_); go_step) | ((with_reducible refine aE ?_); first | refine aL ?_ | (refine aJ ?_ ?_ <;> intro hc)) | fail)
         exact ⟨hrel9 _ (Ext.refl _), by simp [intOf]; omega⟩
        ·have hz1 := hsz.resolve_left hz0
         have hun := fun w' => fZ (aV t s).1.zone t.zone w'
         rw [hz1] at hun
         (repeat' first | ((with_reducible refine aG ?_); go_step) | ((with_reducible refine aE ?_); first | refine aL ?_ | (refine aJ ?_ ?_ <;> intro hc)) | fail)
         all_goals first
          | (exfalso; have hh := hc; simp [hz0] at hh; done)
          | skip
         refine aB (enters_of Tryz.func25 rfl rfl) rfl rfl (hun _) ?_; intro w9 x9; refine aA ?_
         (repeat' first | ((with_reducible refine aG ?_); go_step) | ((with_reducible refine aE ?_); first | refine aL ?_ | (refine aJ ?_ ?_ <;> intro hc)) | fail)
         exact ⟨hrel9 _ x9, by simp [intOf]; omega⟩
      | some a0 =>
       (repeat' first | ((with_reducible refine aG ?_); go_step) | ((with_reducible refine aE ?_); first | refine aL ?_ | (refine aJ ?_ ?_ <;> intro hc)) | fail)
       have hSt : aV t s = (t, a0) := jA hst s
       have hsB := hB.stop a0 hst
       refine bD (v := .agg (dF s.2 mq ma mu me).toArray) (Runs.loadN (hpe5.part 1) rfl (show bK Tryz.prog 25 13 = true by decide +kernel)) ?_
       refine aA ?_
       refine aM (enters_of Tryz.func16 rfl rfl) rfl rfl (zK hV5 hst (by omega) (by omega) s.2 mq ma mu me hm5) ?_
       rintro _ w6 x6 ⟨u6', rfl, d1, d2, rfl, q1, q2⟩
       rw [show a0 = (aV t s).2 by rw [hSt]] at q1 q2 ⊢
       refine aA ?_
       have hbx6 := x6.at hbx5
       have hbr6 := x6.at hbr5
       have hV6 : TaskV w1 w6 b (aV t s).1 rv' sv' gv' ev' := by rw [hSt]; exact hV5.grow x6
       have hev6 := hev
       (repeat' first | ((with_reducible refine aG ?_); go_step) | ((with_reducible refine aE ?_); first | refine aL ?_ | (refine aJ ?_ ?_ <;> intro hc)) | fail)
       refine aD (v := .agg (bG (aV t s).2 d1 d2).toArray) rfl rfl rfl hbx6 (show aN Tryz.prog 33 7 = true by decide +kernel) rfl (cY q1.one q2.one) ?_
       intro w7 p7
       have hA7 : ActIn w1 w7 b w2.heap.size (aV t s) := ActIn.next hV6 hev6 hbx6 hge hne q1 q2 p7
       have hbr7 := p7.mv.at hbr6 (by intro e; have := Option.some.inj e; omega)
       have hpa7 := aC (cs := bG (aV t s).2 d1 d2) p7.this
       have hpr7 := aC (cs := dM qn qt rv budget lv) hbr7
       have hc2 : (aV t s).2.kind = 2 ∧ (aV t s).1.stop = some (aV t s).2 ∧ (aV t s).1.left = t.left := by
        rcases hso with ⟨_, h, _⟩ | h
        ·rw [hst] at h; cases h
        ·exact h
       obtain ⟨K1, K2, K3⟩ := hc2
       simp only [bG, K1] at hpa7
       (repeat' first | ((with_reducible refine aG ?_); go_step) | ((with_reducible refine aE ?_); first | refine aL ?_ | (refine aJ ?_ ?_ <;> intro hc)) | fail)
       all_goals first
        | (exfalso; omega)
        | skip
       have hT7 : TaskAt w1 w7 b (aV t s).1 := by obtain ⟨⟨a1, a2, a3, a4, h, _⟩, _⟩ := hA7; exact ⟨a1, a2, a3, a4, h⟩
       refine aB (enters_of Tryz.func22 rfl rfl) rfl rfl (iI hT7) ?_; intro w8 x8; refine aA ?_
       have hA8 := hA7.grow x8
       have hbr8 := x8.at hbr7
       have hx8 : Ext w1 w8 := hT7.ext.trans x8
       clear hpa7 hpr7
       have hrel9 : ∀ w9, Ext w8 w9 → (∃ (k' : Nat) (t' : TaskR) (A' : ActR) (d' : Bool), k' ≤ l.length ∧ Value.int .i64 ((k + 1 : Nat) : Int) = .int .i64 k' ∧ Value.int .i64 (budget - t.left) = .int .i64 (budget - t'.left) ∧ Value.bool true = .bool d' ∧ d' = t'.stop.isSome ∧ ActIn w1 w9 b w2.heap.size (t', A') ∧ (t'.stop = none → A'.kind = 1) ∧ TaskOk t' ∧ TaskB t' (25 * k') ∧ w9.heap[w.heap.size]? = some (.cells (dM qn qt rv budget lv).toArray 48 (0, 0))) := fun w9 x9 =>
        ⟨k + 1, (aV t s).1, (aV t s).2, true, by omega, rfl, by rw [K3], rfl, by rw [K2]; rfl, hA8.grow x9, (fun e => by rw [K2] at e; cases e), hsO, by rw [Nat.mul_succ]; exact hsb, x9.at hbr8⟩
       by_cases hz0 : (aV t s).1.zone = []
       ·rw [hz0]
        (repeat' first | ((with_reducible refine aG ?_); go_step) | ((with_reducible refine aE ?_); first | refine aL ?_ | (refine aJ ?_ ?_ <;> intro hc)) | fail)
        exact ⟨hrel9 _ (Ext.refl _), by simp [intOf]; omega⟩
       ·have hz1 := hsz.resolve_left hz0
        have hun := fun w' => fZ (aV t s).1.zone t.zone w'
        rw [hz1] at hun
        (repeat' first | ((with_reducible refine aG ?_); go_step) | ((with_reducible refine aE ?_); first | refine aL ?_ | (refine aJ ?_ ?_ <;> intro hc)) | fail)
        all_goals first
         | (exfalso; have hh := hc; simp [hz0] at hh; done)
         | skip
        refine aB (enters_of Tryz.func25 rfl rfl) rfl rfl (hun _) ?_; intro w9 x9; refine aA ?_
        (repeat' first | ((with_reducible refine aG ?_); go_step) | ((with_reducible refine aE ?_); first | refine aL ?_ | (refine aJ ?_ ?_ <;> intro hc)) | fail)
        exact ⟨hrel9 _ x9, by simp [intOf]; omega⟩
    ·(repeat' first | ((with_reducible refine aG ?_); go_step) | ((with_reducible refine aE ?_); first | refine aL ?_ | (refine aJ ?_ ?_ <;> intro hc)) | fail)
     refine aB (enters_of Tryz.func15 rfl rfl) rfl rfl (CI _) ?_; intro w5 x5; refine aA ?_
     (repeat' first | ((with_reducible refine aG ?_); go_step) | ((with_reducible refine aE ?_); first | refine aL ?_ | (refine aJ ?_ ?_ <;> intro hc)) | fail)
     go_ret
     exact ⟨rfl, hx1.trans (hxr.trans x5)⟩
  ·rw [hE, if_neg (by decide)] at hr2
   subst hr2
   refine aA ?_
   (repeat' first | ((with_reducible refine aG ?_); go_step) | ((with_reducible refine aE ?_); first | refine aL ?_ | (refine aJ ?_ ?_ <;> intro hc)) | fail)
   refine aH (z := bT) rfl (by decide +kernel) ?_
   intro w3 x3 s3 h3
   refine aA ?_
   (repeat' first | ((with_reducible refine aG ?_); go_step) | ((with_reducible refine aE ?_); first | refine aL ?_ | (refine aJ ?_ ?_ <;> intro hc)) | fail)
   refine aD (v := .agg bT.toArray) rfl rfl rfl h3 (show aN Tryz.prog 33 7 = true by decide +kernel) rfl (by decide +kernel) ?_
   intro w4 p4
   have hx4 : Ext w w4 := hx1.trans (x2.trans (x3.move p4.mv (by rintro k ⟨⟩; exact Nat.le_refl _)))
   clear p4 h3
   (repeat' first | ((with_reducible refine aG ?_); go_step) | ((with_reducible refine aE ?_); first | refine aL ?_ | (refine aJ ?_ ?_ <;> intro hc)) | fail)
   refine aB (enters_of Tryz.func15 rfl rfl) rfl rfl (CI _) ?_; intro w5 x5; refine aA ?_
   (repeat' first | ((with_reducible refine aG ?_); go_step) | ((with_reducible refine aE ?_); first | refine aL ?_ | (refine aJ ?_ ?_ <;> intro hc)) | fail)
   go_ret
   exact ⟨rfl, hx4.trans x5⟩
open Go.ChangeShapes Go.WideShapes Go.ChangeAt Go.RowKit
set_option maxRecDepth 100000 in
theorem iJ (os : Os) (started : os.Started) (H : Type) (enc : TypeId × Value → H) :
 ReturnsInHanded {} Tryz.checked os 4 .any (YtcabalnocddidaaGreat.Rows.resolveBudgetSpec.pre6 enc Tryz.prog Tryz.f4 YtcabalnocddidaaGreat.Rows.resolveBudgetRow.domain false) (YtcabalnocddidaaGreat.Rows.resolveBudgetSpec.post enc Tryz.prog Tryz.f4 false true false false) := by
 refine returnsInHanded_of_change (C := Tryz.checked) own started (by kernel_rfl) Tryz.func4
  (ChangeSpec.witness6 (enc := enc) (C := Tryz.checked) false ⟨#[], #[.agg #[aF [], .int .i64 0, .slice none 0 0, .int .i64 0, .slice none 0 0]], []⟩ 8 (by kernel_rfl) (by kernel_rfl) (by kernel_rfl) (by kernel_rfl)) ?_
 intro W base args ds gs before hval0 hW hcnd _
 have hW' := hW
 obtain ⟨p, q, hA0, hV, rfl, hfz, hnd⟩ := hW
 have hA : DataW.TrodAll enc Tryz.prog W 0 (fun _ => true) true Tryz.f4.params.toList args.toList ds p := hA0
 have hval : ∀ (j : Nat) t v, Tryz.f4.params[j]? = some t → args[j]? = some v → Value.okWide Tryz.prog W .any base t v := hval0
 rw [Tryz.params4] at hA hval
 obtain ⟨v0, vs0, d0, ds0, p0, q0, hargs, rfl, rfl, h0, r0⟩ := trodAll_cons hA
 obtain ⟨rfl, rfl, rfl⟩ := trodAll_nil r0
 obtain rfl : args = #[v0] := by cases args; simp_all
 obtain ⟨rfl, rfl⟩ := trodVars_none hV
 have k0 := h0
 have lt0 : ∀ x ∈ p0, x.block < W.heap.size := by obtain ⟨m, hm⟩ := k0; exact DataW.trod_lt m _ _ _ hm
 obtain ⟨c0, rfl, z0⟩ := okWide_struct Tryz.underlying48 (hval 0 48 v0 rfl rfl)
 obtain ⟨o0, n0, u0, l0, m0, w0, s0, e0, g0, f0⟩ : ∃ (qn : List UInt8) (qt : Int) (rv : Value) (roots : List Int) (budget : Int) (lv : Value) (l : List gZ), c0 = (dM qn qt rv budget lv).toArray ∧ Sl 1 W rv (aZ roots) ∧ RopsAt W lv l := by
  obtain ⟨fuel, hf⟩ := h0
  exact uH hf
 subst e0
 clear hA0 hval0
 have h9 := uM o0 n0 u0 l0 m0 w0 s0 W g0 f0
 refine h9.mono fun e W' ⟨he, hx⟩ => ?_
 subst he
 have bel := hx.below
 exact ⟨_, rfl, _, _, _, [], _, [], hW', trodAll_mk1 (shut_bool Tryz.underlying4 _), (trodAll_cons_mk (Below.trod AI (by kernel_rfl) (of_decide_eq_true (by kernel_rfl)) k0 bel lt0) trodAll_mk0), rfl, bel.frame _, fun h => by cases h⟩
theorem AW : Tryz.checked.prog.mayEnter = true := by kernel_rfl
theorem CK : (YtcabalnocddidaaGreat.Rows.resolveBudgetRow.lifted == Tryz.checked.prog.liftsFinal) = true := by kernel_rfl
theorem CL : (Tryz.checked.prog.make == some YtcabalnocddidaaGreat.Rows.resolveBudgetRow.make) = true := by kernel_rfl
theorem iK : joinedFacts Tryz.checked.prog 4 Tryz.f4 YtcabalnocddidaaGreat.Rows.resolveBudgetSpec YtcabalnocddidaaGreat.Rows.resolveBudgetRow = true := by
 unfold joinedFacts
 simp only [Bool.and_eq_true]
 repeat' (refine And.intro ?_ ?_)
 all_goals first | (with_reducible exact AW) | (with_reducible exact CK) | (with_reducible exact CL) | kernel_rfl
theorem resolveBudget_holds : YtcabalnocddidaaGreat.Rows.ResolveBudgetSaid :=
 OpenClaim.holds_of_wide 4 Tryz.f4 rfl rfl rfl rfl rfl rfl rfl ⟨rfl, rfl, rfl, rfl, rfl⟩ rfl rfl rfl rfl rfl (by kernel_rfl) Tryz.func4 iK
  (of_decide_eq_true (by kernel_rfl)) (by unfold Func.isWrapper; first | (rw [if_pos (by decide +kernel)]; kernel_rfl) | (rw [if_neg (by decide +kernel)]; exact ⟨rfl, rfl⟩))
  (fun os started H enc _ => iJ os started H enc)
end Go.Proofs.X
