/- Laws and walks that the proof of the statement is made of (part 17). -/
import Derived.Test.YtgljkfpcadempaaGreatP16
set_option linter.unusedSimpArgs false
set_option linter.unusedVariables false
namespace Go.Proofs.X
open Go.RowKit
set_option maxRecDepth 100000
section
variable {P : Program} {a : Act} {w : World} {d : Option Nat} {ty : TypeId} {ps : String} {af : Array Edge} {g : Option (Nat × Bool)}
theorem Runs.shlN {t u : TypeId} {x y : Operand} {m : Nat} (hx : a.eval x = .int .i64 (m : Nat)) (hy : a.eval y = .int .u64 11) (h : m * 2048 < 4611686018427387904) :
 Runs P (Oper.mk d (.binOp .shl t x y u) ty ps af g) a w (.int .i64 ((m * 2048 : Nat) : Int)) := by
 have := Runs.shl (P := P) (w := w) (d := d) (ty := ty) (ps := ps) (af := af) (g := g) (t := t) (u := u) hx hy (by omega) (by omega) (by simp; omega)
 have e : ((m : Nat) : Int) * 2 ^ (11 : Int).toNat = ((m * 2048 : Nat) : Int) := by simp
 rwa [e] at this
end
theorem FY (is : Bool) (n : Nat) : (if is = true then (n : Int) else 0) = ((flagN is n : Nat) : Int) := by unfold flagN; split <;> simp
theorem WrAt.grow {w0 w w' : World} {b m : Nat} {l : List UInt8} {ps : List (List UInt8 × Nat)} (h : WrAt w0 w b m l ps) (x : Ext w w') : WrAt w0 w' b m l ps := by
 obtain ⟨h1, h2, h3, h4, ⟨v, h5, h6⟩, h7⟩ := h
 exact ⟨h1, h2, h3, h4.trans x, ⟨v, x.at h5, h6.ext x⟩, h7.at (fun o h => x.at h)⟩
theorem nJ (is : Bool) (n : Nat) (w : World) : Calls Tryz.prog 55 #[.bool is, .int .i64 ((n : Nat) : Int)] w (bO w (.int .i64 ((flagN is n : Nat) : Int))) := by
 rw [← FY]
 exact IS is n w
theorem NN {w : World} {a u e : Value} {la lu le : List (List Value)} (h1 : Sl 4 w a la) (h2 : Sl 4 w u lu) (h3 : Sl 4 w e le) : Tryz.prog.built 104 [(0, a), (1, u), (2, e)] = some #[a, u, e] := by
 obtain ⟨_, _, rfl, _⟩ := h1.out
 obtain ⟨_, _, rfl, _⟩ := h2.out
 obtain ⟨_, _, rfl, _⟩ := h3.out
 kernel_rfl
theorem yY {w0 w : World} {b m : Nat} {l : List UInt8} {ps : List (List UInt8 × Nat)} (h : WrAt w0 w b m l ps) (n : Int) (h0 : 0 ≤ n) (hn : n ≤ 100000000000000) (hl : l.length + 2 ≤ 100000000000000) : Calls Tryz.prog 54 #[.pointer (some ⟨b, 0, none⟩), .int .i64 n] w (rZ w0 w b m (l ++ bJ n.toNat) ps) := by
 have := iA h n.toNat (by omega) hl
 rwa [show ((n.toNat : Nat) : Int) = n by omega] at this
theorem LC {w0 w : World} {b m : Nat} {l : List UInt8} {ps : List (List UInt8 × Nat)} (h : WrAt w0 w b m l ps) (n : Int) (h0 : 0 ≤ n) (hn : n ≤ 100000000000000) (hl : l.length + 4 ≤ 100000000000000) : Calls Tryz.prog 57 #[.pointer (some ⟨b, 0, none⟩), .int .i64 n] w (rZ w0 w b m (l ++ nA n.toNat) ps) := by
 have := IN h n.toNat (by omega) hl
 rwa [show ((n.toNat : Nat) : Int) = n by omega] at this
set_option maxHeartbeats 4000000 in
theorem qG {w : World} {mm : MsgR} {q a u e : Value} (hm : MsgV w mm q a u e) : Calls Tryz.prog 23 #[.agg (aU mm q a u e).toArray] w (bO w (.tuple #[aH (cG mm).1, .int .i64 (cG mm).2])) := by
 go_enter Tryz.func23, Tryz.ntmps23
 repeat' (first | ((with_reducible refine aJ ?_); go_step) | fail)
 refine dP (vs := aU mm q a u e) rfl rfl ?_
 intro w1 x1 s1 hb1
 refine aA ?_
 have hpM := aD (cs := aU mm q a u e) hb1
 unfold aU at hpM
 have hm1 := hm.ext x1
 (repeat' first | ((with_reducible refine aJ ?_); go_step) | ((with_reducible refine aI ?_); first | refine aW ?_ | (refine aL ?_ ?_ <;> intro hc)) | fail)
 refine aE (enters_of Tryz.func21 rfl rfl) rfl rfl (mW mm q a u e _ hm1) ?_; intro w2 x2; refine aA ?_
 have hb2 := x2.at hb1
 have x02 := x1.trans x2
 have hm2 := hm1.ext x2
 by_cases cc : cC mm = 0
 ·(repeat' first | ((with_reducible refine aJ ?_); go_step) | ((with_reducible refine aI ?_); first | refine aW ?_ | (refine aL ?_ ?_ <;> intro hc)) | fail)
  all_goals first
   | (exfalso; simp_all; done)
   | skip
  refine mG (kt := 47) rfl ?_
  intro w3 x3 s3 hM3
  refine aA ?_
  (repeat' first | ((with_reducible refine aJ ?_); go_step) | ((with_reducible refine aI ?_); first | refine aW ?_ | (refine aL ?_ ?_ <;> intro hc)) | fail)
  refine aN (v := .agg (vS (.slice none 0 0) w2.heap.size).toArray) (Runs.build rfl (by kernel_rfl)) ?_
  refine aA ?_
  refine dP (vs := vS (.slice none 0 0) w2.heap.size) rfl rfl ?_
  intro w4 x4 s4 hb4
  refine aA ?_
  have x24 := x3.trans x4
  have hW4 : WrAt w2 w4 w3.heap.size w2.heap.size [] [] := ⟨x3.size, Nat.le_refl _, by have := x3.size; omega, x24, ⟨.slice none 0 0, hb4, Own.nil _ _ _ _⟩, hM3.at (fun o h => x4.at h)⟩
  have hb4' := x24.at hb2
  have hpM4 := aD (cs := aU mm q a u e) hb4'
  unfold aU at hpM4
  clear hpM
  (repeat' first | ((with_reducible refine aJ ?_); go_step) | ((with_reducible refine aI ?_); first | refine aW ?_ | (refine aL ?_ ?_ <;> intro hc)) | fail)
  have hid : 0 ≤ mm.id ∧ mm.id ≤ 65535 ∧ 0 ≤ mm.op ∧ mm.op ≤ 15 ∧ 0 ≤ mm.rcode ∧ mm.rcode ≤ 15 := by
   unfold cC at cc
   split at cc
   ·rename_i c
    simp [fQ] at c
    omega
   ·cases cc
  have cw := iA hW4 mm.id.toNat (by omega) (by simp)
  refine aF (vs := [.pointer (some ⟨w3.heap.size, 0, none⟩), .int .i64 ((mm.id.toNat : Nat) : Int)]) (enters_of Tryz.func54 rfl rfl) rfl (congrArg (fun z => [Value.pointer (some ⟨w3.heap.size, 0, none⟩), Value.int .i64 z]) (show mm.id = ((mm.id.toNat : Nat) : Int) by omega)) cw ?_
  rintro _ w5 ⟨rfl, h5, g5⟩
  refine ⟨_, rfl, ?_⟩
  refine aA ?_
  have hb5 := g5 _ _ _ _ (by decide) (by decide) hb4'
  have hp5 := aD (cs := aU mm q a u e) hb5
  unfold aU at hp5
  clear hpM4
  (repeat' first | ((with_reducible refine aJ ?_); go_step) | ((with_reducible refine aI ?_); first | refine aW ?_ | (refine aL ?_ ?_ <;> intro hc)) | fail)
  refine cA 27 (Ext w5) (by decide +kernel) ?_
  intro w6 x6 _
  refine ⟨x6, ?_⟩
  refine dD 0 ?_; refine dD 1 ?_; refine dD 2 ?_; refine dD 4 ?_; refine dD 5 ?_
  refine aY (i := 6) (v := .int .i64 ((mm.op.toNat * 2048 : Nat) : Int)) rfl rfl (by decide +kernel) (by decide +kernel) (by decide +kernel) (by decide +kernel) (by decide +kernel) rfl (fun w' hF => Runs.shlN (congrArg (Value.int .i64) (show mm.op = ((mm.op.toNat : Nat) : Int) by omega)) rfl (by omega)) (fun _ _ _ h => h) ?_
  refine aA ?_
  refine dD 8 ?_; refine dD 9 ?_; refine dD 12 ?_; refine dD 13 ?_; refine dD 16 ?_; refine dD 17 ?_; refine dD 20 ?_; refine dD 21 ?_; refine dD 24 ?_; refine dD 25 ?_
  have z0 : Ext w5 w6 := x6
  refine bG (i := 3) (by decide +kernel) rfl rfl ?_
  refine aE (enters_of Tryz.func55 rfl rfl) rfl rfl (nJ mm.resp 32768 _) ?_; intro w7 x7; refine aA ?_
  have z7 : Ext w5 w7 := z0.trans x7
  refine aK ⟨bW z7, ?_⟩
  have hf7 : flagN mm.resp 32768 < 65536 := by have := kV mm.resp 32768; omega
  have ha7 : (flagN mm.resp 32768 ||| mm.op.toNat * 2048) < 65536 := FW hf7 (by omega)
  refine aY (i := 7) (v := .int .i64 (((flagN mm.resp 32768 ||| mm.op.toNat * 2048) : Nat) : Int)) rfl rfl (by decide +kernel) (by decide +kernel) (by decide +kernel) (by decide +kernel) (by decide +kernel) rfl (fun w' hF => Runs.orN (m := flagN mm.resp 32768) (n := mm.op.toNat * 2048) rfl rfl (by omega) (by omega)) (fun _ _ _ h => h) ?_
  refine aA ?_
  refine bG (i := 10) (by decide +kernel) rfl rfl ?_
  refine aE (enters_of Tryz.func55 rfl rfl) rfl rfl (nJ mm.auth 1024 _) ?_; intro w8 x8; refine aA ?_
  have z8 : Ext w5 w8 := z7.trans x8
  refine aK ⟨bW z8, ?_⟩
  have hf8 : flagN mm.auth 1024 < 65536 := by have := kV mm.auth 1024; omega
  have ha8 : ((flagN mm.resp 32768 ||| mm.op.toNat * 2048) ||| flagN mm.auth 1024) < 65536 := FW ha7 hf8
  refine aY (i := 11) (v := .int .i64 ((((flagN mm.resp 32768 ||| mm.op.toNat * 2048) ||| flagN mm.auth 1024) : Nat) : Int)) rfl rfl (by decide +kernel) (by decide +kernel) (by decide +kernel) (by decide +kernel) (by decide +kernel) rfl (fun w' hF => Runs.orN (m := (flagN mm.resp 32768 ||| mm.op.toNat * 2048)) (n := flagN mm.auth 1024) rfl rfl (by omega) (by omega)) (fun _ _ _ h => h) ?_
  refine aA ?_
  refine bG (i := 14) (by decide +kernel) rfl rfl ?_
  refine aE (enters_of Tryz.func55 rfl rfl) rfl rfl (nJ mm.trunc 512 _) ?_; intro w9 x9; refine aA ?_
  have z9 : Ext w5 w9 := z8.trans x9
  refine aK ⟨bW z9, ?_⟩
  have hf9 : flagN mm.trunc 512 < 65536 := by have := kV mm.trunc 512; omega
  have ha9 : (((flagN mm.resp 32768 ||| mm.op.toNat * 2048) ||| flagN mm.auth 1024) ||| flagN mm.trunc 512) < 65536 := FW ha8 hf9
  refine aY (i := 15) (v := .int .i64 (((((flagN mm.resp 32768 ||| mm.op.toNat * 2048) ||| flagN mm.auth 1024) ||| flagN mm.trunc 512) : Nat) : Int)) rfl rfl (by decide +kernel) (by decide +kernel) (by decide +kernel) (by decide +kernel) (by decide +kernel) rfl (fun w' hF => Runs.orN (m := ((flagN mm.resp 32768 ||| mm.op.toNat * 2048) ||| flagN mm.auth 1024)) (n := flagN mm.trunc 512) rfl rfl (by omega) (by omega)) (fun _ _ _ h => h) ?_
  refine aA ?_
  refine bG (i := 18) (by decide +kernel) rfl rfl ?_
  refine aE (enters_of Tryz.func55 rfl rfl) rfl rfl (nJ mm.want 256 _) ?_; intro w10 x10; refine aA ?_
  have z10 : Ext w5 w10 := z9.trans x10
  refine aK ⟨bW z10, ?_⟩
  have hf10 : flagN mm.want 256 < 65536 := by have := kV mm.want 256; omega
  have ha10 : ((((flagN mm.resp 32768 ||| mm.op.toNat * 2048) ||| flagN mm.auth 1024) ||| flagN mm.trunc 512) ||| flagN mm.want 256) < 65536 := FW ha9 hf10
  refine aY (i := 19) (v := .int .i64 ((((((flagN mm.resp 32768 ||| mm.op.toNat * 2048) ||| flagN mm.auth 1024) ||| flagN mm.trunc 512) ||| flagN mm.want 256) : Nat) : Int)) rfl rfl (by decide +kernel) (by decide +kernel) (by decide +kernel) (by decide +kernel) (by decide +kernel) rfl (fun w' hF => Runs.orN (m := (((flagN mm.resp 32768 ||| mm.op.toNat * 2048) ||| flagN mm.auth 1024) ||| flagN mm.trunc 512)) (n := flagN mm.want 256) rfl rfl (by omega) (by omega)) (fun _ _ _ h => h) ?_
  refine aA ?_
  refine bG (i := 22) (by decide +kernel) rfl rfl ?_
  refine aE (enters_of Tryz.func55 rfl rfl) rfl rfl (nJ mm.avail 128 _) ?_; intro w11 x11; refine aA ?_
  have z11 : Ext w5 w11 := z10.trans x11
  refine aK ⟨bW z11, ?_⟩
  have hf11 : flagN mm.avail 128 < 65536 := by have := kV mm.avail 128; omega
  have ha11 : (((((flagN mm.resp 32768 ||| mm.op.toNat * 2048) ||| flagN mm.auth 1024) ||| flagN mm.trunc 512) ||| flagN mm.want 256) ||| flagN mm.avail 128) < 65536 := FW ha10 hf11
  refine aY (i := 23) (v := .int .i64 (((((((flagN mm.resp 32768 ||| mm.op.toNat * 2048) ||| flagN mm.auth 1024) ||| flagN mm.trunc 512) ||| flagN mm.want 256) ||| flagN mm.avail 128) : Nat) : Int)) rfl rfl (by decide +kernel) (by decide +kernel) (by decide +kernel) (by decide +kernel) (by decide +kernel) rfl (fun w' hF => Runs.orN (m := ((((flagN mm.resp 32768 ||| mm.op.toNat * 2048) ||| flagN mm.auth 1024) ||| flagN mm.trunc 512) ||| flagN mm.want 256)) (n := flagN mm.avail 128) rfl rfl (by omega) (by omega)) (fun _ _ _ h => h) ?_
  refine aA ?_
  have ha12 : ((((((flagN mm.resp 32768 ||| mm.op.toNat * 2048) ||| flagN mm.auth 1024) ||| flagN mm.trunc 512) ||| flagN mm.want 256) ||| flagN mm.avail 128) ||| mm.rcode.toNat) < 65536 := FW ha11 (by omega)
  refine aY (i := 26) (v := .int .i64 ((((((((flagN mm.resp 32768 ||| mm.op.toNat * 2048) ||| flagN mm.auth 1024) ||| flagN mm.trunc 512) ||| flagN mm.want 256) ||| flagN mm.avail 128) ||| mm.rcode.toNat) : Nat) : Int)) rfl rfl (by decide +kernel) (by decide +kernel) (by decide +kernel) (by decide +kernel) (by decide +kernel) rfl (fun w' hF => Runs.orN (m := (((((flagN mm.resp 32768 ||| mm.op.toNat * 2048) ||| flagN mm.auth 1024) ||| flagN mm.trunc 512) ||| flagN mm.want 256) ||| flagN mm.avail 128)) (n := mm.rcode.toNat) rfl (congrArg (Value.int .i64) (show mm.rcode = ((mm.rcode.toNat : Nat) : Int) by omega)) (by omega) (by omega)) (fun _ _ _ h => h) ?_
  refine aA ?_
  refine bG (i := 27) (by decide +kernel) rfl rfl ?_
  have cw2 := iA (h5.grow z11) (flagsW mm) (by unfold flagsW; omega) (by simp [bJ])
  refine aF (vs := [.pointer (some ⟨w3.heap.size, 0, none⟩), .int .i64 ((flagsW mm : Nat) : Int)]) (enters_of Tryz.func54 rfl rfl) rfl rfl cw2 ?_
  rintro _ w12 ⟨rfl, h12, g12⟩
  refine ⟨_, rfl, ?_⟩
  refine aA ?_
  refine aK ⟨bX rfl, ?_⟩
  refine cR (by decide +kernel) ?_
  have hb12 := g12 _ _ _ _ (by decide) (by decide) (z11.at hb5)
  have hp12 := aD (cs := aU mm q a u e) hb12
  unfold aU at hp12
  clear hp5
  (repeat' first | ((with_reducible refine aJ ?_); go_step) | ((with_reducible refine aI ?_); first | refine aW ?_ | (refine aL ?_ ?_ <;> intro hc)) | fail)
  have hl16 := bA mm.ex
  have hx02 := x02
  have hm12 : MsgV w12 mm q a u e := hm2.ext h12.ext
  have hq12 := hm12.qs
  have ha12 := hm12.an
  have hu12 := hm12.au
  have he12 := hm12.ex
  refine cA 17 (Ext w12) (by decide +kernel) ?_
  intro w13 x13 _
  refine ⟨x13, ?_⟩
  refine GB 18 ?_
  refine dD 0 ?_; refine dD 1 ?_; refine dD 2 ?_; refine dD 3 ?_; refine dD 4 ?_; refine dD 5 ?_; refine dD 6 ?_; refine dD 7 ?_; refine dD 8 ?_; refine dD 9 ?_; refine dD 10 ?_; refine dD 11 ?_; refine dD 12 ?_; refine dD 13 ?_; refine dD 14 ?_
  rw [bP, bA, bA, bA]
  have hok := nI cc
  have hfl1 := kV (!decide (mm.size = 0)) 1
  have hql := hok.ql
  have hnl := hok.nl
  have hul := hok.ul
  have hel := hok.el
  refine bG (i := 15) (by decide +kernel) rfl rfl ?_
  refine aE (enters_of Tryz.func55 rfl rfl) rfl rfl (nJ (!decide (mm.size = 0)) 1 _) ?_; intro w14 x14; refine aA ?_
  have z14 : Ext w12 w14 := x13.trans x14
  refine aK ⟨bW z14, ?_⟩
  refine bG (i := 16) (by decide +kernel) rfl rfl ?_
  ((with_reducible refine aI ?_); (first | (refine hV ?_; refine eV ?_) | (refine lY ?_; refine nP ?_; (with_reducible refine aI ?_); refine hV ?_; refine eV ?_)))
  rw [show ((mm.ex.length : Nat) : Int) + ((flagN (!decide (mm.size = 0)) 1 : Nat) : Int) = ((mm.ex.length + flagN (!decide (mm.size = 0)) 1 : Nat) : Int) by omega]
  refine aK ⟨bW z14, ?_⟩
  refine bG (i := 17) (by decide +kernel) rfl rfl ?_
  refine aN (v := .agg ((vE mm).map fun n => Value.int .i64 (n : Nat)).toArray) (Runs.build rfl (by kernel_rfl)) ?_
  refine aA ?_
  refine aK ⟨bX rfl, ?_⟩
  refine cR (by decide +kernel) ?_
  have h14 := h12.grow z14
  have hcl : (vE mm).length = 4 := rfl
  have hcb : ∀ x ∈ vE mm, x ≤ 65535 := by
   intro x hx
   simp only [vE, List.mem_cons, List.not_mem_nil, or_false] at hx
   omega
  have hhd : [] ++ bJ mm.id.toNat ++ bJ (flagsW mm) ++ (vE mm).flatMap bJ = hU mm := by simp [hU, vE]
  have hb2' := hb2
  generalize vE mm = cn at *
  have hbl0 : ([] ++ bJ mm.id.toNat ++ bJ (flagsW mm)).length = 4 := rfl
  generalize ([] ++ bJ mm.id.toNat ++ bJ (flagsW mm) : List UInt8) = bs at *
  generalize hB : w3.heap.size = B at *
  generalize hMp : w2.heap.size = M at *
  clear hp12
  have hpw : ∀ wr, Ext w2 wr → Pts wr (.pointer (some ⟨w.heap.size, 0, none⟩)) [.int .i64 mm.id, .bool mm.resp, .int .i64 mm.op, .bool mm.auth, .bool mm.trunc, .bool mm.want, .bool mm.avail, .int .i64 mm.rcode, q, a, u, e, .int .i64 mm.size] := fun wr x => aD (cs := aU mm q a u e) (x.at hb2)
  (repeat' first | ((with_reducible refine aJ ?_); go_step) | ((with_reducible refine aI ?_); first | refine aW ?_ | (refine aL ?_ ?_ <;> intro hc)) | fail)
  go_loopw [7, 72] (fun _ iv wr => ∃ k : Nat, k ≤ 4 ∧ iv = .int .i64 k ∧ WrAt w2 wr B M (bs ++ (cn.take k).flatMap bJ) [] ∧ ((cn.take k).flatMap bJ).length = 2 * k) (fun _ iv _ => 4 - (intOf iv).toNat)
  case atStart => exact ⟨0, by omega, rfl, by simpa using h14, rfl⟩
  case round =>
   obtain ⟨k, hk, rfl, hW, hlk⟩ := hrel
   by_cases c4 : k < 4
   ·have hck : k < cn.length := by omega
    have hgk := List.getElem?_eq_getElem hck
    have hmk := hcb _ (List.getElem_mem hck)
    (repeat' first | ((with_reducible refine aJ ?_); go_step) | ((with_reducible refine aI ?_); first | refine aW ?_ | (refine aL ?_ ?_ <;> intro hc)) | fail)
    refine aN (v := .int .i64 (cn[k] : Nat)) (Runs.idxA (i := k) (n := 4) rfl rfl (by simp [hgk]) (by omega) (by decide +kernel)) ?_
    refine aA ?_
    (repeat' first | ((with_reducible refine aJ ?_); go_step) | ((with_reducible refine aI ?_); first | refine aW ?_ | (refine aL ?_ ?_ <;> intro hc)) | fail)
    refine aF (vs := [.pointer (some ⟨B, 0, none⟩), .int .i64 ((cn[k] : Nat) : Int)]) (enters_of Tryz.func54 rfl rfl) rfl rfl (iA hW cn[k] (by omega) (by rw [List.length_append]; omega)) ?_
    rintro _ w15 ⟨rfl, h15, g15⟩
    refine ⟨_, rfl, ?_⟩
    refine aA ?_
    (repeat' first | ((with_reducible refine aJ ?_); go_step) | ((with_reducible refine aI ?_); first | refine aW ?_ | (refine aL ?_ ?_ <;> intro hc)) | fail)
    have hT : (cn.take (k + 1)).flatMap bJ = (cn.take k).flatMap bJ ++ bJ cn[k] := by rw [List.take_succ_eq_append_getElem hck, List.flatMap_append]; simp
    refine ⟨⟨k + 1, by omega, by go_num, ?_, ?_⟩, by simp [intOf]; omega⟩
    ·rw [hT, ← List.append_assoc]
     exact h15
    ·rw [hT, List.length_append, hlk]
     simp [bJ]
     omega
   ·have hk4 : k = 4 := by omega
    subst hk4
    rw [List.take_of_length_le (by omega), hhd] at hW
    have hlh : (hU mm).length = 12 := by simp [hU, bJ]
    have hlh' : (((mm.qs.take 0).foldl qW (hU mm, [])).1).length = 12 := hlh
    have hqE := hq12
    have hp16 := hpw wr hW.ext
    have hqs16 := hm2.qs.ext hW.ext
    have hqc := bP mm.qs
    (repeat' first | ((with_reducible refine aJ ?_); go_step) | ((with_reducible refine aI ?_); first | refine aW ?_ | (refine aL ?_ ?_ <;> intro hc)) | fail)
    clear hp16
    go_loopw [9, 82] (fun _ iv wr => ∃ k : Nat, k ≤ mm.qs.length ∧ iv = .int .i64 k ∧ WrAt w2 wr B M ((mm.qs.take k).foldl qW (hU mm, [])).1 ((mm.qs.take k).foldl qW (hU mm, [])).2 ∧ Keys ((mm.qs.take k).foldl qW (hU mm, [])).2 ∧ ((mm.qs.take k).foldl qW (hU mm, [])).1.length ≤ 12 + 260 * k) (fun _ iv _ => mm.qs.length - (intOf iv).toNat)
    case atStart => exact ⟨0, by omega, rfl, hW, List.Pairwise.nil, by rw [hlh']; omega⟩
    case round =>
     obtain ⟨k, hk, rfl, hW, hK, hL⟩ := hrel
     by_cases ck : k < mm.qs.length
     ·have hqk := hok.qs _ (List.getElem_mem ck)
      have hT : (mm.qs.take (k + 1)).foldl qW (hU mm, []) = qW ((mm.qs.take k).foldl qW (hU mm, [])) mm.qs[k] := by rw [List.take_succ_eq_append_getElem ck, List.foldl_append]; rfl
      have hlk := NE hqk ((mm.qs.take k).foldl qW (hU mm, []))
      have hkk := KZ ((mm.qs.take k).foldl qW (hU mm, [])) mm.qs[k] hK
      generalize (mm.qs.take k).foldl qW (hU mm, []) = X at *
      obtain ⟨hn1, hn2, hn3⟩ := NF hqk
      obtain ⟨t9, ht1, ht2⟩ := qE hn1 X
      have hq4 := hm2.qs.ext hW.ext
      have h4 := hq4.elem (gQ ck)
      (repeat' first | ((with_reducible refine aJ ?_); go_step) | ((with_reducible refine aI ?_); first | refine aW ?_ | (refine aL ?_ ?_ <;> intro hc)) | fail)
      refine aP (z := [aH [], .int .i64 0]) rfl (by decide +kernel) ?_
      intro w3' x3' s3' h3'
      refine aA ?_
      refine aG (v := .agg #[aH mm.qs[k].1, .int .i64 mm.qs[k].2]) rfl rfl rfl h3' (show aX Tryz.prog 54 2 = true by decide +kernel) rfl (NL rfl rfl) ?_
      intro w4' p4'
      have x4' : Ext wr w4' := x3'.move p4'.mv (by rintro k ⟨⟩; exact Nat.le_refl _)
      have hc4 : w4'.heap[wr.heap.size]? = some (.cells [aH mm.qs[k].1, .int .i64 mm.qs[k].2].toArray 54 (0, 0)) := p4'.this
      have hpq := aD (cs := [aH mm.qs[k].1, .int .i64 mm.qs[k].2]) hc4
      have hW4 := hW.grow x4'
      clear p4' h3' x3' h4
      generalize wr.heap.size = c at *
      (repeat' first | ((with_reducible refine aJ ?_); go_step) | ((with_reducible refine aI ?_); first | refine aW ?_ | (refine aL ?_ ?_ <;> intro hc)) | fail)
      refine aF (vs := [.pointer (some ⟨B, 0, none⟩), aH mm.qs[k].1]) (enters_of Tryz.func56 rfl rfl) rfl rfl (qA hW4 hK mm.qs[k].1 hn1 (by omega)) ?_
      rintro _ w16 ⟨rfl, h16, g16⟩
      refine ⟨_, rfl, ?_⟩
      refine aA ?_
      have hc16 := g16 _ _ _ _ (by decide) (by decide) hc4
      clear hpq
      have hpq := aD (cs := [aH mm.qs[k].1, .int .i64 mm.qs[k].2]) hc16
      (repeat' first | ((with_reducible refine aJ ?_); go_step) | ((with_reducible refine aI ?_); first | refine aW ?_ | (refine aL ?_ ?_ <;> intro hc)) | fail)
      refine aF (vs := [.pointer (some ⟨B, 0, none⟩), .int .i64 mm.qs[k].2]) (enters_of Tryz.func54 rfl rfl) rfl rfl (yY h16 mm.qs[k].2 (by omega) (by omega) (by rw [ht1, List.length_append]; omega)) ?_
      rintro _ w17 ⟨rfl, h17, g17⟩
      refine ⟨_, rfl, ?_⟩
      refine aA ?_
      (repeat' first | ((with_reducible refine aJ ?_); go_step) | ((with_reducible refine aI ?_); first | refine aW ?_ | (refine aL ?_ ?_ <;> intro hc)) | fail)
      refine aF (vs := [.pointer (some ⟨B, 0, none⟩), .int .i64 ((1 : Nat) : Int)]) (enters_of Tryz.func54 rfl rfl) rfl rfl (iA h17 1 (by omega) (by rw [ht1]; simp [bJ]; omega)) ?_
      rintro _ w18 ⟨rfl, h18, g18⟩
      refine ⟨_, rfl, ?_⟩
      refine aA ?_
      (repeat' first | ((with_reducible refine aJ ?_); go_step) | ((with_reducible refine aI ?_); first | refine aW ?_ | (refine aL ?_ ?_ <;> intro hc)) | fail)
      refine ⟨⟨k + 1, by omega, by go_num, ?_⟩, by simp [intOf]; omega⟩
      rw [hT]
      exact ⟨h18, hkk, by omega⟩
     ·have hkq : k = mm.qs.length := by omega
      subst hkq
      rw [List.take_length] at hW hK hL
      have hp16 := hpw wr hW.ext
      (repeat' first | ((with_reducible refine aJ ?_); go_step) | ((with_reducible refine aI ?_); first | refine aW ?_ | (refine aL ?_ ?_ <;> intro hc)) | fail)
      have hVL : ∀ i, i < 3 → ∃ v l, ([a, u, e] : List Value)[i]? = some v ∧ [mm.an, mm.au, mm.ex][i]? = some l ∧ Sl 4 w2 v (aT l) ∧ l.length ≤ 200 ∧ ∀ r ∈ l, bI r = 0 := by
       intro i hi
       match i, hi with
       | 0, _ => exact ⟨_, _, rfl, rfl, hm2.an, hok.nl, hok.an⟩
       | 1, _ => exact ⟨_, _, rfl, rfl, hm2.au, hok.ul, hok.au⟩
       | 2, _ => exact ⟨_, _, rfl, rfl, hm2.ex, hok.el, hok.ex⟩
      have hfin : [mm.an, mm.au, mm.ex].foldl (fun x l => l.foldl jD x) (mm.qs.foldl qW (hU mm, [])) = sB mm := rfl
      refine aN (v := .agg ([a, u, e] : List Value).toArray) (Runs.build rfl (NN hm2.an hm2.au hm2.ex)) ?_
      refine aA ?_
      have hLl : [mm.an, mm.au, mm.ex].length = 3 := rfl
      generalize mm.qs.foldl qW (hU mm, []) = X0 at *
      clear hp16 hqs16 hqE hlh'
      generalize hLL : [mm.an, mm.au, mm.ex] = LL at *
      generalize hVV : ([a, u, e] : List Value) = VV at *
      (repeat' first | ((with_reducible refine aJ ?_); go_step) | ((with_reducible refine aI ?_); first | refine aW ?_ | (refine aL ?_ ?_ <;> intro hc)) | fail)
      go_loopw [11, 13, 104] (fun _ _ iv wr => ∃ i : Nat, i ≤ 3 ∧ iv = .int .i64 i ∧ WrAt w2 wr B M ((LL.take i).foldl (fun x l => l.foldl jD x) X0).1 ((LL.take i).foldl (fun x l => l.foldl jD x) X0).2 ∧ Keys ((LL.take i).foldl (fun x l => l.foldl jD x) X0).2 ∧ ((LL.take i).foldl (fun x l => l.foldl jD x) X0).1.length ≤ 3000 + 1200000 * i) (fun _ _ iv _ => 3 - (intOf iv).toNat)
      case atStart => exact ⟨0, by omega, rfl, hW, hK, by simp only [List.take_zero, List.foldl_nil]; omega⟩
      case round =>
       obtain ⟨i, hi, rfl, hW, hK, hL⟩ := hrel
       by_cases ci : i < 3
       ·obtain ⟨v, l, hv1, hl1, hsl, hll, hlr⟩ := hVL i ci
        have hT : (LL.take (i + 1)).foldl (fun x l => l.foldl jD x) X0 = l.foldl jD ((LL.take i).foldl (fun x l => l.foldl jD x) X0) := by
         rw [List.take_add_one, hl1, List.foldl_append]; rfl
        generalize (LL.take i).foldl (fun x l => l.foldl jD x) X0 = X at *
        (repeat' first | ((with_reducible refine aJ ?_); go_step) | ((with_reducible refine aI ?_); first | refine aW ?_ | (refine aL ?_ ?_ <;> intro hc)) | fail)
        refine aN (v := v) (Runs.idxA (i := i) (n := 3) rfl rfl (by simp [hv1]) (by omega) (by decide +kernel)) ?_
        refine aA ?_
        have hslr := hsl.ext hW.ext
        have hrl := bA l
        (repeat' first | ((with_reducible refine aJ ?_); go_step) | ((with_reducible refine aI ?_); first | refine aW ?_ | (refine aL ?_ ?_ <;> intro hc)) | fail)
        go_loopw [13, 109] (fun _ jv wr => ∃ k : Nat, k ≤ l.length ∧ jv = .int .i64 k ∧ WrAt w2 wr B M ((l.take k).foldl jD X).1 ((l.take k).foldl jD X).2 ∧ Keys ((l.take k).foldl jD X).2 ∧ ((l.take k).foldl jD X).1.length ≤ 3000 + 1200000 * i + 6000 * k) (fun _ jv _ => l.length - (intOf jv).toNat)
        case atStart => exact ⟨0, by omega, rfl, hW, hK, by simp only [List.take_zero, List.foldl_nil]; omega⟩
        case round =>
         obtain ⟨k, hk, rfl, hW, hK, hL⟩ := hrel
         by_cases ck : k < l.length
         ·have hRk := FU (hlr _ (List.getElem_mem ck))
          have hT2 : (l.take (k + 1)).foldl jD X = jD ((l.take k).foldl jD X) l[k] := by rw [List.take_succ_eq_append_getElem ck, List.foldl_append]; rfl
          generalize (l.take k).foldl jD X = Y at *
          have hlk := IR hRk Y
          have hkk := FV Y l[k] hK
          have hNk := fS (fO l[k].name) Y.1 Y.2 hK
          obtain ⟨t9, ht1, ht2⟩ := qE hRk.nm Y
          have hsk := hsl.ext hW.ext
          have h4 := hsk.elem (gN ck)
          have hk0 := hRk.k0
          have hk1 := hRk.k1
          have ht0 := hRk.t0
          have ht3 := hRk.t1
          (repeat' first | ((with_reducible refine aJ ?_); go_step) | ((with_reducible refine aI ?_); first | refine aW ?_ | (refine aL ?_ ?_ <;> intro hc)) | fail)
          refine aP (z := LU) rfl (by decide +kernel) ?_
          intro w3' x3' s3' h3'
          refine aA ?_
          refine aG (v := uR l[k]) rfl rfl rfl h3' (show aX Tryz.prog 106 4 = true by decide +kernel) rfl (iI rfl rfl rfl rfl) ?_
          intro w4' p4'
          have x4' : Ext wr w4' := x3'.move p4'.mv (by rintro k ⟨⟩; exact Nat.le_refl _)
          have hc4 : w4'.heap[wr.heap.size]? = some (.cells [aH l[k].name, .int .i64 l[k].kind, .int .i64 l[k].ttl, aH l[k].data].toArray 106 (0, 0)) := p4'.this
          have hpq := aD (cs := [aH l[k].name, .int .i64 l[k].kind, .int .i64 l[k].ttl, aH l[k].data]) hc4
          have hW4 := hW.grow x4'
          clear p4' h3' x3' h4 hsk hslr
          generalize wr.heap.size = c at *
          (repeat' first | ((with_reducible refine aJ ?_); go_step) | ((with_reducible refine aI ?_); first | refine aW ?_ | (refine aL ?_ ?_ <;> intro hc)) | fail)
          refine aF (vs := [.pointer (some ⟨B, 0, none⟩), aH l[k].name]) (enters_of Tryz.func56 rfl rfl) rfl rfl (qA hW4 hK l[k].name hRk.nm (by omega)) ?_
          rintro _ w20 ⟨rfl, h20, g20⟩
          refine ⟨_, rfl, ?_⟩
          refine aA ?_
          have hc20 := g20 _ _ _ _ (by decide) (by decide) hc4
          clear hpq
          have hpq := aD (cs := [aH l[k].name, .int .i64 l[k].kind, .int .i64 l[k].ttl, aH l[k].data]) hc20
          (repeat' first | ((with_reducible refine aJ ?_); go_step) | ((with_reducible refine aI ?_); first | refine aW ?_ | (refine aL ?_ ?_ <;> intro hc)) | fail)
          refine aF (vs := [.pointer (some ⟨B, 0, none⟩), .int .i64 l[k].kind]) (enters_of Tryz.func54 rfl rfl) rfl rfl (yY h20 l[k].kind (by omega) (by omega) (by rw [ht1, List.length_append]; omega)) ?_
          rintro _ w21 ⟨rfl, h21, g21⟩
          refine ⟨_, rfl, ?_⟩
          refine aA ?_
          have hc21 := g21 _ _ _ _ (by decide) (by decide) hc20
          clear hpq
          have hpq := aD (cs := [aH l[k].name, .int .i64 l[k].kind, .int .i64 l[k].ttl, aH l[k].data]) hc21
          (repeat' first | ((with_reducible refine aJ ?_); go_step) | ((with_reducible refine aI ?_); first | refine aW ?_ | (refine aL ?_ ?_ <;> intro hc)) | fail)
          refine aF (vs := [.pointer (some ⟨B, 0, none⟩), .int .i64 ((1 : Nat) : Int)]) (enters_of Tryz.func54 rfl rfl) rfl rfl (iA h21 1 (by omega) (by rw [ht1]; simp [bJ]; omega)) ?_
          rintro _ w22 ⟨rfl, h22, g22⟩
          refine ⟨_, rfl, ?_⟩
          refine aA ?_
          have hc22 := g22 _ _ _ _ (by decide) (by decide) hc21
          clear hpq
          have hpq := aD (cs := [aH l[k].name, .int .i64 l[k].kind, .int .i64 l[k].ttl, aH l[k].data]) hc22
          (repeat' first | ((with_reducible refine aJ ?_); go_step) | ((with_reducible refine aI ?_); first | refine aW ?_ | (refine aL ?_ ?_ <;> intro hc)) | fail)
          refine aF (vs := [.pointer (some ⟨B, 0, none⟩), .int .i64 l[k].ttl]) (enters_of Tryz.func57 rfl rfl) rfl rfl (LC h22 l[k].ttl (by omega) (by omega) (by rw [ht1]; simp [bJ]; omega)) ?_
          rintro _ w23 ⟨rfl, h23, g23⟩
          refine ⟨_, rfl, ?_⟩
          refine aA ?_
          have hc23 := g23 _ _ _ _ (by decide) (by decide) hc22
          clear hpq
          have hpq := aD (cs := [aH l[k].name, .int .i64 l[k].kind, .int .i64 l[k].ttl, aH l[k].data]) hc23
          (repeat' first | ((with_reducible refine aJ ?_); go_step) | ((with_reducible refine aI ?_); first | refine aW ?_ | (refine aL ?_ ?_ <;> intro hc)) | fail)
          refine aF (vs := [.pointer (some ⟨B, 0, none⟩), uR l[k]]) (enters_of Tryz.func58 rfl rfl) rfl rfl (KY h23 hNk l[k] hRk.d hRk.soa (by rw [ht1]; simp [bJ, nA]; omega)) ?_
          rintro _ w24 ⟨rfl, h24, g24⟩
          refine ⟨_, rfl, ?_⟩
          refine aA ?_
          (repeat' first | ((with_reducible refine aJ ?_); go_step) | ((with_reducible refine aI ?_); first | refine aW ?_ | (refine aL ?_ ?_ <;> intro hc)) | fail)
          refine ⟨⟨k + 1, by omega, by go_num, ?_⟩, by simp [intOf]; omega⟩
          rw [hT2]
          exact ⟨h24, hkk, by omega⟩
         ·have hkl : k = l.length := by omega
          subst hkl
          rw [List.take_length] at hW hK hL
          (repeat' first | ((with_reducible refine aJ ?_); go_step) | ((with_reducible refine aI ?_); first | refine aW ?_ | (refine aL ?_ ?_ <;> intro hc)) | fail)
          refine ⟨⟨i + 1, by omega, by go_num, ?_⟩, by simp [intOf]; omega⟩
          rw [hT]
          exact ⟨hW, hK, by omega⟩
       ·have hi3 : i = 3 := by omega
        subst hi3
        rw [List.take_of_length_le (by omega), hfin] at hW hL
        have hp16 := hpw wr hW.ext
        have hEb : lO mm = (sB mm).1 ++ BK mm := rfl
        have hK3 : Keys (sB mm).2 := by
         rw [List.take_of_length_le (by omega), hfin] at hK
         exact hK
        by_cases cz : mm.size = 0
        ·have hZ : WrAt w2 wr B M (lO mm) (sB mm).2 := by
          rw [hEb, show BK mm = [] by unfold BK; rw [if_pos cz], List.append_nil]
          exact hW
         have hLz : (lO mm).length = (sB mm).1.length := by rw [hEb, show BK mm = [] by unfold BK; rw [if_pos cz], List.append_nil]
         generalize sB mm = Y at *
         (repeat' first | ((with_reducible refine aJ ?_); go_step) | ((with_reducible refine aI ?_); first | refine aW ?_ | (refine aL ?_ ?_ <;> intro hc)) | fail)
         all_goals first
          | (exfalso; simp_all; done)
          | skip
         obtain ⟨_, _, _, xz, ⟨vz, hBz, hoz⟩, _⟩ := hZ
         have hpz := aD (cs := vS vz M) hBz
         have hslz := hoz.sl
         have hbz : (aQ (lO mm)).length = (lO mm).length := by simp [aQ]
         have hzl : (lO mm).length ≤ 4000000 := by omega
         have hEn : cG mm = if 65535 < (lO mm).length then ([], 4) else (lO mm, 0) := by unfold cG; rw [if_neg (by simpa using cc)]
         generalize lO mm = Z at *
         by_cases cl : 65535 < Z.length
         ·rw [if_pos cl] at hEn
          (repeat' first | ((with_reducible refine aJ ?_); go_step) | ((with_reducible refine aI ?_); first | refine aW ?_ | (refine aL ?_ ?_ <;> intro hc)) | fail)
          all_goals first
           | (exfalso; omega)
           | skip
          go_ret2
          rw [hEn]
          exact ⟨by kernel_rfl, x02.trans xz⟩
         ·rw [if_neg cl] at hEn
          (repeat' first | ((with_reducible refine aJ ?_); go_step) | ((with_reducible refine aI ?_); first | refine aW ?_ | (refine aL ?_ ?_ <;> intro hc)) | fail)
          all_goals first
           | (exfalso; omega)
           | skip
          go_ret2
          rw [hEn]
          exact ⟨by kernel_rfl, x02.trans xz⟩
        ·have hoE : BK mm = [0] ++ bJ 41 ++ bJ mm.size.toNat ++ nA 0 ++ bJ 0 := by unfold BK; rw [if_neg cz]
         have hsz : 0 ≤ mm.size ∧ mm.size ≤ 65535 := by have := hok.sz; omega
         generalize sB mm = Y at *
         (repeat' first | ((with_reducible refine aJ ?_); go_step) | ((with_reducible refine aI ?_); first | refine aW ?_ | (refine aL ?_ ?_ <;> intro hc)) | fail)
         all_goals first
          | (exfalso; simp_all; done)
          | skip
         refine aF (vs := [.pointer (some ⟨B, 0, none⟩), aH []]) (enters_of Tryz.func56 rfl rfl) rfl rfl (DW hW hK3 [] rfl (by simp [enc]) (by omega)) ?_
         rintro _ w30 ⟨rfl, h30, g30⟩
         refine ⟨_, rfl, ?_⟩
         refine aA ?_
         (repeat' first | ((with_reducible refine aJ ?_); go_step) | ((with_reducible refine aI ?_); first | refine aW ?_ | (refine aL ?_ ?_ <;> intro hc)) | fail)
         refine aF (vs := [.pointer (some ⟨B, 0, none⟩), .int .i64 ((41 : Nat) : Int)]) (enters_of Tryz.func54 rfl rfl) rfl rfl (iA h30 41 (by omega) (by simp [dH]; omega)) ?_
         rintro _ w31 ⟨rfl, h31, g31⟩
         refine ⟨_, rfl, ?_⟩
         refine aA ?_
         have hp31 := hpw w31 h31.ext
         clear hp16
         (repeat' first | ((with_reducible refine aJ ?_); go_step) | ((with_reducible refine aI ?_); first | refine aW ?_ | (refine aL ?_ ?_ <;> intro hc)) | fail)
         refine aF (vs := [.pointer (some ⟨B, 0, none⟩), .int .i64 mm.size]) (enters_of Tryz.func54 rfl rfl) rfl rfl (yY h31 mm.size (by omega) (by omega) (by simp [dH, bJ]; omega)) ?_
         rintro _ w32 ⟨rfl, h32, g32⟩
         refine ⟨_, rfl, ?_⟩
         refine aA ?_
         (repeat' first | ((with_reducible refine aJ ?_); go_step) | ((with_reducible refine aI ?_); first | refine aW ?_ | (refine aL ?_ ?_ <;> intro hc)) | fail)
         refine aF (vs := [.pointer (some ⟨B, 0, none⟩), .int .i64 ((0 : Nat) : Int)]) (enters_of Tryz.func57 rfl rfl) rfl rfl (IN h32 0 (by omega) (by simp [dH, bJ]; omega)) ?_
         rintro _ w33 ⟨rfl, h33, g33⟩
         refine ⟨_, rfl, ?_⟩
         refine aA ?_
         (repeat' first | ((with_reducible refine aJ ?_); go_step) | ((with_reducible refine aI ?_); first | refine aW ?_ | (refine aL ?_ ?_ <;> intro hc)) | fail)
         refine aF (vs := [.pointer (some ⟨B, 0, none⟩), .int .i64 ((0 : Nat) : Int)]) (enters_of Tryz.func54 rfl rfl) rfl rfl (iA h33 0 (by omega) (by simp [dH, bJ, nA]; omega)) ?_
         rintro _ w34 ⟨rfl, h34, g34⟩
         refine ⟨_, rfl, ?_⟩
         refine aA ?_
         have hZ : WrAt w2 w34 B M (lO mm) (dH [] Y.1 Y.2).2 := by
          rw [hEb, hoE]
          simpa [dH] using h34
         have hLz : (lO mm).length ≤ Y.1.length + 20 := by
          rw [hEb, hoE]
          simp [bJ, nA]
         (repeat' first | ((with_reducible refine aJ ?_); go_step) | ((with_reducible refine aI ?_); first | refine aW ?_ | (refine aL ?_ ?_ <;> intro hc)) | fail)
         obtain ⟨_, _, _, xz, ⟨vz, hBz, hoz⟩, _⟩ := hZ
         have hpz := aD (cs := vS vz M) hBz
         have hslz := hoz.sl
         have hbz : (aQ (lO mm)).length = (lO mm).length := by simp [aQ]
         have hzl : (lO mm).length ≤ 4000000 := by omega
         have hEn : cG mm = if 65535 < (lO mm).length then ([], 4) else (lO mm, 0) := by unfold cG; rw [if_neg (by simpa using cc)]
         generalize lO mm = Z at *
         by_cases cl : 65535 < Z.length
         ·rw [if_pos cl] at hEn
          (repeat' first | ((with_reducible refine aJ ?_); go_step) | ((with_reducible refine aI ?_); first | refine aW ?_ | (refine aL ?_ ?_ <;> intro hc)) | fail)
          all_goals first
           | (exfalso; omega)
           | skip
          go_ret2
          rw [hEn]
          exact ⟨by kernel_rfl, x02.trans xz⟩
         ·rw [if_neg cl] at hEn
          (repeat' first | ((with_reducible refine aJ ?_); go_step) | ((with_reducible refine aI ?_); first | refine aW ?_ | (refine aL ?_ ?_ <;> intro hc)) | fail)
          all_goals first
           | (exfalso; omega)
           | skip
          go_ret2
          rw [hEn]
          exact ⟨by kernel_rfl, x02.trans xz⟩
 ·(repeat' first | ((with_reducible refine aJ ?_); go_step) | ((with_reducible refine aI ?_); first | refine aW ?_ | (refine aL ?_ ?_ <;> intro hc)) | fail)
  all_goals first
   | (exfalso; simp_all; done)
   | skip
  go_ret2
  have hE : cG mm = ([], cC mm) := by unfold cG; rw [if_pos cc]
  rw [hE]
  exact ⟨rfl, x02⟩
def lX (limit : Int) (x : MsgR) : Bool := decide ((cG x).2 = 0) && decide (((cG x).1.length : Int) ≤ limit)
def IZ (m : MsgR) : MsgR := { m with trunc := true, an := [], au := [], ex := [] }
def eM (m : MsgR) (n : Nat) : MsgR := { m with ex := m.ex.take n }
def oP (m : MsgR) (limit : Int) : MsgR × List UInt8 × Int := if lX limit (IZ m) = true then (IZ m, (cG (IZ m)).1, 0) else (zeroM, [], 4)
def qH (m : MsgR) (limit : Int) : Nat → MsgR × List UInt8 × Int
 | 0 => if lX limit (eM m 0) = true then (eM m 0, (cG (eM m 0)).1, 0) else oP m limit
 | n + 1 => if lX limit (eM m (n + 1)) = true then (eM m (n + 1), (cG (eM m (n + 1))).1, 0) else qH m limit n
def vU (m : MsgR) (limit : Int) : MsgR × List UInt8 × Int := if cC m ≠ 0 ∨ limit < 1 ∨ 65535 < limit then (zeroM, [], 1) else qH m limit m.ex.length
def JA (w : World) (o : MsgR × List UInt8 × Int) : Value → World → Prop := fun r w' => ∃ q a u e, r = .tuple #[.agg (aU o.1 q a u e).toArray, aH o.2.1, .int .i64 o.2.2] ∧ MsgV w' o.1 q a u e
theorem FZ {limit : Int} {x : MsgR} (h : lX limit x = true) : (cG x).2 = 0 ∧ ((cG x).1.length : Int) ≤ limit := by simpa [lX] using h
structure FitIn (w : World) (B b1 b2 : Nat) (m : MsgR) (limit : Int) (RES : MsgR × List UInt8 × Int) (cut : Bool) (n : Nat) (mm : MsgR) (q a u e : Value) (wr : World) : Prop where
 blk1 : wr.heap[b1]? = some (.cells (aU mm q a u e).toArray 26 (0, 0))
 blk2 : wr.heap[b2]? = some (.cells eT.toArray 26 (0, 0))
 ext : Ext w wr
 oq : Own B 2 54 wr q (bQ mm.qs)
 oa : Own B 4 106 wr a (aT mm.an)
 ou : Own B 4 106 wr u (aT mm.au)
 oe : Own B 4 106 wr e (aT mm.ex)
 len : m.ex.length ≤ 1000
 spec : (cut = false ∧ n ≤ m.ex.length ∧ mm = eM m n ∧ qH m limit n = RES) ∨ (cut = true ∧ mm = IZ m ∧ oP m limit = RES)
theorem FitIn.msg {w : World} {B b1 b2 : Nat} {m : MsgR} {limit : Int} {RES : MsgR × List UInt8 × Int} {cut : Bool} {n : Nat} {mm : MsgR} {q a u e : Value} {wr : World} (h : FitIn w B b1 b2 m limit RES cut n mm q a u e wr) : MsgV wr mm q a u e := ⟨h.oq.sl, h.oa.sl, h.ou.sl, h.oe.sl⟩
theorem FitIn.yes {w : World} {B b1 b2 : Nat} {m : MsgR} {limit : Int} {RES : MsgR × List UInt8 × Int} {cut : Bool} {n : Nat} {mm : MsgR} {q a u e : Value} {wr : World} (h : FitIn w B b1 b2 m limit RES cut n mm q a u e wr) (hf : lX limit mm = true) : RES = (mm, (cG mm).1, 0) := by
 rcases h.spec with ⟨-, -, h3, h4⟩ | ⟨-, h3, h4⟩
 ·rw [← h4]
  cases n with
  | zero => unfold qH; rw [← h3, if_pos hf]
  | succ n => unfold qH; rw [← h3, if_pos hf]
 ·rw [← h4]
  unfold oP
  rw [← h3, if_pos hf]
theorem FitIn.end_ {w : World} {B b1 b2 : Nat} {m : MsgR} {limit : Int} {RES : MsgR × List UInt8 × Int} {n : Nat} {mm : MsgR} {q a u e : Value} {wr : World} (h : FitIn w B b1 b2 m limit RES true n mm q a u e wr) (hf : ¬ lX limit mm = true) : RES = (zeroM, [], 4) := by
 rcases h.spec with ⟨h1, -⟩ | ⟨-, h3, h4⟩
 ·cases h1
 ·rw [← h4]
  unfold oP
  rw [← h3, if_neg hf]
theorem FitIn.on {w : World} {B b1 b2 : Nat} {m : MsgR} {limit : Int} {RES : MsgR × List UInt8 × Int} {n : Nat} {mm : MsgR} {q a u e : Value} {wr : World} (h : FitIn w B b1 b2 m limit RES false n mm q a u e wr) (hf : ¬ lX limit mm = true) : mm = eM m n ∧ n ≤ m.ex.length ∧ (n = 0 → oP m limit = RES) ∧ (∀ k, n = k + 1 → qH m limit k = RES) := by
 rcases h.spec with ⟨h1, h2, h3, h4⟩ | ⟨h1, -⟩
 ·refine ⟨h3, h2, ?_, ?_⟩
  ·rintro rfl
   rw [← h4]
   show oP m limit = (if lX limit (eM m 0) = true then (eM m 0, (cG (eM m 0)).1, 0) else oP m limit)
   rw [← h3, if_neg hf]
  ·rintro k rfl
   rw [← h4]
   show qH m limit k = (if lX limit (eM m (k + 1)) = true then (eM m (k + 1), (cG (eM m (k + 1))).1, 0) else qH m limit k)
   rw [← h3, if_neg hf]
 ·cases h1
def DZ (b1 : Nat) (a : Act) (w : World) : Nat := match a.tmps.getD 7 undef with
 | .bool true => 0
 | _ => match w.heap[b1]? with
   | some (.cells cs _ _) => 1 + BE (cs[11]?.getD undef)
   | _ => 0
theorem xP {b1 : Nat} {a : Act} {w : World} {cs : List Value} {ty : TypeId} {fr : Nat × Nat} {v : Value} (h7 : a.tmps.getD 7 undef = .bool false) (h : w.heap[b1]? = some (.cells cs.toArray ty fr)) (hv : cs[11]?.getD undef = v) : DZ b1 a w = 1 + BE v := by
 unfold DZ
 rw [h7, h, ← hv]
 simp
theorem BP {b1 : Nat} {a : Act} {w : World} {mm : MsgR} {q a2 u e : Value} {ty : TypeId} {fr : Nat × Nat} (h7 : a.tmps.getD 7 undef = .bool false) (h : w.heap[b1]? = some (.cells (aU mm q a2 u e).toArray ty fr)) : DZ b1 a w = 1 + BE e := xP h7 h rfl
theorem Own.cut0 {B k e : Nat} {w : World} {v : Value} {es : List (List Value)} (h : Own B k e w v es) {n : Nat} (hn : n ≤ es.length) : Own B k e w (dX v k 0 n) (es.take n) := by
 rcases h.form with ⟨rfl, rfl⟩ | ⟨g, cap, rfl, _⟩
 ·have : n = 0 := by simpa using hn
  subst this
  simpa [dX] using h
 ·have := h.short hn
  simpa [dX, Addr.add] using this
section
variable {P : Program} {a : Act} {w : World} {d : Option Nat} {ty : TypeId} {ps : String} {af : Array Edge} {g : Option (Nat × Bool)}
theorem jE {P : Program} {fn : Func} {ts : List Value} {w : World} {p q r : Tmp} {t : TypeId} (h : fn.results = #[.cell p t, .tmp q, .tmp r]) {b : Nat} {cs : List Value} {ty0 : TypeId} {fr : Nat × Nat} (hp : ts.getD p undef = .pointer (some ⟨b, 0, none⟩)) (hb : w.heap[b]? = some (.cells cs.toArray ty0 fr)) (ht : dS P t cs.length = true) :
 (results fn ts.toArray).run P w = .ok (.tuple #[.agg cs.toArray, ts.getD q undef, ts.getD r undef]) w := by
 obtain ⟨u, ie, hu, hn, hie, hz⟩ := kY ht
 have hl := run_loadCells_list (P := P) w ⟨b, 0, none⟩ cs (fun j v hv => by rw [cY, Nat.zero_add, cell_of_row w b j _ _ _ hb]; simpa using hv)
 have hp' : ts[p]?.getD undef = .pointer (some ⟨b, 0, none⟩) := by simpa using hp
 simp [results, h, hp', asAddr, loadVar, Sem.run_bind, kE hu hn, sizeOf, typeInfo, hie, hz, hl, Result.andThen]
end
set_option maxHeartbeats 2000000 in
theorem PE (m : MsgR) (q a u e : Value) (limit : Int) (w : World) (hm : MsgV w m q a u e) : Calls Tryz.prog 37 #[.agg (aU m q a u e).toArray, .int .i64 limit] w (oT w (JA w (vU m limit))) := by
 have hF : cC m = 0 ∧ 1 ≤ limit ∧ limit ≤ 65535 → qH m limit m.ex.length = vU m limit := fun cc => by unfold vU; rw [if_neg (by omega)]
 have hF2 : ¬ (cC m = 0 ∧ 1 ≤ limit ∧ limit ≤ 65535) → vU m limit = (zeroM, [], 1) := fun cc => by unfold vU; rw [if_pos (by omega)]
 generalize vU m limit = RES at *
 go_enter Tryz.func37, Tryz.ntmps37
 repeat' (first | ((with_reducible refine aJ ?_); go_step) | fail)
 refine dP (vs := aU m q a u e) rfl rfl ?_
 intro w1 x1 s1 hb1
 refine aA ?_
 refine aP (z := eT) rfl (by decide +kernel) ?_
 intro w2 x2 s2 hz2
 refine aA ?_
 have x02 := x1.trans x2
 have hb2 := x2.at hb1
 have hpM := aD (cs := aU m q a u e) hb2
 unfold aU at hpM
 have hm2 := hm.ext x02
 have hbb : w.heap.size ≠ w1.heap.size := by omega
 have hw1 : w.heap.size ≤ w1.heap.size := by omega
 have hB1 : w.heap.size < w2.heap.size := by omega
 have hB2 : w1.heap.size < w2.heap.size := by omega
 have hBw : ∀ k, w2.heap.size ≤ k → w.heap.size ≤ k := fun k h => by omega
 (repeat' first | ((with_reducible refine aJ ?_); go_step) | ((with_reducible refine aI ?_); first | refine aW ?_ | (refine aL ?_ ?_ <;> intro hc)) | fail)
 generalize hb1e : w.heap.size = b1 at *
 generalize hb2e : w1.heap.size = b2 at *
 generalize hBe : w2.heap.size = B at *
 refine vP 0 (fun a' wr => ∃ (cut : Bool) (n : Nat) (mm : MsgR) (q' a2 u2 e2 u8 u9 u10 u11 u12 u13 u14 u15 u16 u17 u18 u19 u20 u21 u22 u23 u24 u25 u26 u27 u28 u29 u30 u31 u32 u33 u34 u35 u36 u37 u38 u39 u40 u41 u42 u43 u44 u45 u46 u47 u48 u49 u50 u51 u52 u53 u54 u55 u56 u57 u58 u59 u60 u61 u62 u63 u64 u65 u66 u67 u68 u69 u70 u71 u72 u73 : Value), a' = Act.mk [.agg (aU m q a u e).toArray, .int .i64 limit, .pointer (some ⟨b1, 0, none⟩), undef, .pointer (some ⟨b2, 0, none⟩), aH [], .int .i64 0, .bool cut, u8, u9, u10, u11, u12, u13, u14, u15, u16, u17, u18, u19, u20, u21, u22, u23, u24, u25, u26, u27, u28, u29, u30, u31, u32, u33, u34, u35, u36, u37, u38, u39, u40, u41, u42, u43, u44, u45, u46, u47, u48, u49, u50, u51, u52, u53, u54, u55, u56, u57, u58, u59, u60, u61, u62, u63, u64, u65, u66, u67, u68, u69, u70, u71, u72, u73].toArray [] ∧ FitIn w B b1 b2 m limit RES cut n mm q' a2 u2 e2 wr) (DZ b1) rfl ?_ ?_
 ·rintro a' wr ⟨cut, n, mm, q', a2, u2, e2, u8, u9, u10, u11, u12, u13, u14, u15, u16, u17, u18, u19, u20, u21, u22, u23, u24, u25, u26, u27, u28, u29, u30, u31, u32, u33, u34, u35, u36, u37, u38, u39, u40, u41, u42, u43, u44, u45, u46, u47, u48, u49, u50, u51, u52, u53, u54, u55, u56, u57, u58, u59, u60, u61, u62, u63, u64, u65, u66, u67, u68, u69, u70, u71, u72, u73, rfl, hI⟩
  have hmr := hI.msg
  have hp1 := aD (cs := aU mm q' a2 u2 e2) hI.blk1
  unfold aU at hp1
  (repeat' first | ((with_reducible refine aJ ?_); go_step) | ((with_reducible refine aI ?_); first | refine aW ?_ | (refine aL ?_ ?_ <;> intro hc)) | fail)
  refine aE (enters_of Tryz.func23 rfl rfl) rfl rfl (qG hmr) ?_; intro w5 x5; refine aA ?_
  have hyes := hI.yes
  have hfe := FZ (limit := limit) (x := mm)
  have hfd : lX limit mm = (decide ((cG mm).2 = 0) && decide (((cG mm).1.length : Int) ≤ limit)) := rfl
  have hz5 := x5.at hI.blk2
  have hb5 := x5.at hI.blk1
  have x05 := hI.ext.trans x5
  have oq5 := hI.oq.ext x5
  have oa5 := hI.oa.ext x5
  have ou5 := hI.ou.ext x5
  have oe5 := hI.oe.ext x5
  generalize cG mm = E at *
  obtain ⟨eb, ee⟩ := E
  dsimp only at *
  have hp1 := hp1.ext x5
  by_cases hfit : lX limit mm = true
  ·obtain ⟨f1, f2⟩ := hfe hfit
   subst f1
   have hR := hyes hfit
   (repeat' first | ((with_reducible refine aJ ?_); go_step) | ((with_reducible refine aI ?_); first | refine aW ?_ | (refine aL ?_ ?_ <;> intro hc)) | fail)
   all_goals first
    | (have hh : False := by omega
       exact hh.elim)
    | skip
   have hm5 := hmr.ext x5
   refine aG (v := .agg (aU mm q' a2 u2 e2).toArray) rfl rfl rfl hz5 (show aX Tryz.prog 26 13 = true by decide +kernel) rfl (cL hm5) ?_
   intro w6 p6
   have x6 : Ext w w6 := x05.move p6.mv (by rintro k ⟨⟩; omega)
   (repeat' first | ((with_reducible refine aJ ?_); go_step) | ((with_reducible refine aI ?_); first | refine aW ?_ | (refine aL ?_ ?_ <;> intro hc)) | fail)
   (try simp only [Exit.inBlock, Exit.then, Exit.jump])
   refine bodyPost_ret (jE (cs := aU mm q' a2 u2 e2) rfl rfl p6.this (show dS Tryz.prog 26 13 = true by decide +kernel)) rfl ⟨_, rfl, x6, ?_⟩
   rw [hR]
   exact ⟨q', a2, u2, e2, rfl, (oq5.mv p6.mv (.inr (oq5.neBlock hz5 (by decide)))).sl, (oa5.mv p6.mv (.inr (oa5.neBlock hz5 (by decide)))).sl, (ou5.mv p6.mv (.inr (ou5.neBlock hz5 (by decide)))).sl, (oe5.mv p6.mv (.inr (oe5.neBlock hz5 (by decide)))).sl⟩
  ·cases cut with
   | true =>
    have hE := hI.end_ hfit
    have hnf : ¬ (ee = 0 ∧ (eb.length : Int) ≤ limit) := by rintro ⟨h1, h2⟩; exact hfit (by rw [hfd]; simp [h1, h2])
    (repeat' first | ((with_reducible refine aJ ?_); go_step) | ((with_reducible refine aI ?_); first | refine aW ?_ | (refine aL ?_ ?_ <;> intro hc)) | fail)
    all_goals first
     | (have hh : False := by omega
        exact hh.elim)
     | skip
    all_goals refine aN (v := .agg eT.toArray) (Runs.build0 (by kernel_rfl)) ?_
    all_goals refine aA ?_
    all_goals refine aG (v := .agg eT.toArray) rfl rfl rfl hz5 (show aX Tryz.prog 26 13 = true by decide +kernel) rfl (by decide +kernel) ?_
    all_goals intro w6 p6
    all_goals have x6 : Ext w w6 := x05.move p6.mv (by rintro k ⟨⟩; omega)
    all_goals (repeat' first | ((with_reducible refine aJ ?_); go_step) | ((with_reducible refine aI ?_); first | refine aW ?_ | (refine aL ?_ ?_ <;> intro hc)) | fail)
    all_goals (try simp only [Exit.inBlock, Exit.then, Exit.jump])
    all_goals refine bodyPost_ret (jE (cs := eT) rfl rfl p6.this (by decide +kernel)) rfl ⟨_, rfl, x6, ?_⟩
    all_goals rw [hE]
    all_goals exact ⟨_, _, _, _, rfl, MsgV.zero _⟩
   | false =>
    obtain ⟨hmm, hnl, hn0, hn1⟩ := hI.on hfit
    have hnf : ¬ (ee = 0 ∧ (eb.length : Int) ≤ limit) := by rintro ⟨h1, h2⟩; exact hfit (by rw [hfd]; simp [h1, h2])
    have hrl := bA mm.ex
    have hel : mm.ex.length = n := by rw [hmm]; show (m.ex.take n).length = n; rw [List.length_take]; omega
    have hse := oe5.sl
    by_cases hn : n = 0
    ·have hEn := hn0 hn
     (repeat' first | ((with_reducible refine aJ ?_); go_step) | ((with_reducible refine aI ?_); first | refine aW ?_ | (refine aL ?_ ?_ <;> intro hc)) | fail)
     all_goals first
      | (have hh : False := by omega
         exact hh.elim)
      | skip
     all_goals (
      refine aO (n := 4) (v := .bool true) hb5 rfl rfl rfl (by simp [aU]) (by decide +kernel) rfl ?_
      intro w6 p6
      have hb6 : w6.heap[b1]? = some (.cells [.int .i64 mm.id, .bool mm.resp, .int .i64 mm.op, .bool mm.auth, .bool true, .bool mm.want, .bool mm.avail, .int .i64 mm.rcode, q', a2, u2, e2, .int .i64 mm.size].toArray 26 (0, 0)) := p6.this
      (repeat' first | ((with_reducible refine aJ ?_); go_step) | ((with_reducible refine aI ?_); first | refine aW ?_ | (refine aL ?_ ?_ <;> intro hc)) | fail)
      refine aO (n := 9) (v := aM) hb6 rfl rfl rfl (by simp) (by decide +kernel) rfl ?_
      intro w7 p7
      have hb7 : w7.heap[b1]? = some (.cells [.int .i64 mm.id, .bool mm.resp, .int .i64 mm.op, .bool mm.auth, .bool true, .bool mm.want, .bool mm.avail, .int .i64 mm.rcode, q', aM, u2, e2, .int .i64 mm.size].toArray 26 (0, 0)) := p7.this
      (repeat' first | ((with_reducible refine aJ ?_); go_step) | ((with_reducible refine aI ?_); first | refine aW ?_ | (refine aL ?_ ?_ <;> intro hc)) | fail)
      refine aO (n := 10) (v := aM) hb7 rfl rfl rfl (by simp) (by decide +kernel) rfl ?_
      intro w8 p8
      have hb8 : w8.heap[b1]? = some (.cells [.int .i64 mm.id, .bool mm.resp, .int .i64 mm.op, .bool mm.auth, .bool true, .bool mm.want, .bool mm.avail, .int .i64 mm.rcode, q', aM, aM, e2, .int .i64 mm.size].toArray 26 (0, 0)) := p8.this
      (repeat' first | ((with_reducible refine aJ ?_); go_step) | ((with_reducible refine aI ?_); first | refine aW ?_ | (refine aL ?_ ?_ <;> intro hc)) | fail)
      refine aO (n := 11) (v := aM) hb8 rfl rfl rfl (by simp) (by decide +kernel) rfl ?_
      intro w9 p9
      have hb9 : w9.heap[b1]? = some (.cells [.int .i64 mm.id, .bool mm.resp, .int .i64 mm.op, .bool mm.auth, .bool true, .bool mm.want, .bool mm.avail, .int .i64 mm.rcode, q', aM, aM, aM, .int .i64 mm.size].toArray 26 (0, 0)) := p9.this
      have m69 : Mv (some b1) w5 w9 := ((p6.mv.trans p7.mv).trans p8.mv).trans p9.mv
      have oq9 := oq5.mv m69 (.inr (oq5.neBlock hb5 (by decide)))
      have hz9 := m69.at hz5 (by intro e9; exact hbb (Option.some.inj e9).symm)
      have x9 : Ext w w9 := x05.move m69 (by rintro k ⟨⟩; omega)
      (repeat' first | ((with_reducible refine aJ ?_); go_step) | ((with_reducible refine aI ?_); first | refine aW ?_ | (refine aL ?_ ?_ <;> intro hc)) | fail)
      go_step3
      (try simp only [Exit.inBlock, Exit.then, Exit.jump])
      refine ⟨rfl, ⟨true, 0, IZ m, q', aM, aM, aM, _, _, _, _, _, _, _, _, _, _, _, _, _, _, _, _, _, _, _, _, _, _, _, _, _, _, _, _, _, _, _, _, _, _, _, _, _, _, _, _, _, _, _, _, _, _, _, _, _, _, _, _, _, _, _, _, _, _, _, _, _, _, _, _, _, _, rfl, ⟨?_, hz9, x9, ?_, Own.nil _ _ _ _, Own.nil _ _ _ _, Own.nil _ _ _ _, hI.len, .inr ⟨rfl, rfl, hEn⟩⟩⟩, ?_⟩
      ·rw [hb9, hmm]; rfl
      ·rw [hmm] at oq9; exact oq9
      ·rw [BP rfl hI.blk1]
       show 0 < _
       omega)
    ·obtain ⟨k, rfl⟩ : ∃ k, n = k + 1 := ⟨n - 1, by omega⟩
     have hEn := hn1 k rfl
     have hlen := hI.len
     (repeat' first | ((with_reducible refine aJ ?_); go_step) | ((with_reducible refine aI ?_); first | refine aW ?_ | (refine aL ?_ ?_ <;> intro hc)) | fail)
     all_goals first
      | (have hh : False := by omega
         exact hh.elim)
      | skip
     all_goals (
      rw [show (((aT mm.ex).length : Int) - 1).toNat = k by omega]
      have oc5 := oe5.cut0 (n := k) (by omega)
      refine aO (n := 11) (v := dX e2 4 0 k) hb5 rfl rfl rfl (by simp [aU]) (by decide +kernel) oc5.one ?_
      intro w6 p6
      have hb6 : w6.heap[b1]? = some (.cells [.int .i64 mm.id, .bool mm.resp, .int .i64 mm.op, .bool mm.auth, .bool mm.trunc, .bool mm.want, .bool mm.avail, .int .i64 mm.rcode, q', a2, u2, dX e2 4 0 k, .int .i64 mm.size].toArray 26 (0, 0)) := p6.this
      have m69 := p6.mv
      have oq9 := oq5.mv m69 (.inr (oq5.neBlock hb5 (by decide)))
      have oa9 := oa5.mv m69 (.inr (oa5.neBlock hb5 (by decide)))
      have ou9 := ou5.mv m69 (.inr (ou5.neBlock hb5 (by decide)))
      have oe9 := oc5.mv m69 (.inr (oc5.neBlock hb5 (by decide)))
      have hz9 := m69.at hz5 (by intro e9; exact hbb (Option.some.inj e9).symm)
      have x9 : Ext w w6 := x05.move m69 (by rintro k ⟨⟩; omega)
      have hex : (aT mm.ex).take k = aT (eM m k).ex := by
       rw [hmm]
       simp only [eM, aT, ← List.map_take, List.take_take]
       rw [show min k (k + 1) = k by omega]
      rw [hex] at oe9
      (repeat' first | ((with_reducible refine aJ ?_); go_step) | ((with_reducible refine aI ?_); first | refine aW ?_ | (refine aL ?_ ?_ <;> intro hc)) | fail)
      go_step3
      (try simp only [Exit.inBlock, Exit.then, Exit.jump])
      refine ⟨rfl, ⟨false, k, eM m k, q', a2, u2, dX e2 4 0 k, _, _, _, _, _, _, _, _, _, _, _, _, _, _, _, _, _, _, _, _, _, _, _, _, _, _, _, _, _, _, _, _, _, _, _, _, _, _, _, _, _, _, _, _, _, _, _, _, _, _, _, _, _, _, _, _, _, _, _, _, _, _, _, _, _, _, rfl, ⟨?_, hz9, x9, ?_, ?_, ?_, oe9, hI.len, .inl ⟨rfl, by omega, rfl, hEn⟩⟩⟩, ?_⟩
      ·rw [hb6, hmm]; rfl
      ·rw [hmm] at oq9; exact oq9
      ·rw [hmm] at oa9; exact oa9
      ·rw [hmm] at ou9; exact ou9
      ·rw [BP rfl hI.blk1, xP rfl hb6 rfl]
       show 1 + BE (dX e2 4 0 k) < _
       rw [hse.slLen, oe9.sl.slLen, bA, bA]
       have : (eM m k).ex.length = k := by show (m.ex.take k).length = k; rw [List.length_take]; omega
       omega)
 ·intro hp
  (repeat' first | ((with_reducible refine aJ ?_); go_step) | ((with_reducible refine aI ?_); first | refine aW ?_ | (refine aL ?_ ?_ <;> intro hc)) | fail)
  refine aE (enters_of Tryz.func21 rfl rfl) rfl rfl (mW m q a u e _ hm2) ?_; intro w3 x3; refine aA ?_
  have x03 := x02.trans x3
  have hz3 := x3.at hz2
  have hb3 := x3.at hb2
  have hpM := hpM.ext x3
  have hm3 := hm2.ext x3
  by_cases cc : cC m = 0 ∧ 1 ≤ limit ∧ limit ≤ 65535
  ·have hok := nI cc.1
   have hRE := hF cc
   obtain ⟨c1, c2, c3⟩ := cc
   have hql := hok.ql
   have hnl := hok.nl
   have hul := hok.ul
   have hel := hok.el
   (repeat' first | ((with_reducible refine aJ ?_); go_step) | ((with_reducible refine aI ?_); first | refine aW ?_ | (refine aL ?_ ?_ <;> intro hc)) | fail)
   all_goals first
    | (have hh : False := by omega
       exact hh.elim)
    | (have hh : False := by
        have h9 := ‹(!decide (cC m = 0)) = true›
        rw [decide_eq_true c1] at h9
        cases h9
       exact hh.elim)
    | skip
   refine cA 5 (Ext w3) (by decide +kernel) ?_
   intro w21 x21 _
   refine ⟨x21, ?_⟩
   refine dD 0 ?_; refine dD 1 ?_; refine dD 3 ?_; refine dD 4 ?_
   refine bG (i := 2) (by decide +kernel) rfl rfl ?_
   refine aR (enters_of Tryz.func62 rfl rfl) rfl rfl (BJ q m.qs _ (hm3.qs.ext x21) (by omega)) ?_
   intro qv w22 x22 oqv
   refine aA ?_
   refine aK ⟨bW (x21.trans x22), ?_⟩
   refine GB 6 ?_
   refine bG (i := 5) (by decide +kernel) rfl rfl ?_
   refine aR (enters_of Tryz.func67 rfl rfl) rfl rfl (pY a m.an _ (hm3.an.ext (x21.trans x22)) (by omega)) ?_
   intro av w23 x23 oav
   refine aA ?_
   have y21 := (x21.trans x22).trans x23
   have hB21 := y21.at hb3
   refine aK ⟨bX rfl, ?_⟩
   refine bG (i := 7) (by decide +kernel) rfl rfl ?_
   refine aO (n := 8) (v := qv) hB21 rfl rfl rfl (by simp [aU]) (by decide +kernel) oqv.one ?_
   intro w24 p24
   have hB24 : w24.heap[b1]? = some (.cells [.int .i64 m.id, .bool m.resp, .int .i64 m.op, .bool m.auth, .bool m.trunc, .bool m.want, .bool m.avail, .int .i64 m.rcode, qv, a, u, e, .int .i64 m.size].toArray 26 (0, 0)) := p24.this
   refine aK ⟨bX rfl, ?_⟩
   refine GB 8 ?_
   refine bG (i := 9) (by decide +kernel) rfl rfl ?_
   refine aO (n := 9) (v := av) hB24 rfl rfl rfl (by simp) (by decide +kernel) oav.one ?_
   intro w25 p25
   have hB25 : w25.heap[b1]? = some (.cells [.int .i64 m.id, .bool m.resp, .int .i64 m.op, .bool m.auth, .bool m.trunc, .bool m.want, .bool m.avail, .int .i64 m.rcode, qv, av, u, e, .int .i64 m.size].toArray 26 (0, 0)) := p25.this
   refine aK ⟨bX rfl, ?_⟩
   refine cR (by decide +kernel) ?_
   have mv21 := p24.mv.trans p25.mv
   have x025 : Ext w w25 := (x03.trans y21).move mv21 (by rintro k ⟨⟩; omega)
   have oq25 := (oqv.ext x23).mv mv21 (.inr ((oqv.ext x23).neBlock hB21 (by decide)))
   have oa25 := oav.mv mv21 (.inr (oav.neBlock hB21 (by decide)))
   have hp25 := aD (cs := [.int .i64 m.id, .bool m.resp, .int .i64 m.op, .bool m.auth, .bool m.trunc, .bool m.want, .bool m.avail, .int .i64 m.rcode, qv, av, u, e, .int .i64 m.size]) hB25
   have hz25 := mv21.at (y21.at hz3) (by intro e9; exact hbb (Option.some.inj e9).symm)
   have hmu := hm.au.ext x025
   have hme := hm.ex.ext x025
   clear hpM
   (repeat' first | ((with_reducible refine aJ ?_); go_step) | ((with_reducible refine aI ?_); first | refine aW ?_ | (refine aL ?_ ?_ <;> intro hc)) | fail)
   refine cA 5 (Ext w25) (by decide +kernel) ?_
   intro w31 x31 _
   refine ⟨x31, ?_⟩
   refine dD 0 ?_; refine dD 1 ?_; refine dD 3 ?_; refine dD 4 ?_
   refine bG (i := 2) (by decide +kernel) rfl rfl ?_
   refine aR (enters_of Tryz.func67 rfl rfl) rfl rfl (pY u m.au _ (hmu.ext x31) (by omega)) ?_
   intro uv w32 x32 ouv
   refine aA ?_
   refine aK ⟨bW (x31.trans x32), ?_⟩
   refine GB 6 ?_
   refine bG (i := 5) (by decide +kernel) rfl rfl ?_
   refine aR (enters_of Tryz.func67 rfl rfl) rfl rfl (pY e m.ex _ (hme.ext (x31.trans x32)) (by omega)) ?_
   intro ev w33 x33 oev
   refine aA ?_
   have y31 := (x31.trans x32).trans x33
   have hB31 := y31.at hB25
   refine aK ⟨bX rfl, ?_⟩
   refine bG (i := 7) (by decide +kernel) rfl rfl ?_
   refine aO (n := 10) (v := uv) hB31 rfl rfl rfl (by simp [aU]) (by decide +kernel) ouv.one ?_
   intro w34 p34
   have hB34 : w34.heap[b1]? = some (.cells [.int .i64 m.id, .bool m.resp, .int .i64 m.op, .bool m.auth, .bool m.trunc, .bool m.want, .bool m.avail, .int .i64 m.rcode, qv, av, uv, e, .int .i64 m.size].toArray 26 (0, 0)) := p34.this
   refine aK ⟨bX rfl, ?_⟩
   refine GB 8 ?_
   refine bG (i := 9) (by decide +kernel) rfl rfl ?_
   refine aO (n := 11) (v := ev) hB34 rfl rfl rfl (by simp) (by decide +kernel) oev.one ?_
   intro w35 p35
   have hB35 : w35.heap[b1]? = some (.cells [.int .i64 m.id, .bool m.resp, .int .i64 m.op, .bool m.auth, .bool m.trunc, .bool m.want, .bool m.avail, .int .i64 m.rcode, qv, av, uv, ev, .int .i64 m.size].toArray 26 (0, 0)) := p35.this
   refine aK ⟨bX rfl, ?_⟩
   refine cR (by decide +kernel) ?_
   have mv31 := p34.mv.trans p35.mv
   have x035 : Ext w w35 := (x025.trans y31).move mv31 (by rintro k ⟨⟩; omega)
   have oq35 := (oq25.ext y31).mv mv31 (.inr ((oq25.ext y31).neBlock hB31 (by decide)))
   have oa35 := (oa25.ext y31).mv mv31 (.inr ((oa25.ext y31).neBlock hB31 (by decide)))
   have ou35 := (ouv.ext x33).mv mv31 (.inr ((ouv.ext x33).neBlock hB31 (by decide)))
   have oe35 := oev.mv mv31 (.inr (oev.neBlock hB31 (by decide)))
   have hz35 := mv31.at (y31.at hz25) (by intro e9; exact hbb (Option.some.inj e9).symm)
   have hk3 : B ≤ w3.heap.size := by have := x3.size; omega
   have hk21 : B ≤ w21.heap.size := by have := x21.size; omega
   have hk22 : B ≤ w22.heap.size := by have := x22.size; omega
   have hk25 : B ≤ w25.heap.size := by have := x23.size; have := mv21.size; omega
   have hk31 : B ≤ w31.heap.size := by have := x31.size; omega
   have hk32 : B ≤ w32.heap.size := by have := x32.size; omega
   have hwm : eM m m.ex.length = m := by unfold eM; rw [List.take_length]
   (repeat' first | ((with_reducible refine aJ ?_); go_step) | ((with_reducible refine aI ?_); first | refine aW ?_ | (refine aL ?_ ?_ <;> intro hc)) | fail)
   go_step3
   (first | ((with_reducible refine aJ ?_); go_step) | fail)
   (first | ((with_reducible refine aJ ?_); go_step) | fail)
   refine hp _ _ ?_
   refine ⟨false, m.ex.length, m, qv, av, uv, ev, _, _, _, _, _, _, _, _, _, _, _, _, _, _, _, _, _, _, _, _, _, _, _, _, _, _, _, _, _, _, _, _, _, _, _, _, _, _, _, _, _, _, _, _, _, _, _, _, _, _, _, _, _, _, _, _, _, _, _, _, _, _, _, _, _, _, rfl, hB35, hz35, x035, oq35.weaken hk21, oa35.weaken hk22, ou35.weaken hk31, oe35.weaken hk32, by omega, .inl ⟨rfl, Nat.le_refl _, hwm.symm, hRE⟩⟩
  ·have hRE := hF2 cc
   (repeat' first | ((with_reducible refine aJ ?_); go_step) | ((with_reducible refine aI ?_); first | refine aW ?_ | (refine aL ?_ ?_ <;> intro hc)) | fail)
   all_goals first
    | (have hh : False := by omega
       exact hh.elim)
    | (have hh : False := by
        have h9 := ‹(!decide (cC m = 0)) = false›
        simp only [Bool.not_eq_false', decide_eq_true_eq] at h9
        omega
       exact hh.elim)
    | skip
   all_goals (
    refine aN (v := .agg eT.toArray) (Runs.build0 (by kernel_rfl)) ?_
    refine aA ?_
    refine aG (v := .agg eT.toArray) rfl rfl rfl hz3 (show aX Tryz.prog 26 13 = true by decide +kernel) rfl (by decide +kernel) ?_
    intro w6 p6
    have x6 : Ext w w6 := x03.move p6.mv (by rintro k ⟨⟩; omega)
    (repeat' first | ((with_reducible refine aJ ?_); go_step) | ((with_reducible refine aI ?_); first | refine aW ?_ | (refine aL ?_ ?_ <;> intro hc)) | fail)
    (try simp only [Exit.inBlock, Exit.then, Exit.jump])
    refine bodyPost_ret (jE (cs := eT) rfl rfl p6.this (by decide +kernel)) rfl ⟨_, rfl, x6, ?_⟩
    rw [hRE]
    exact ⟨_, _, _, _, rfl, MsgV.zero _⟩)
end Go.Proofs.X
set_option linter.unusedSimpArgs false
set_option linter.unusedVariables false
namespace Go.Proofs.X
open Go.RowKit
end Go.Proofs.X
set_option linter.unusedSimpArgs false
set_option linter.unusedVariables false
namespace Go.Proofs.X
open Go.RowKit
end Go.Proofs.X
set_option linter.unusedSimpArgs false
set_option linter.unusedVariables false
namespace Go.Proofs.X
open Go.RowKit
set_option maxRecDepth 100000
section
variable {P : Program} {w w' : World} {a : Act} {d : Option Nat} {ty : TypeId} {ps : String} {af : Array Edge} {g : Option (Nat × Bool)}
theorem Runs.lenW {x : Operand} {t k : Nat} {es : List (List Value)} (h : Sl k w' (a.eval x) es) (ht : eD P t k = true) :
 Runs P (Oper.mk d (.call ⟨.builtin .len, #[x], #[t]⟩) ty ps af g) a w (.int .i64 es.length) := by
 obtain ⟨ad, cap, h1, _⟩ := h
 obtain ⟨e, i, ht, _⟩ := dQ ht
 constructor
 simp [execOp, resolve, invoke, builtin, h1, Builtin.len_, run_underlying ht, goInt]
end
end Go.Proofs.X
