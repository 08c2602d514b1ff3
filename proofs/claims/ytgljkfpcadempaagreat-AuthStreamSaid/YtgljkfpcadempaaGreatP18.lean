/- Laws and walks that the proof of the statement is made of (part 18). -/
import Derived.Test.YtgljkfpcadempaaGreatP17
set_option linter.unusedSimpArgs false
set_option linter.unusedVariables false
namespace Go.Proofs.X
open Go.RowKit
set_option maxRecDepth 100000
section
variable {P : Program} {a : Act} {w : World} {d : Option Nat} {ty : TypeId} {ps : String} {af : Array Edge} {g : Option (Nat × Bool)}
theorem Runs.shlN {t u : TypeId} {x y : Operand} {m : Nat} (hx : a.eval x = .int .i64 (m : Nat)) (hy : a.eval y = .int .u64 11) (h : m * 2048 < 4611686018427387904) :
 Runs P (Oper.mk d (.binOp .shl t x y u) ty ps af g) a w (.int .i64 ((m * 2048 : Nat) : Int)) := by
 have := Runs.shl (P := P) (w := w) (d := d) (ty := ty) (ps := ps) (af := af) (g := g) (t := t) (u := u) hx hy (by omega) (by omega) (by simp; omega)
 have e : ((m : Nat) : Int) * 2 ^ (11 : Int).toNat = ((m * 2048 : Nat) : Int) := by simp
 rwa [e] at this
end
theorem HQ (is : Bool) (n : Nat) : (if is = true then (n : Int) else 0) = ((flagN is n : Nat) : Int) := by unfold flagN; split <;> simp
theorem WrAt.grow {w0 w w' : World} {b m : Nat} {l : List UInt8} {ps : List (List UInt8 × Nat)} (h : WrAt w0 w b m l ps) (x : Ext w w') : WrAt w0 w' b m l ps := by
 obtain ⟨h1, h2, h3, h4, ⟨v, h5, h6⟩, h7⟩ := h
 exact ⟨h1, h2, h3, h4.trans x, ⟨v, x.at h5, h6.ext x⟩, h7.at (fun o h => x.at h)⟩
theorem nM (is : Bool) (n : Nat) (w : World) : Calls Tryz.prog 55 #[.bool is, .int .i64 ((n : Nat) : Int)] w (bS w (.int .i64 ((flagN is n : Nat) : Int))) := by
 rw [← HQ]
 exact KF is n w
theorem OW {w : World} {a u e : Value} {la lu le : List (List Value)} (h1 : Sl 4 w a la) (h2 : Sl 4 w u lu) (h3 : Sl 4 w e le) : Tryz.prog.built 104 [(0, a), (1, u), (2, e)] = some #[a, u, e] := by
 obtain ⟨_, _, rfl, _⟩ := h1.out
 obtain ⟨_, _, rfl, _⟩ := h2.out
 obtain ⟨_, _, rfl, _⟩ := h3.out
 kernel_rfl
theorem zU {w0 w : World} {b m : Nat} {l : List UInt8} {ps : List (List UInt8 × Nat)} (h : WrAt w0 w b m l ps) (n : Int) (h0 : 0 ≤ n) (hn : n ≤ 100000000000000) (hl : l.length + 2 ≤ 100000000000000) : Calls Tryz.prog 54 #[.pointer (some ⟨b, 0, none⟩), .int .i64 n] w (sR w0 w b m (l ++ aU n.toNat) ps) := by
 have := iN h n.toNat (by omega) hl
 rwa [show ((n.toNat : Nat) : Int) = n by omega] at this
theorem MP {w0 w : World} {b m : Nat} {l : List UInt8} {ps : List (List UInt8 × Nat)} (h : WrAt w0 w b m l ps) (n : Int) (h0 : 0 ≤ n) (hn : n ≤ 100000000000000) (hl : l.length + 4 ≤ 100000000000000) : Calls Tryz.prog 57 #[.pointer (some ⟨b, 0, none⟩), .int .i64 n] w (sR w0 w b m (l ++ eX n.toNat) ps) := by
 have := KA h n.toNat (by omega) hl
 rwa [show ((n.toNat : Nat) : Int) = n by omega] at this
set_option maxHeartbeats 4000000 in
theorem nE {w : World} {mm : MsgR} {q a u e : Value} (hm : MsgV w mm q a u e) : Calls Tryz.prog 23 #[.agg (aV mm q a u e).toArray] w (bS w (.tuple #[aI (bI mm).1, .int .i64 (bI mm).2])) := by
 go_enter Tryz.func23, Tryz.ntmps23
 repeat' (first | ((with_reducible refine aJ ?_); go_step) | fail)
 refine fF (vs := aV mm q a u e) rfl rfl ?_
 intro w1 x1 s1 hb1
 refine aA ?_
 have hpM := aD (cs := aV mm q a u e) hb1
 unfold aV at hpM
 have hm1 := hm.ext x1
 (repeat' first | ((with_reducible refine aJ ?_); go_step) | ((with_reducible refine aH ?_); first | refine aW ?_ | (refine aK ?_ ?_ <;> intro hc)) | fail)
 refine aE (enters_of Tryz.func21 rfl rfl) rfl rfl (vU mm q a u e _ hm1) ?_; intro w2 x2; refine aA ?_
 have hb2 := x2.at hb1
 have x02 := x1.trans x2
 have hm2 := hm1.ext x2
 by_cases cc : cL mm = 0
 ·(repeat' first | ((with_reducible refine aJ ?_); go_step) | ((with_reducible refine aH ?_); first | refine aW ?_ | (refine aK ?_ ?_ <;> intro hc)) | fail)
  all_goals first
   | (exfalso; simp_all; done)
   | skip
  refine mN (kt := 47) rfl ?_
  intro w3 x3 s3 hM3
  refine aA ?_
  (repeat' first | ((with_reducible refine aJ ?_); go_step) | ((with_reducible refine aH ?_); first | refine aW ?_ | (refine aK ?_ ?_ <;> intro hc)) | fail)
  refine aM (v := .agg (wN (.slice none 0 0) w2.heap.size).toArray) (Runs.build rfl (by kernel_rfl)) ?_
  refine aA ?_
  refine fF (vs := wN (.slice none 0 0) w2.heap.size) rfl rfl ?_
  intro w4 x4 s4 hb4
  refine aA ?_
  have x24 := x3.trans x4
  have hW4 : WrAt w2 w4 w3.heap.size w2.heap.size [] [] := ⟨x3.size, Nat.le_refl _, by have := x3.size; omega, x24, ⟨.slice none 0 0, hb4, Own.nil _ _ _ _⟩, hM3.at (fun o h => x4.at h)⟩
  have hb4' := x24.at hb2
  have hpM4 := aD (cs := aV mm q a u e) hb4'
  unfold aV at hpM4
  clear hpM
  (repeat' first | ((with_reducible refine aJ ?_); go_step) | ((with_reducible refine aH ?_); first | refine aW ?_ | (refine aK ?_ ?_ <;> intro hc)) | fail)
  have hid : 0 ≤ mm.id ∧ mm.id ≤ 65535 ∧ 0 ≤ mm.op ∧ mm.op ≤ 15 ∧ 0 ≤ mm.rcode ∧ mm.rcode ≤ 15 := by
   unfold cL at cc
   split at cc
   ·rename_i c
    simp [fY] at c
    omega
   ·cases cc
  have cw := iN hW4 mm.id.toNat (by omega) (by simp)
  refine aF (vs := [.pointer (some ⟨w3.heap.size, 0, none⟩), .int .i64 ((mm.id.toNat : Nat) : Int)]) (enters_of Tryz.func54 rfl rfl) rfl (congrArg (fun z => [Value.pointer (some ⟨w3.heap.size, 0, none⟩), Value.int .i64 z]) (show mm.id = ((mm.id.toNat : Nat) : Int) by omega)) cw ?_
  rintro _ w5 ⟨rfl, h5, g5⟩
  refine ⟨_, rfl, ?_⟩
  refine aA ?_
  have hb5 := g5 _ _ _ _ (by decide) (by decide) hb4'
  have hp5 := aD (cs := aV mm q a u e) hb5
  unfold aV at hp5
  clear hpM4
  (repeat' first | ((with_reducible refine aJ ?_); go_step) | ((with_reducible refine aH ?_); first | refine aW ?_ | (refine aK ?_ ?_ <;> intro hc)) | fail)
  refine cA 27 (Ext w5) (by decide +kernel) ?_
  intro w6 x6 _
  refine ⟨x6, ?_⟩
  refine dF 0 ?_; refine dF 1 ?_; refine dF 2 ?_; refine dF 4 ?_; refine dF 5 ?_
  refine bB (i := 6) (v := .int .i64 ((mm.op.toNat * 2048 : Nat) : Int)) rfl rfl (by decide +kernel) (by decide +kernel) (by decide +kernel) (by decide +kernel) (by decide +kernel) rfl (fun w' hF => Runs.shlN (congrArg (Value.int .i64) (show mm.op = ((mm.op.toNat : Nat) : Int) by omega)) rfl (by omega)) (fun _ _ _ h => h) ?_
  refine aA ?_
  refine dF 8 ?_; refine dF 9 ?_; refine dF 12 ?_; refine dF 13 ?_; refine dF 16 ?_; refine dF 17 ?_; refine dF 20 ?_; refine dF 21 ?_; refine dF 24 ?_; refine dF 25 ?_
  have z0 : Ext w5 w6 := x6
  refine bJ (i := 3) (by decide +kernel) rfl rfl ?_
  refine aE (enters_of Tryz.func55 rfl rfl) rfl rfl (nM mm.resp 32768 _) ?_; intro w7 x7; refine aA ?_
  have z7 : Ext w5 w7 := z0.trans x7
  refine aL ⟨bY z7, ?_⟩
  have hf7 : flagN mm.resp 32768 < 65536 := by have := jN mm.resp 32768; omega
  have ha7 : (flagN mm.resp 32768 ||| mm.op.toNat * 2048) < 65536 := HE hf7 (by omega)
  refine bB (i := 7) (v := .int .i64 (((flagN mm.resp 32768 ||| mm.op.toNat * 2048) : Nat) : Int)) rfl rfl (by decide +kernel) (by decide +kernel) (by decide +kernel) (by decide +kernel) (by decide +kernel) rfl (fun w' hF => Runs.orN (m := flagN mm.resp 32768) (n := mm.op.toNat * 2048) rfl rfl (by omega) (by omega)) (fun _ _ _ h => h) ?_
  refine aA ?_
  refine bJ (i := 10) (by decide +kernel) rfl rfl ?_
  refine aE (enters_of Tryz.func55 rfl rfl) rfl rfl (nM mm.auth 1024 _) ?_; intro w8 x8; refine aA ?_
  have z8 : Ext w5 w8 := z7.trans x8
  refine aL ⟨bY z8, ?_⟩
  have hf8 : flagN mm.auth 1024 < 65536 := by have := jN mm.auth 1024; omega
  have ha8 : ((flagN mm.resp 32768 ||| mm.op.toNat * 2048) ||| flagN mm.auth 1024) < 65536 := HE ha7 hf8
  refine bB (i := 11) (v := .int .i64 ((((flagN mm.resp 32768 ||| mm.op.toNat * 2048) ||| flagN mm.auth 1024) : Nat) : Int)) rfl rfl (by decide +kernel) (by decide +kernel) (by decide +kernel) (by decide +kernel) (by decide +kernel) rfl (fun w' hF => Runs.orN (m := (flagN mm.resp 32768 ||| mm.op.toNat * 2048)) (n := flagN mm.auth 1024) rfl rfl (by omega) (by omega)) (fun _ _ _ h => h) ?_
  refine aA ?_
  refine bJ (i := 14) (by decide +kernel) rfl rfl ?_
  refine aE (enters_of Tryz.func55 rfl rfl) rfl rfl (nM mm.trunc 512 _) ?_; intro w9 x9; refine aA ?_
  have z9 : Ext w5 w9 := z8.trans x9
  refine aL ⟨bY z9, ?_⟩
  have hf9 : flagN mm.trunc 512 < 65536 := by have := jN mm.trunc 512; omega
  have ha9 : (((flagN mm.resp 32768 ||| mm.op.toNat * 2048) ||| flagN mm.auth 1024) ||| flagN mm.trunc 512) < 65536 := HE ha8 hf9
  refine bB (i := 15) (v := .int .i64 (((((flagN mm.resp 32768 ||| mm.op.toNat * 2048) ||| flagN mm.auth 1024) ||| flagN mm.trunc 512) : Nat) : Int)) rfl rfl (by decide +kernel) (by decide +kernel) (by decide +kernel) (by decide +kernel) (by decide +kernel) rfl (fun w' hF => Runs.orN (m := ((flagN mm.resp 32768 ||| mm.op.toNat * 2048) ||| flagN mm.auth 1024)) (n := flagN mm.trunc 512) rfl rfl (by omega) (by omega)) (fun _ _ _ h => h) ?_
  refine aA ?_
  refine bJ (i := 18) (by decide +kernel) rfl rfl ?_
  refine aE (enters_of Tryz.func55 rfl rfl) rfl rfl (nM mm.want 256 _) ?_; intro w10 x10; refine aA ?_
  have z10 : Ext w5 w10 := z9.trans x10
  refine aL ⟨bY z10, ?_⟩
  have hf10 : flagN mm.want 256 < 65536 := by have := jN mm.want 256; omega
  have ha10 : ((((flagN mm.resp 32768 ||| mm.op.toNat * 2048) ||| flagN mm.auth 1024) ||| flagN mm.trunc 512) ||| flagN mm.want 256) < 65536 := HE ha9 hf10
  refine bB (i := 19) (v := .int .i64 ((((((flagN mm.resp 32768 ||| mm.op.toNat * 2048) ||| flagN mm.auth 1024) ||| flagN mm.trunc 512) ||| flagN mm.want 256) : Nat) : Int)) rfl rfl (by decide +kernel) (by decide +kernel) (by decide +kernel) (by decide +kernel) (by decide +kernel) rfl (fun w' hF => Runs.orN (m := (((flagN mm.resp 32768 ||| mm.op.toNat * 2048) ||| flagN mm.auth 1024) ||| flagN mm.trunc 512)) (n := flagN mm.want 256) rfl rfl (by omega) (by omega)) (fun _ _ _ h => h) ?_
  refine aA ?_
  refine bJ (i := 22) (by decide +kernel) rfl rfl ?_
  refine aE (enters_of Tryz.func55 rfl rfl) rfl rfl (nM mm.avail 128 _) ?_; intro w11 x11; refine aA ?_
  have z11 : Ext w5 w11 := z10.trans x11
  refine aL ⟨bY z11, ?_⟩
  have hf11 : flagN mm.avail 128 < 65536 := by have := jN mm.avail 128; omega
  have ha11 : (((((flagN mm.resp 32768 ||| mm.op.toNat * 2048) ||| flagN mm.auth 1024) ||| flagN mm.trunc 512) ||| flagN mm.want 256) ||| flagN mm.avail 128) < 65536 := HE ha10 hf11
  refine bB (i := 23) (v := .int .i64 (((((((flagN mm.resp 32768 ||| mm.op.toNat * 2048) ||| flagN mm.auth 1024) ||| flagN mm.trunc 512) ||| flagN mm.want 256) ||| flagN mm.avail 128) : Nat) : Int)) rfl rfl (by decide +kernel) (by decide +kernel) (by decide +kernel) (by decide +kernel) (by decide +kernel) rfl (fun w' hF => Runs.orN (m := ((((flagN mm.resp 32768 ||| mm.op.toNat * 2048) ||| flagN mm.auth 1024) ||| flagN mm.trunc 512) ||| flagN mm.want 256)) (n := flagN mm.avail 128) rfl rfl (by omega) (by omega)) (fun _ _ _ h => h) ?_
  refine aA ?_
  have ha12 : ((((((flagN mm.resp 32768 ||| mm.op.toNat * 2048) ||| flagN mm.auth 1024) ||| flagN mm.trunc 512) ||| flagN mm.want 256) ||| flagN mm.avail 128) ||| mm.rcode.toNat) < 65536 := HE ha11 (by omega)
  refine bB (i := 26) (v := .int .i64 ((((((((flagN mm.resp 32768 ||| mm.op.toNat * 2048) ||| flagN mm.auth 1024) ||| flagN mm.trunc 512) ||| flagN mm.want 256) ||| flagN mm.avail 128) ||| mm.rcode.toNat) : Nat) : Int)) rfl rfl (by decide +kernel) (by decide +kernel) (by decide +kernel) (by decide +kernel) (by decide +kernel) rfl (fun w' hF => Runs.orN (m := (((((flagN mm.resp 32768 ||| mm.op.toNat * 2048) ||| flagN mm.auth 1024) ||| flagN mm.trunc 512) ||| flagN mm.want 256) ||| flagN mm.avail 128)) (n := mm.rcode.toNat) rfl (congrArg (Value.int .i64) (show mm.rcode = ((mm.rcode.toNat : Nat) : Int) by omega)) (by omega) (by omega)) (fun _ _ _ h => h) ?_
  refine aA ?_
  refine bJ (i := 27) (by decide +kernel) rfl rfl ?_
  have cw2 := iN (h5.grow z11) (flagsW mm) (by unfold flagsW; omega) (by simp [aU])
  refine aF (vs := [.pointer (some ⟨w3.heap.size, 0, none⟩), .int .i64 ((flagsW mm : Nat) : Int)]) (enters_of Tryz.func54 rfl rfl) rfl rfl cw2 ?_
  rintro _ w12 ⟨rfl, h12, g12⟩
  refine ⟨_, rfl, ?_⟩
  refine aA ?_
  refine aL ⟨bZ rfl, ?_⟩
  refine cV (by decide +kernel) ?_
  have hb12 := g12 _ _ _ _ (by decide) (by decide) (z11.at hb5)
  have hp12 := aD (cs := aV mm q a u e) hb12
  unfold aV at hp12
  clear hp5
  (repeat' first | ((with_reducible refine aJ ?_); go_step) | ((with_reducible refine aH ?_); first | refine aW ?_ | (refine aK ?_ ?_ <;> intro hc)) | fail)
  have hl16 := bD mm.ex
  have hx02 := x02
  have hm12 : MsgV w12 mm q a u e := hm2.ext h12.ext
  have hq12 := hm12.qs
  have ha12 := hm12.an
  have hu12 := hm12.au
  have he12 := hm12.ex
  refine cA 17 (Ext w12) (by decide +kernel) ?_
  intro w13 x13 _
  refine ⟨x13, ?_⟩
  refine HV 18 ?_
  refine dF 0 ?_; refine dF 1 ?_; refine dF 2 ?_; refine dF 3 ?_; refine dF 4 ?_; refine dF 5 ?_; refine dF 6 ?_; refine dF 7 ?_; refine dF 8 ?_; refine dF 9 ?_; refine dF 10 ?_; refine dF 11 ?_; refine dF 12 ?_; refine dF 13 ?_; refine dF 14 ?_
  rw [cB, bD, bD, bD]
  have hok := nK cc
  have hfl1 := jN (!decide (mm.size = 0)) 1
  have hql := hok.ql
  have hnl := hok.nl
  have hul := hok.ul
  have hel := hok.el
  refine bJ (i := 15) (by decide +kernel) rfl rfl ?_
  refine aE (enters_of Tryz.func55 rfl rfl) rfl rfl (nM (!decide (mm.size = 0)) 1 _) ?_; intro w14 x14; refine aA ?_
  have z14 : Ext w12 w14 := x13.trans x14
  refine aL ⟨bY z14, ?_⟩
  refine bJ (i := 16) (by decide +kernel) rfl rfl ?_
  ((with_reducible refine aH ?_); (first | (refine iL ?_; refine fL ?_) | (refine mG ?_; refine nQ ?_; (with_reducible refine aH ?_); refine iL ?_; refine fL ?_)))
  rw [show ((mm.ex.length : Nat) : Int) + ((flagN (!decide (mm.size = 0)) 1 : Nat) : Int) = ((mm.ex.length + flagN (!decide (mm.size = 0)) 1 : Nat) : Int) by omega]
  refine aL ⟨bY z14, ?_⟩
  refine bJ (i := 17) (by decide +kernel) rfl rfl ?_
  refine aM (v := .agg ((vZ mm).map fun n => Value.int .i64 (n : Nat)).toArray) (Runs.build rfl (by kernel_rfl)) ?_
  refine aA ?_
  refine aL ⟨bZ rfl, ?_⟩
  refine cV (by decide +kernel) ?_
  have h14 := h12.grow z14
  have hcl : (vZ mm).length = 4 := rfl
  have hcb : ∀ x ∈ vZ mm, x ≤ 65535 := by
   intro x hx
   simp only [vZ, List.mem_cons, List.not_mem_nil, or_false] at hx
   omega
  have hhd : [] ++ aU mm.id.toNat ++ aU (flagsW mm) ++ (vZ mm).flatMap aU = eY mm := by simp [eY, vZ]
  have hb2' := hb2
  generalize vZ mm = cn at *
  have hbl0 : ([] ++ aU mm.id.toNat ++ aU (flagsW mm)).length = 4 := rfl
  generalize ([] ++ aU mm.id.toNat ++ aU (flagsW mm) : List UInt8) = bs at *
  generalize hB : w3.heap.size = B at *
  generalize hMp : w2.heap.size = M at *
  clear hp12
  have hpw : ∀ wr, Ext w2 wr → Pts wr (.pointer (some ⟨w.heap.size, 0, none⟩)) [.int .i64 mm.id, .bool mm.resp, .int .i64 mm.op, .bool mm.auth, .bool mm.trunc, .bool mm.want, .bool mm.avail, .int .i64 mm.rcode, q, a, u, e, .int .i64 mm.size] := fun wr x => aD (cs := aV mm q a u e) (x.at hb2)
  (repeat' first | ((with_reducible refine aJ ?_); go_step) | ((with_reducible refine aH ?_); first | refine aW ?_ | (refine aK ?_ ?_ <;> intro hc)) | fail)
  go_loopw [7, 72] (fun _ iv wr => ∃ k : Nat, k ≤ 4 ∧ iv = .int .i64 k ∧ WrAt w2 wr B M (bs ++ (cn.take k).flatMap aU) [] ∧ ((cn.take k).flatMap aU).length = 2 * k) (fun _ iv _ => 4 - (intOf iv).toNat)
  case atStart => exact ⟨0, by omega, rfl, by simpa using h14, rfl⟩
  case round =>
   obtain ⟨k, hk, rfl, hW, hlk⟩ := hrel
   by_cases c4 : k < 4
   ·have hck : k < cn.length := by omega
    have hgk := List.getElem?_eq_getElem hck
    have hmk := hcb _ (List.getElem_mem hck)
    (repeat' first | ((with_reducible refine aJ ?_); go_step) | ((with_reducible refine aH ?_); first | refine aW ?_ | (refine aK ?_ ?_ <;> intro hc)) | fail)
    refine aM (v := .int .i64 (cn[k] : Nat)) (Runs.idxA (i := k) (n := 4) rfl rfl (by simp [hgk]) (by omega) (by decide +kernel)) ?_
    refine aA ?_
    (repeat' first | ((with_reducible refine aJ ?_); go_step) | ((with_reducible refine aH ?_); first | refine aW ?_ | (refine aK ?_ ?_ <;> intro hc)) | fail)
    refine aF (vs := [.pointer (some ⟨B, 0, none⟩), .int .i64 ((cn[k] : Nat) : Int)]) (enters_of Tryz.func54 rfl rfl) rfl rfl (iN hW cn[k] (by omega) (by rw [List.length_append]; omega)) ?_
    rintro _ w15 ⟨rfl, h15, g15⟩
    refine ⟨_, rfl, ?_⟩
    refine aA ?_
    (repeat' first | ((with_reducible refine aJ ?_); go_step) | ((with_reducible refine aH ?_); first | refine aW ?_ | (refine aK ?_ ?_ <;> intro hc)) | fail)
    have hT : (cn.take (k + 1)).flatMap aU = (cn.take k).flatMap aU ++ aU cn[k] := by rw [List.take_succ_eq_append_getElem hck, List.flatMap_append]; simp
    refine ⟨⟨k + 1, by omega, by go_num, ?_, ?_⟩, by simp [intOf]; omega⟩
    ·rw [hT, ← List.append_assoc]
     exact h15
    ·rw [hT, List.length_append, hlk]
     simp [aU]
     omega
   ·have hk4 : k = 4 := by omega
    subst hk4
    rw [List.take_of_length_le (by omega), hhd] at hW
    have hlh : (eY mm).length = 12 := by simp [eY, aU]
    have hlh' : (((mm.qs.take 0).foldl qW (eY mm, [])).1).length = 12 := hlh
    have hqE := hq12
    have hp16 := hpw wr hW.ext
    have hqs16 := hm2.qs.ext hW.ext
    have hqc := cB mm.qs
    (repeat' first | ((with_reducible refine aJ ?_); go_step) | ((with_reducible refine aH ?_); first | refine aW ?_ | (refine aK ?_ ?_ <;> intro hc)) | fail)
    clear hp16
    go_loopw [9, 82] (fun _ iv wr => ∃ k : Nat, k ≤ mm.qs.length ∧ iv = .int .i64 k ∧ WrAt w2 wr B M ((mm.qs.take k).foldl qW (eY mm, [])).1 ((mm.qs.take k).foldl qW (eY mm, [])).2 ∧ Keys ((mm.qs.take k).foldl qW (eY mm, [])).2 ∧ ((mm.qs.take k).foldl qW (eY mm, [])).1.length ≤ 12 + 260 * k) (fun _ iv _ => mm.qs.length - (intOf iv).toNat)
    case atStart => exact ⟨0, by omega, rfl, hW, List.Pairwise.nil, by rw [hlh']; omega⟩
    case round =>
     obtain ⟨k, hk, rfl, hW, hK, hL⟩ := hrel
     by_cases ck : k < mm.qs.length
     ·have hqk := hok.qs _ (List.getElem_mem ck)
      have hT : (mm.qs.take (k + 1)).foldl qW (eY mm, []) = qW ((mm.qs.take k).foldl qW (eY mm, [])) mm.qs[k] := by rw [List.take_succ_eq_append_getElem ck, List.foldl_append]; rfl
      have hlk := KD hqk ((mm.qs.take k).foldl qW (eY mm, []))
      have hkk := MG ((mm.qs.take k).foldl qW (eY mm, [])) mm.qs[k] hK
      generalize (mm.qs.take k).foldl qW (eY mm, []) = X at *
      obtain ⟨hn1, hn2, hn3⟩ := DR hqk
      obtain ⟨t9, ht1, ht2⟩ := qO hn1 X
      have hq4 := hm2.qs.ext hW.ext
      have h4 := hq4.elem (nJ ck)
      (repeat' first | ((with_reducible refine aJ ?_); go_step) | ((with_reducible refine aH ?_); first | refine aW ?_ | (refine aK ?_ ?_ <;> intro hc)) | fail)
      refine aN (z := [aI [], .int .i64 0]) rfl (by decide +kernel) ?_
      intro w3' x3' s3' h3'
      refine aA ?_
      refine aG (v := .agg #[aI mm.qs[k].1, .int .i64 mm.qs[k].2]) rfl rfl rfl h3' (show aZ Tryz.prog 54 2 = true by decide +kernel) rfl (OT rfl rfl) ?_
      intro w4' p4'
      have x4' : Ext wr w4' := x3'.move p4'.mv (by rintro k ⟨⟩; exact Nat.le_refl _)
      have hc4 : w4'.heap[wr.heap.size]? = some (.cells [aI mm.qs[k].1, .int .i64 mm.qs[k].2].toArray 54 (0, 0)) := p4'.this
      have hpq := aD (cs := [aI mm.qs[k].1, .int .i64 mm.qs[k].2]) hc4
      have hW4 := hW.grow x4'
      clear p4' h3' x3' h4
      generalize wr.heap.size = c at *
      (repeat' first | ((with_reducible refine aJ ?_); go_step) | ((with_reducible refine aH ?_); first | refine aW ?_ | (refine aK ?_ ?_ <;> intro hc)) | fail)
      refine aF (vs := [.pointer (some ⟨B, 0, none⟩), aI mm.qs[k].1]) (enters_of Tryz.func56 rfl rfl) rfl rfl (qL hW4 hK mm.qs[k].1 hn1 (by omega)) ?_
      rintro _ w16 ⟨rfl, h16, g16⟩
      refine ⟨_, rfl, ?_⟩
      refine aA ?_
      have hc16 := g16 _ _ _ _ (by decide) (by decide) hc4
      clear hpq
      have hpq := aD (cs := [aI mm.qs[k].1, .int .i64 mm.qs[k].2]) hc16
      (repeat' first | ((with_reducible refine aJ ?_); go_step) | ((with_reducible refine aH ?_); first | refine aW ?_ | (refine aK ?_ ?_ <;> intro hc)) | fail)
      refine aF (vs := [.pointer (some ⟨B, 0, none⟩), .int .i64 mm.qs[k].2]) (enters_of Tryz.func54 rfl rfl) rfl rfl (zU h16 mm.qs[k].2 (by omega) (by omega) (by rw [ht1, List.length_append]; omega)) ?_
      rintro _ w17 ⟨rfl, h17, g17⟩
      refine ⟨_, rfl, ?_⟩
      refine aA ?_
      (repeat' first | ((with_reducible refine aJ ?_); go_step) | ((with_reducible refine aH ?_); first | refine aW ?_ | (refine aK ?_ ?_ <;> intro hc)) | fail)
      refine aF (vs := [.pointer (some ⟨B, 0, none⟩), .int .i64 ((1 : Nat) : Int)]) (enters_of Tryz.func54 rfl rfl) rfl rfl (iN h17 1 (by omega) (by rw [ht1]; simp [aU]; omega)) ?_
      rintro _ w18 ⟨rfl, h18, g18⟩
      refine ⟨_, rfl, ?_⟩
      refine aA ?_
      (repeat' first | ((with_reducible refine aJ ?_); go_step) | ((with_reducible refine aH ?_); first | refine aW ?_ | (refine aK ?_ ?_ <;> intro hc)) | fail)
      refine ⟨⟨k + 1, by omega, by go_num, ?_⟩, by simp [intOf]; omega⟩
      rw [hT]
      exact ⟨h18, hkk, by omega⟩
     ·have hkq : k = mm.qs.length := by omega
      subst hkq
      rw [List.take_length] at hW hK hL
      have hp16 := hpw wr hW.ext
      (repeat' first | ((with_reducible refine aJ ?_); go_step) | ((with_reducible refine aH ?_); first | refine aW ?_ | (refine aK ?_ ?_ <;> intro hc)) | fail)
      have hVL : ∀ i, i < 3 → ∃ v l, ([a, u, e] : List Value)[i]? = some v ∧ [mm.an, mm.au, mm.ex][i]? = some l ∧ Sl 4 w2 v (aR l) ∧ l.length ≤ 200 ∧ ∀ r ∈ l, bF r = 0 := by
       intro i hi
       match i, hi with
       | 0, _ => exact ⟨_, _, rfl, rfl, hm2.an, hok.nl, hok.an⟩
       | 1, _ => exact ⟨_, _, rfl, rfl, hm2.au, hok.ul, hok.au⟩
       | 2, _ => exact ⟨_, _, rfl, rfl, hm2.ex, hok.el, hok.ex⟩
      have hfin : [mm.an, mm.au, mm.ex].foldl (fun x l => l.foldl eQ x) (mm.qs.foldl qW (eY mm, [])) = gG mm := rfl
      refine aM (v := .agg ([a, u, e] : List Value).toArray) (Runs.build rfl (OW hm2.an hm2.au hm2.ex)) ?_
      refine aA ?_
      have hLl : [mm.an, mm.au, mm.ex].length = 3 := rfl
      generalize mm.qs.foldl qW (eY mm, []) = X0 at *
      clear hp16 hqs16 hqE hlh'
      generalize hLL : [mm.an, mm.au, mm.ex] = LL at *
      generalize hVV : ([a, u, e] : List Value) = VV at *
      (repeat' first | ((with_reducible refine aJ ?_); go_step) | ((with_reducible refine aH ?_); first | refine aW ?_ | (refine aK ?_ ?_ <;> intro hc)) | fail)
      go_loopw [11, 13, 104] (fun _ _ iv wr => ∃ i : Nat, i ≤ 3 ∧ iv = .int .i64 i ∧ WrAt w2 wr B M ((LL.take i).foldl (fun x l => l.foldl eQ x) X0).1 ((LL.take i).foldl (fun x l => l.foldl eQ x) X0).2 ∧ Keys ((LL.take i).foldl (fun x l => l.foldl eQ x) X0).2 ∧ ((LL.take i).foldl (fun x l => l.foldl eQ x) X0).1.length ≤ 3000 + 1200000 * i) (fun _ _ iv _ => 3 - (intOf iv).toNat)
      case atStart => exact ⟨0, by omega, rfl, hW, hK, by simp only [List.take_zero, List.foldl_nil]; omega⟩
      case round =>
       obtain ⟨i, hi, rfl, hW, hK, hL⟩ := hrel
       by_cases ci : i < 3
       ·obtain ⟨v, l, hv1, hl1, hsl, hll, hlr⟩ := hVL i ci
        have hT : (LL.take (i + 1)).foldl (fun x l => l.foldl eQ x) X0 = l.foldl eQ ((LL.take i).foldl (fun x l => l.foldl eQ x) X0) := by
         rw [List.take_add_one, hl1, List.foldl_append]; rfl
        generalize (LL.take i).foldl (fun x l => l.foldl eQ x) X0 = X at *
        (repeat' first | ((with_reducible refine aJ ?_); go_step) | ((with_reducible refine aH ?_); first | refine aW ?_ | (refine aK ?_ ?_ <;> intro hc)) | fail)
        refine aM (v := v) (Runs.idxA (i := i) (n := 3) rfl rfl (by simp [hv1]) (by omega) (by decide +kernel)) ?_
        refine aA ?_
        have hslr := hsl.ext hW.ext
        have hrl := bD l
        (repeat' first | ((with_reducible refine aJ ?_); go_step) | ((with_reducible refine aH ?_); first | refine aW ?_ | (refine aK ?_ ?_ <;> intro hc)) | fail)
        go_loopw [13, 109] (fun _ jv wr => ∃ k : Nat, k ≤ l.length ∧ jv = .int .i64 k ∧ WrAt w2 wr B M ((l.take k).foldl eQ X).1 ((l.take k).foldl eQ X).2 ∧ Keys ((l.take k).foldl eQ X).2 ∧ ((l.take k).foldl eQ X).1.length ≤ 3000 + 1200000 * i + 6000 * k) (fun _ jv _ => l.length - (intOf jv).toNat)
        case atStart => exact ⟨0, by omega, rfl, hW, hK, by simp only [List.take_zero, List.foldl_nil]; omega⟩
        case round =>
         obtain ⟨k, hk, rfl, hW, hK, hL⟩ := hrel
         by_cases ck : k < l.length
         ·have hRk := rL (hlr _ (List.getElem_mem ck))
          have hT2 : (l.take (k + 1)).foldl eQ X = eQ ((l.take k).foldl eQ X) l[k] := by rw [List.take_succ_eq_append_getElem ck, List.foldl_append]; rfl
          generalize (l.take k).foldl eQ X = Y at *
          have hlk := KE hRk Y
          have hkk := HD Y l[k] hK
          have hNk := gE (cZ l[k].name) Y.1 Y.2 hK
          obtain ⟨t9, ht1, ht2⟩ := qO hRk.nm Y
          have hsk := hsl.ext hW.ext
          have h4 := hsk.elem (jB ck)
          have hk0 := hRk.k0
          have hk1 := hRk.k1
          have ht0 := hRk.t0
          have ht3 := hRk.t1
          (repeat' first | ((with_reducible refine aJ ?_); go_step) | ((with_reducible refine aH ?_); first | refine aW ?_ | (refine aK ?_ ?_ <;> intro hc)) | fail)
          refine aN (z := NJ) rfl (by decide +kernel) ?_
          intro w3' x3' s3' h3'
          refine aA ?_
          refine aG (v := vK l[k]) rfl rfl rfl h3' (show aZ Tryz.prog 106 4 = true by decide +kernel) rfl (iV rfl rfl rfl rfl) ?_
          intro w4' p4'
          have x4' : Ext wr w4' := x3'.move p4'.mv (by rintro k ⟨⟩; exact Nat.le_refl _)
          have hc4 : w4'.heap[wr.heap.size]? = some (.cells [aI l[k].name, .int .i64 l[k].kind, .int .i64 l[k].ttl, aI l[k].data].toArray 106 (0, 0)) := p4'.this
          have hpq := aD (cs := [aI l[k].name, .int .i64 l[k].kind, .int .i64 l[k].ttl, aI l[k].data]) hc4
          have hW4 := hW.grow x4'
          clear p4' h3' x3' h4 hsk hslr
          generalize wr.heap.size = c at *
          (repeat' first | ((with_reducible refine aJ ?_); go_step) | ((with_reducible refine aH ?_); first | refine aW ?_ | (refine aK ?_ ?_ <;> intro hc)) | fail)
          refine aF (vs := [.pointer (some ⟨B, 0, none⟩), aI l[k].name]) (enters_of Tryz.func56 rfl rfl) rfl rfl (qL hW4 hK l[k].name hRk.nm (by omega)) ?_
          rintro _ w20 ⟨rfl, h20, g20⟩
          refine ⟨_, rfl, ?_⟩
          refine aA ?_
          have hc20 := g20 _ _ _ _ (by decide) (by decide) hc4
          clear hpq
          have hpq := aD (cs := [aI l[k].name, .int .i64 l[k].kind, .int .i64 l[k].ttl, aI l[k].data]) hc20
          (repeat' first | ((with_reducible refine aJ ?_); go_step) | ((with_reducible refine aH ?_); first | refine aW ?_ | (refine aK ?_ ?_ <;> intro hc)) | fail)
          refine aF (vs := [.pointer (some ⟨B, 0, none⟩), .int .i64 l[k].kind]) (enters_of Tryz.func54 rfl rfl) rfl rfl (zU h20 l[k].kind (by omega) (by omega) (by rw [ht1, List.length_append]; omega)) ?_
          rintro _ w21 ⟨rfl, h21, g21⟩
          refine ⟨_, rfl, ?_⟩
          refine aA ?_
          have hc21 := g21 _ _ _ _ (by decide) (by decide) hc20
          clear hpq
          have hpq := aD (cs := [aI l[k].name, .int .i64 l[k].kind, .int .i64 l[k].ttl, aI l[k].data]) hc21
          (repeat' first | ((with_reducible refine aJ ?_); go_step) | ((with_reducible refine aH ?_); first | refine aW ?_ | (refine aK ?_ ?_ <;> intro hc)) | fail)
          refine aF (vs := [.pointer (some ⟨B, 0, none⟩), .int .i64 ((1 : Nat) : Int)]) (enters_of Tryz.func54 rfl rfl) rfl rfl (iN h21 1 (by omega) (by rw [ht1]; simp [aU]; omega)) ?_
          rintro _ w22 ⟨rfl, h22, g22⟩
          refine ⟨_, rfl, ?_⟩
          refine aA ?_
          have hc22 := g22 _ _ _ _ (by decide) (by decide) hc21
          clear hpq
          have hpq := aD (cs := [aI l[k].name, .int .i64 l[k].kind, .int .i64 l[k].ttl, aI l[k].data]) hc22
          (repeat' first | ((with_reducible refine aJ ?_); go_step) | ((with_reducible refine aH ?_); first | refine aW ?_ | (refine aK ?_ ?_ <;> intro hc)) | fail)
          refine aF (vs := [.pointer (some ⟨B, 0, none⟩), .int .i64 l[k].ttl]) (enters_of Tryz.func57 rfl rfl) rfl rfl (MP h22 l[k].ttl (by omega) (by omega) (by rw [ht1]; simp [aU]; omega)) ?_
          rintro _ w23 ⟨rfl, h23, g23⟩
          refine ⟨_, rfl, ?_⟩
          refine aA ?_
          have hc23 := g23 _ _ _ _ (by decide) (by decide) hc22
          clear hpq
          have hpq := aD (cs := [aI l[k].name, .int .i64 l[k].kind, .int .i64 l[k].ttl, aI l[k].data]) hc23
          (repeat' first | ((with_reducible refine aJ ?_); go_step) | ((with_reducible refine aH ?_); first | refine aW ?_ | (refine aK ?_ ?_ <;> intro hc)) | fail)
          refine aF (vs := [.pointer (some ⟨B, 0, none⟩), vK l[k]]) (enters_of Tryz.func58 rfl rfl) rfl rfl (MF h23 hNk l[k] hRk.d hRk.soa (by rw [ht1]; simp [aU, eX]; omega)) ?_
          rintro _ w24 ⟨rfl, h24, g24⟩
          refine ⟨_, rfl, ?_⟩
          refine aA ?_
          (repeat' first | ((with_reducible refine aJ ?_); go_step) | ((with_reducible refine aH ?_); first | refine aW ?_ | (refine aK ?_ ?_ <;> intro hc)) | fail)
          refine ⟨⟨k + 1, by omega, by go_num, ?_⟩, by simp [intOf]; omega⟩
          rw [hT2]
          exact ⟨h24, hkk, by omega⟩
         ·have hkl : k = l.length := by omega
          subst hkl
          rw [List.take_length] at hW hK hL
          (repeat' first | ((with_reducible refine aJ ?_); go_step) | ((with_reducible refine aH ?_); first | refine aW ?_ | (refine aK ?_ ?_ <;> intro hc)) | fail)
          refine ⟨⟨i + 1, by omega, by go_num, ?_⟩, by simp [intOf]; omega⟩
          rw [hT]
          exact ⟨hW, hK, by omega⟩
       ·have hi3 : i = 3 := by omega
        subst hi3
        rw [List.take_of_length_le (by omega), hfin] at hW hL
        have hp16 := hpw wr hW.ext
        have hEb : gP mm = (gG mm).1 ++ qN mm := rfl
        have hK3 : Keys (gG mm).2 := by
         rw [List.take_of_length_le (by omega), hfin] at hK
         exact hK
        by_cases cz : mm.size = 0
        ·have hZ : WrAt w2 wr B M (gP mm) (gG mm).2 := by
          rw [hEb, show qN mm = [] by unfold qN; rw [if_pos cz], List.append_nil]
          exact hW
         have hLz : (gP mm).length = (gG mm).1.length := by rw [hEb, show qN mm = [] by unfold qN; rw [if_pos cz], List.append_nil]
         generalize gG mm = Y at *
         (repeat' first | ((with_reducible refine aJ ?_); go_step) | ((with_reducible refine aH ?_); first | refine aW ?_ | (refine aK ?_ ?_ <;> intro hc)) | fail)
         all_goals first
          | (exfalso; simp_all; done)
          | skip
         obtain ⟨_, _, _, xz, ⟨vz, hBz, hoz⟩, _⟩ := hZ
         have hpz := aD (cs := wN vz M) hBz
         have hslz := hoz.sl
         have hbz : (aQ (gP mm)).length = (gP mm).length := by simp [aQ]
         have hzl : (gP mm).length ≤ 4000000 := by omega
         have hEn : bI mm = if 65535 < (gP mm).length then ([], 4) else (gP mm, 0) := by unfold bI; rw [if_neg (by simpa using cc)]
         generalize gP mm = Z at *
         by_cases cl : 65535 < Z.length
         ·rw [if_pos cl] at hEn
          (repeat' first | ((with_reducible refine aJ ?_); go_step) | ((with_reducible refine aH ?_); first | refine aW ?_ | (refine aK ?_ ?_ <;> intro hc)) | fail)
          all_goals first
           | (exfalso; omega)
           | skip
          go_ret2
          rw [hEn]
          exact ⟨by kernel_rfl, x02.trans xz⟩
         ·rw [if_neg cl] at hEn
          (repeat' first | ((with_reducible refine aJ ?_); go_step) | ((with_reducible refine aH ?_); first | refine aW ?_ | (refine aK ?_ ?_ <;> intro hc)) | fail)
          all_goals first
           | (exfalso; omega)
           | skip
          go_ret2
          rw [hEn]
          exact ⟨by kernel_rfl, x02.trans xz⟩
        ·have hoE : qN mm = [0] ++ aU 41 ++ aU mm.size.toNat ++ eX 0 ++ aU 0 := by unfold qN; rw [if_neg cz]
         have hsz : 0 ≤ mm.size ∧ mm.size ≤ 65535 := by have := hok.sz; omega
         generalize gG mm = Y at *
         (repeat' first | ((with_reducible refine aJ ?_); go_step) | ((with_reducible refine aH ?_); first | refine aW ?_ | (refine aK ?_ ?_ <;> intro hc)) | fail)
         all_goals first
          | (exfalso; simp_all; done)
          | skip
         refine aF (vs := [.pointer (some ⟨B, 0, none⟩), aI []]) (enters_of Tryz.func56 rfl rfl) rfl rfl (EZ hW hK3 [] rfl (by simp [enc]) (by omega)) ?_
         rintro _ w30 ⟨rfl, h30, g30⟩
         refine ⟨_, rfl, ?_⟩
         refine aA ?_
         (repeat' first | ((with_reducible refine aJ ?_); go_step) | ((with_reducible refine aH ?_); first | refine aW ?_ | (refine aK ?_ ?_ <;> intro hc)) | fail)
         refine aF (vs := [.pointer (some ⟨B, 0, none⟩), .int .i64 ((41 : Nat) : Int)]) (enters_of Tryz.func54 rfl rfl) rfl rfl (iN h30 41 (by omega) (by simp [bC]; omega)) ?_
         rintro _ w31 ⟨rfl, h31, g31⟩
         refine ⟨_, rfl, ?_⟩
         refine aA ?_
         have hp31 := hpw w31 h31.ext
         clear hp16
         (repeat' first | ((with_reducible refine aJ ?_); go_step) | ((with_reducible refine aH ?_); first | refine aW ?_ | (refine aK ?_ ?_ <;> intro hc)) | fail)
         refine aF (vs := [.pointer (some ⟨B, 0, none⟩), .int .i64 mm.size]) (enters_of Tryz.func54 rfl rfl) rfl rfl (zU h31 mm.size (by omega) (by omega) (by simp [bC, aU]; omega)) ?_
         rintro _ w32 ⟨rfl, h32, g32⟩
         refine ⟨_, rfl, ?_⟩
         refine aA ?_
         (repeat' first | ((with_reducible refine aJ ?_); go_step) | ((with_reducible refine aH ?_); first | refine aW ?_ | (refine aK ?_ ?_ <;> intro hc)) | fail)
         refine aF (vs := [.pointer (some ⟨B, 0, none⟩), .int .i64 ((0 : Nat) : Int)]) (enters_of Tryz.func57 rfl rfl) rfl rfl (KA h32 0 (by omega) (by simp [bC, aU]; omega)) ?_
         rintro _ w33 ⟨rfl, h33, g33⟩
         refine ⟨_, rfl, ?_⟩
         refine aA ?_
         (repeat' first | ((with_reducible refine aJ ?_); go_step) | ((with_reducible refine aH ?_); first | refine aW ?_ | (refine aK ?_ ?_ <;> intro hc)) | fail)
         refine aF (vs := [.pointer (some ⟨B, 0, none⟩), .int .i64 ((0 : Nat) : Int)]) (enters_of Tryz.func54 rfl rfl) rfl rfl (iN h33 0 (by omega) (by simp [bC, aU, eX]; omega)) ?_
         rintro _ w34 ⟨rfl, h34, g34⟩
         refine ⟨_, rfl, ?_⟩
         refine aA ?_
         have hZ : WrAt w2 w34 B M (gP mm) (bC [] Y.1 Y.2).2 := by
          rw [hEb, hoE]
          simpa [bC] using h34
         have hLz : (gP mm).length ≤ Y.1.length + 20 := by
          rw [hEb, hoE]
          simp [aU, eX]
         (repeat' first | ((with_reducible refine aJ ?_); go_step) | ((with_reducible refine aH ?_); first | refine aW ?_ | (refine aK ?_ ?_ <;> intro hc)) | fail)
         obtain ⟨_, _, _, xz, ⟨vz, hBz, hoz⟩, _⟩ := hZ
         have hpz := aD (cs := wN vz M) hBz
         have hslz := hoz.sl
         have hbz : (aQ (gP mm)).length = (gP mm).length := by simp [aQ]
         have hzl : (gP mm).length ≤ 4000000 := by omega
         have hEn : bI mm = if 65535 < (gP mm).length then ([], 4) else (gP mm, 0) := by unfold bI; rw [if_neg (by simpa using cc)]
         generalize gP mm = Z at *
         by_cases cl : 65535 < Z.length
         ·rw [if_pos cl] at hEn
          (repeat' first | ((with_reducible refine aJ ?_); go_step) | ((with_reducible refine aH ?_); first | refine aW ?_ | (refine aK ?_ ?_ <;> intro hc)) | fail)
          all_goals first
           | (exfalso; omega)
           | skip
          go_ret2
          rw [hEn]
          exact ⟨by kernel_rfl, x02.trans xz⟩
         ·rw [if_neg cl] at hEn
          (repeat' first | ((with_reducible refine aJ ?_); go_step) | ((with_reducible refine aH ?_); first | refine aW ?_ | (refine aK ?_ ?_ <;> intro hc)) | fail)
          all_goals first
           | (exfalso; omega)
           | skip
          go_ret2
          rw [hEn]
          exact ⟨by kernel_rfl, x02.trans xz⟩
 ·(repeat' first | ((with_reducible refine aJ ?_); go_step) | ((with_reducible refine aH ?_); first | refine aW ?_ | (refine aK ?_ ?_ <;> intro hc)) | fail)
  all_goals first
   | (exfalso; simp_all; done)
   | skip
  go_ret2
  have hE : bI mm = ([], cL mm) := by unfold bI; rw [if_pos cc]
  rw [hE]
  exact ⟨rfl, x02⟩
def gV (limit : Int) (x : MsgR) : Bool := decide ((bI x).2 = 0) && decide (((bI x).1.length : Int) ≤ limit)
def KL (m : MsgR) : MsgR := { m with trunc := true, an := [], au := [], ex := [] }
def eN (m : MsgR) (n : Nat) : MsgR := { m with ex := m.ex.take n }
def kO (m : MsgR) (limit : Int) : MsgR × List UInt8 × Int := if gV limit (KL m) = true then (KL m, (bI (KL m)).1, 0) else (zeroM, [], 4)
def jP (m : MsgR) (limit : Int) : Nat → MsgR × List UInt8 × Int
 | 0 => if gV limit (eN m 0) = true then (eN m 0, (bI (eN m 0)).1, 0) else kO m limit
 | n + 1 => if gV limit (eN m (n + 1)) = true then (eN m (n + 1), (bI (eN m (n + 1))).1, 0) else jP m limit n
def oU (m : MsgR) (limit : Int) : MsgR × List UInt8 × Int := if cL m ≠ 0 ∨ limit < 1 ∨ 65535 < limit then (zeroM, [], 1) else jP m limit m.ex.length
def KM (w : World) (o : MsgR × List UInt8 × Int) : Value → World → Prop := fun r w' => ∃ q a u e, r = .tuple #[.agg (aV o.1 q a u e).toArray, aI o.2.1, .int .i64 o.2.2] ∧ MsgV w' o.1 q a u e
theorem HR {limit : Int} {x : MsgR} (h : gV limit x = true) : (bI x).2 = 0 ∧ ((bI x).1.length : Int) ≤ limit := by simpa [gV] using h
structure FitIn (w : World) (B b1 b2 : Nat) (m : MsgR) (limit : Int) (RES : MsgR × List UInt8 × Int) (cut : Bool) (n : Nat) (mm : MsgR) (q a u e : Value) (wr : World) : Prop where
 blk1 : wr.heap[b1]? = some (.cells (aV mm q a u e).toArray 26 (0, 0))
 blk2 : wr.heap[b2]? = some (.cells fM.toArray 26 (0, 0))
 ext : Ext w wr
 oq : Own B 2 54 wr q (cH mm.qs)
 oa : Own B 4 106 wr a (aR mm.an)
 ou : Own B 4 106 wr u (aR mm.au)
 oe : Own B 4 106 wr e (aR mm.ex)
 len : m.ex.length ≤ 1000
 spec : (cut = false ∧ n ≤ m.ex.length ∧ mm = eN m n ∧ jP m limit n = RES) ∨ (cut = true ∧ mm = KL m ∧ kO m limit = RES)
theorem FitIn.msg {w : World} {B b1 b2 : Nat} {m : MsgR} {limit : Int} {RES : MsgR × List UInt8 × Int} {cut : Bool} {n : Nat} {mm : MsgR} {q a u e : Value} {wr : World} (h : FitIn w B b1 b2 m limit RES cut n mm q a u e wr) : MsgV wr mm q a u e := ⟨h.oq.sl, h.oa.sl, h.ou.sl, h.oe.sl⟩
theorem FitIn.yes {w : World} {B b1 b2 : Nat} {m : MsgR} {limit : Int} {RES : MsgR × List UInt8 × Int} {cut : Bool} {n : Nat} {mm : MsgR} {q a u e : Value} {wr : World} (h : FitIn w B b1 b2 m limit RES cut n mm q a u e wr) (hf : gV limit mm = true) : RES = (mm, (bI mm).1, 0) := by
 rcases h.spec with ⟨-, -, h3, h4⟩ | ⟨-, h3, h4⟩
 ·rw [← h4]
  cases n with
  | zero => unfold jP; rw [← h3, if_pos hf]
  | succ n => unfold jP; rw [← h3, if_pos hf]
 ·rw [← h4]
  unfold kO
  rw [← h3, if_pos hf]
theorem FitIn.end_ {w : World} {B b1 b2 : Nat} {m : MsgR} {limit : Int} {RES : MsgR × List UInt8 × Int} {n : Nat} {mm : MsgR} {q a u e : Value} {wr : World} (h : FitIn w B b1 b2 m limit RES true n mm q a u e wr) (hf : ¬ gV limit mm = true) : RES = (zeroM, [], 4) := by
 rcases h.spec with ⟨h1, -⟩ | ⟨-, h3, h4⟩
 ·cases h1
 ·rw [← h4]
  unfold kO
  rw [← h3, if_neg hf]
theorem FitIn.on {w : World} {B b1 b2 : Nat} {m : MsgR} {limit : Int} {RES : MsgR × List UInt8 × Int} {n : Nat} {mm : MsgR} {q a u e : Value} {wr : World} (h : FitIn w B b1 b2 m limit RES false n mm q a u e wr) (hf : ¬ gV limit mm = true) : mm = eN m n ∧ n ≤ m.ex.length ∧ (n = 0 → kO m limit = RES) ∧ (∀ k, n = k + 1 → jP m limit k = RES) := by
 rcases h.spec with ⟨h1, h2, h3, h4⟩ | ⟨h1, -⟩
 ·refine ⟨h3, h2, ?_, ?_⟩
  ·rintro rfl
   rw [← h4]
   show kO m limit = (if gV limit (eN m 0) = true then (eN m 0, (bI (eN m 0)).1, 0) else kO m limit)
   rw [← h3, if_neg hf]
  ·rintro k rfl
   rw [← h4]
   show jP m limit k = (if gV limit (eN m (k + 1)) = true then (eN m (k + 1), (bI (eN m (k + 1))).1, 0) else jP m limit k)
   rw [← h3, if_neg hf]
 ·cases h1
def FH (b1 : Nat) (a : Act) (w : World) : Nat := match a.tmps.getD 7 undef with
 | .bool true => 0
 | _ => match w.heap[b1]? with
   | some (.cells cs _ _) => 1 + BX (cs[11]?.getD undef)
   | _ => 0
theorem yL {b1 : Nat} {a : Act} {w : World} {cs : List Value} {ty : TypeId} {fr : Nat × Nat} {v : Value} (h7 : a.tmps.getD 7 undef = .bool false) (h : w.heap[b1]? = some (.cells cs.toArray ty fr)) (hv : cs[11]?.getD undef = v) : FH b1 a w = 1 + BX v := by
 unfold FH
 rw [h7, h, ← hv]
 simp
theorem CE {b1 : Nat} {a : Act} {w : World} {mm : MsgR} {q a2 u e : Value} {ty : TypeId} {fr : Nat × Nat} (h7 : a.tmps.getD 7 undef = .bool false) (h : w.heap[b1]? = some (.cells (aV mm q a2 u e).toArray ty fr)) : FH b1 a w = 1 + BX e := yL h7 h rfl
theorem Own.cut0 {B k e : Nat} {w : World} {v : Value} {es : List (List Value)} (h : Own B k e w v es) {n : Nat} (hn : n ≤ es.length) : Own B k e w (eG v k 0 n) (es.take n) := by
 rcases h.form with ⟨rfl, rfl⟩ | ⟨g, cap, rfl, _⟩
 ·have : n = 0 := by simpa using hn
  subst this
  simpa [eG] using h
 ·have := h.short hn
  simpa [eG, Addr.add] using this
section
variable {P : Program} {a : Act} {w : World} {d : Option Nat} {ty : TypeId} {ps : String} {af : Array Edge} {g : Option (Nat × Bool)}
theorem jQ {P : Program} {fn : Func} {ts : List Value} {w : World} {p q r : Tmp} {t : TypeId} (h : fn.results = #[.cell p t, .tmp q, .tmp r]) {b : Nat} {cs : List Value} {ty0 : TypeId} {fr : Nat × Nat} (hp : ts.getD p undef = .pointer (some ⟨b, 0, none⟩)) (hb : w.heap[b]? = some (.cells cs.toArray ty0 fr)) (ht : dY P t cs.length = true) :
 (results fn ts.toArray).run P w = .ok (.tuple #[.agg cs.toArray, ts.getD q undef, ts.getD r undef]) w := by
 obtain ⟨u, ie, hu, hn, hie, hz⟩ := lF ht
 have hl := run_loadCells_list (P := P) w ⟨b, 0, none⟩ cs (fun j v hv => by rw [dB, Nat.zero_add, cell_of_row w b j _ _ _ hb]; simpa using hv)
 have hp' : ts[p]?.getD undef = .pointer (some ⟨b, 0, none⟩) := by simpa using hp
 simp [results, h, hp', asAddr, loadVar, Sem.run_bind, kQ hu hn, sizeOf, typeInfo, hie, hz, hl, Result.andThen]
end
set_option maxHeartbeats 2000000 in
theorem QM (m : MsgR) (q a u e : Value) (limit : Int) (w : World) (hm : MsgV w m q a u e) : Calls Tryz.prog 37 #[.agg (aV m q a u e).toArray, .int .i64 limit] w (sX w (KM w (oU m limit))) := by
 have hF : cL m = 0 ∧ 1 ≤ limit ∧ limit ≤ 65535 → jP m limit m.ex.length = oU m limit := fun cc => by unfold oU; rw [if_neg (by omega)]
 have hF2 : ¬ (cL m = 0 ∧ 1 ≤ limit ∧ limit ≤ 65535) → oU m limit = (zeroM, [], 1) := fun cc => by unfold oU; rw [if_pos (by omega)]
 generalize oU m limit = RES at *
 go_enter Tryz.func37, Tryz.ntmps37
 repeat' (first | ((with_reducible refine aJ ?_); go_step) | fail)
 refine fF (vs := aV m q a u e) rfl rfl ?_
 intro w1 x1 s1 hb1
 refine aA ?_
 refine aN (z := fM) rfl (by decide +kernel) ?_
 intro w2 x2 s2 hz2
 refine aA ?_
 have x02 := x1.trans x2
 have hb2 := x2.at hb1
 have hpM := aD (cs := aV m q a u e) hb2
 unfold aV at hpM
 have hm2 := hm.ext x02
 have hbb : w.heap.size ≠ w1.heap.size := by omega
 have hw1 : w.heap.size ≤ w1.heap.size := by omega
 have hB1 : w.heap.size < w2.heap.size := by omega
 have hB2 : w1.heap.size < w2.heap.size := by omega
 have hBw : ∀ k, w2.heap.size ≤ k → w.heap.size ≤ k := fun k h => by omega
 (repeat' first | ((with_reducible refine aJ ?_); go_step) | ((with_reducible refine aH ?_); first | refine aW ?_ | (refine aK ?_ ?_ <;> intro hc)) | fail)
 generalize hb1e : w.heap.size = b1 at *
 generalize hb2e : w1.heap.size = b2 at *
 generalize hBe : w2.heap.size = B at *
 refine wK 0 (fun a' wr => ∃ (cut : Bool) (n : Nat) (mm : MsgR) (q' a2 u2 e2 u8 u9 u10 u11 u12 u13 u14 u15 u16 u17 u18 u19 u20 u21 u22 u23 u24 u25 u26 u27 u28 u29 u30 u31 u32 u33 u34 u35 u36 u37 u38 u39 u40 u41 u42 u43 u44 u45 u46 u47 u48 u49 u50 u51 u52 u53 u54 u55 u56 u57 u58 u59 u60 u61 u62 u63 u64 u65 u66 u67 u68 u69 u70 u71 u72 u73 : Value), a' = Act.mk [.agg (aV m q a u e).toArray, .int .i64 limit, .pointer (some ⟨b1, 0, none⟩), undef, .pointer (some ⟨b2, 0, none⟩), aI [], .int .i64 0, .bool cut, u8, u9, u10, u11, u12, u13, u14, u15, u16, u17, u18, u19, u20, u21, u22, u23, u24, u25, u26, u27, u28, u29, u30, u31, u32, u33, u34, u35, u36, u37, u38, u39, u40, u41, u42, u43, u44, u45, u46, u47, u48, u49, u50, u51, u52, u53, u54, u55, u56, u57, u58, u59, u60, u61, u62, u63, u64, u65, u66, u67, u68, u69, u70, u71, u72, u73].toArray [] ∧ FitIn w B b1 b2 m limit RES cut n mm q' a2 u2 e2 wr) (FH b1) rfl ?_ ?_
 ·rintro a' wr ⟨cut, n, mm, q', a2, u2, e2, u8, u9, u10, u11, u12, u13, u14, u15, u16, u17, u18, u19, u20, u21, u22, u23, u24, u25, u26, u27, u28, u29, u30, u31, u32, u33, u34, u35, u36, u37, u38, u39, u40, u41, u42, u43, u44, u45, u46, u47, u48, u49, u50, u51, u52, u53, u54, u55, u56, u57, u58, u59, u60, u61, u62, u63, u64, u65, u66, u67, u68, u69, u70, u71, u72, u73, rfl, hI⟩
  have hmr := hI.msg
  have hp1 := aD (cs := aV mm q' a2 u2 e2) hI.blk1
  unfold aV at hp1
  (repeat' first | ((with_reducible refine aJ ?_); go_step) | ((with_reducible refine aH ?_); first | refine aW ?_ | (refine aK ?_ ?_ <;> intro hc)) | fail)
  refine aE (enters_of Tryz.func23 rfl rfl) rfl rfl (nE hmr) ?_; intro w5 x5; refine aA ?_
  have hyes := hI.yes
  have hfe := HR (limit := limit) (x := mm)
  have hfd : gV limit mm = (decide ((bI mm).2 = 0) && decide (((bI mm).1.length : Int) ≤ limit)) := rfl
  have hz5 := x5.at hI.blk2
  have hb5 := x5.at hI.blk1
  have x05 := hI.ext.trans x5
  have oq5 := hI.oq.ext x5
  have oa5 := hI.oa.ext x5
  have ou5 := hI.ou.ext x5
  have oe5 := hI.oe.ext x5
  generalize bI mm = E at *
  obtain ⟨eb, ee⟩ := E
  dsimp only at *
  have hp1 := hp1.ext x5
  by_cases hfit : gV limit mm = true
  ·obtain ⟨f1, f2⟩ := hfe hfit
   subst f1
   have hR := hyes hfit
   (repeat' first | ((with_reducible refine aJ ?_); go_step) | ((with_reducible refine aH ?_); first | refine aW ?_ | (refine aK ?_ ?_ <;> intro hc)) | fail)
   all_goals first
    | (have hh : False := by omega
       exact hh.elim)
    | skip
   have hm5 := hmr.ext x5
   refine aG (v := .agg (aV mm q' a2 u2 e2).toArray) rfl rfl rfl hz5 (show aZ Tryz.prog 26 13 = true by decide +kernel) rfl (cM hm5) ?_
   intro w6 p6
   have x6 : Ext w w6 := x05.move p6.mv (by rintro k ⟨⟩; omega)
   (repeat' first | ((with_reducible refine aJ ?_); go_step) | ((with_reducible refine aH ?_); first | refine aW ?_ | (refine aK ?_ ?_ <;> intro hc)) | fail)
   (try simp only [Exit.inBlock, Exit.then, Exit.jump])
   refine bodyPost_ret (jQ (cs := aV mm q' a2 u2 e2) rfl rfl p6.this (show dY Tryz.prog 26 13 = true by decide +kernel)) rfl ⟨_, rfl, x6, ?_⟩
   rw [hR]
   exact ⟨q', a2, u2, e2, rfl, (oq5.mv p6.mv (.inr (oq5.neBlock hz5 (by decide)))).sl, (oa5.mv p6.mv (.inr (oa5.neBlock hz5 (by decide)))).sl, (ou5.mv p6.mv (.inr (ou5.neBlock hz5 (by decide)))).sl, (oe5.mv p6.mv (.inr (oe5.neBlock hz5 (by decide)))).sl⟩
  ·cases cut with
   | true =>
    have hE := hI.end_ hfit
    have hnf : ¬ (ee = 0 ∧ (eb.length : Int) ≤ limit) := by rintro ⟨h1, h2⟩; exact hfit (by rw [hfd]; simp [h1, h2])
    (repeat' first | ((with_reducible refine aJ ?_); go_step) | ((with_reducible refine aH ?_); first | refine aW ?_ | (refine aK ?_ ?_ <;> intro hc)) | fail)
    all_goals first
     | (have hh : False := by omega
        exact hh.elim)
     | skip
    all_goals refine aM (v := .agg fM.toArray) (Runs.build0 (by kernel_rfl)) ?_
    all_goals refine aA ?_
    all_goals refine aG (v := .agg fM.toArray) rfl rfl rfl hz5 (show aZ Tryz.prog 26 13 = true by decide +kernel) rfl (by decide +kernel) ?_
    all_goals intro w6 p6
    all_goals have x6 : Ext w w6 := x05.move p6.mv (by rintro k ⟨⟩; omega)
    all_goals (repeat' first | ((with_reducible refine aJ ?_); go_step) | ((with_reducible refine aH ?_); first | refine aW ?_ | (refine aK ?_ ?_ <;> intro hc)) | fail)
    all_goals (try simp only [Exit.inBlock, Exit.then, Exit.jump])
    all_goals refine bodyPost_ret (jQ (cs := fM) rfl rfl p6.this (by decide +kernel)) rfl ⟨_, rfl, x6, ?_⟩
    all_goals rw [hE]
    all_goals exact ⟨_, _, _, _, rfl, MsgV.zero _⟩
   | false =>
    obtain ⟨hmm, hnl, hn0, hn1⟩ := hI.on hfit
    have hnf : ¬ (ee = 0 ∧ (eb.length : Int) ≤ limit) := by rintro ⟨h1, h2⟩; exact hfit (by rw [hfd]; simp [h1, h2])
    have hrl := bD mm.ex
    have hel : mm.ex.length = n := by rw [hmm]; show (m.ex.take n).length = n; rw [List.length_take]; omega
    have hse := oe5.sl
    by_cases hn : n = 0
    ·have hEn := hn0 hn
     (repeat' first | ((with_reducible refine aJ ?_); go_step) | ((with_reducible refine aH ?_); first | refine aW ?_ | (refine aK ?_ ?_ <;> intro hc)) | fail)
     all_goals first
      | (have hh : False := by omega
         exact hh.elim)
      | skip
     all_goals (
      refine aO (n := 4) (v := .bool true) hb5 rfl rfl rfl (by simp [aV]) (by decide +kernel) rfl ?_
      intro w6 p6
      have hb6 : w6.heap[b1]? = some (.cells [.int .i64 mm.id, .bool mm.resp, .int .i64 mm.op, .bool mm.auth, .bool true, .bool mm.want, .bool mm.avail, .int .i64 mm.rcode, q', a2, u2, e2, .int .i64 mm.size].toArray 26 (0, 0)) := p6.this
      (repeat' first | ((with_reducible refine aJ ?_); go_step) | ((with_reducible refine aH ?_); first | refine aW ?_ | (refine aK ?_ ?_ <;> intro hc)) | fail)
      refine aO (n := 9) (v := aP) hb6 rfl rfl rfl (by simp) (by decide +kernel) rfl ?_
      intro w7 p7
      have hb7 : w7.heap[b1]? = some (.cells [.int .i64 mm.id, .bool mm.resp, .int .i64 mm.op, .bool mm.auth, .bool true, .bool mm.want, .bool mm.avail, .int .i64 mm.rcode, q', aP, u2, e2, .int .i64 mm.size].toArray 26 (0, 0)) := p7.this
      (repeat' first | ((with_reducible refine aJ ?_); go_step) | ((with_reducible refine aH ?_); first | refine aW ?_ | (refine aK ?_ ?_ <;> intro hc)) | fail)
      refine aO (n := 10) (v := aP) hb7 rfl rfl rfl (by simp) (by decide +kernel) rfl ?_
      intro w8 p8
      have hb8 : w8.heap[b1]? = some (.cells [.int .i64 mm.id, .bool mm.resp, .int .i64 mm.op, .bool mm.auth, .bool true, .bool mm.want, .bool mm.avail, .int .i64 mm.rcode, q', aP, aP, e2, .int .i64 mm.size].toArray 26 (0, 0)) := p8.this
      (repeat' first | ((with_reducible refine aJ ?_); go_step) | ((with_reducible refine aH ?_); first | refine aW ?_ | (refine aK ?_ ?_ <;> intro hc)) | fail)
      refine aO (n := 11) (v := aP) hb8 rfl rfl rfl (by simp) (by decide +kernel) rfl ?_
      intro w9 p9
      have hb9 : w9.heap[b1]? = some (.cells [.int .i64 mm.id, .bool mm.resp, .int .i64 mm.op, .bool mm.auth, .bool true, .bool mm.want, .bool mm.avail, .int .i64 mm.rcode, q', aP, aP, aP, .int .i64 mm.size].toArray 26 (0, 0)) := p9.this
      have m69 : Mv (some b1) w5 w9 := ((p6.mv.trans p7.mv).trans p8.mv).trans p9.mv
      have oq9 := oq5.mv m69 (.inr (oq5.neBlock hb5 (by decide)))
      have hz9 := m69.at hz5 (by intro e9; exact hbb (Option.some.inj e9).symm)
      have x9 : Ext w w9 := x05.move m69 (by rintro k ⟨⟩; omega)
      (repeat' first | ((with_reducible refine aJ ?_); go_step) | ((with_reducible refine aH ?_); first | refine aW ?_ | (refine aK ?_ ?_ <;> intro hc)) | fail)
      go_step3
      (try simp only [Exit.inBlock, Exit.then, Exit.jump])
      refine ⟨rfl, ⟨true, 0, KL m, q', aP, aP, aP, _, _, _, _, _, _, _, _, _, _, _, _, _, _, _, _, _, _, _, _, _, _, _, _, _, _, _, _, _, _, _, _, _, _, _, _, _, _, _, _, _, _, _, _, _, _, _, _, _, _, _, _, _, _, _, _, _, _, _, _, _, _, _, _, _, _, rfl, ⟨?_, hz9, x9, ?_, Own.nil _ _ _ _, Own.nil _ _ _ _, Own.nil _ _ _ _, hI.len, .inr ⟨rfl, rfl, hEn⟩⟩⟩, ?_⟩
      ·rw [hb9, hmm]; rfl
      ·rw [hmm] at oq9; exact oq9
      ·rw [CE rfl hI.blk1]
       show 0 < _
       omega)
    ·obtain ⟨k, rfl⟩ : ∃ k, n = k + 1 := ⟨n - 1, by omega⟩
     have hEn := hn1 k rfl
     have hlen := hI.len
     (repeat' first | ((with_reducible refine aJ ?_); go_step) | ((with_reducible refine aH ?_); first | refine aW ?_ | (refine aK ?_ ?_ <;> intro hc)) | fail)
     all_goals first
      | (have hh : False := by omega
         exact hh.elim)
      | skip
     all_goals (
      rw [show (((aR mm.ex).length : Int) - 1).toNat = k by omega]
      have oc5 := oe5.cut0 (n := k) (by omega)
      refine aO (n := 11) (v := eG e2 4 0 k) hb5 rfl rfl rfl (by simp [aV]) (by decide +kernel) oc5.one ?_
      intro w6 p6
      have hb6 : w6.heap[b1]? = some (.cells [.int .i64 mm.id, .bool mm.resp, .int .i64 mm.op, .bool mm.auth, .bool mm.trunc, .bool mm.want, .bool mm.avail, .int .i64 mm.rcode, q', a2, u2, eG e2 4 0 k, .int .i64 mm.size].toArray 26 (0, 0)) := p6.this
      have m69 := p6.mv
      have oq9 := oq5.mv m69 (.inr (oq5.neBlock hb5 (by decide)))
      have oa9 := oa5.mv m69 (.inr (oa5.neBlock hb5 (by decide)))
      have ou9 := ou5.mv m69 (.inr (ou5.neBlock hb5 (by decide)))
      have oe9 := oc5.mv m69 (.inr (oc5.neBlock hb5 (by decide)))
      have hz9 := m69.at hz5 (by intro e9; exact hbb (Option.some.inj e9).symm)
      have x9 : Ext w w6 := x05.move m69 (by rintro k ⟨⟩; omega)
      have hex : (aR mm.ex).take k = aR (eN m k).ex := by
       rw [hmm]
       simp only [eN, aR, ← List.map_take, List.take_take]
       rw [show min k (k + 1) = k by omega]
      rw [hex] at oe9
      (repeat' first | ((with_reducible refine aJ ?_); go_step) | ((with_reducible refine aH ?_); first | refine aW ?_ | (refine aK ?_ ?_ <;> intro hc)) | fail)
      go_step3
      (try simp only [Exit.inBlock, Exit.then, Exit.jump])
      refine ⟨rfl, ⟨false, k, eN m k, q', a2, u2, eG e2 4 0 k, _, _, _, _, _, _, _, _, _, _, _, _, _, _, _, _, _, _, _, _, _, _, _, _, _, _, _, _, _, _, _, _, _, _, _, _, _, _, _, _, _, _, _, _, _, _, _, _, _, _, _, _, _, _, _, _, _, _, _, _, _, _, _, _, _, _, rfl, ⟨?_, hz9, x9, ?_, ?_, ?_, oe9, hI.len, .inl ⟨rfl, by omega, rfl, hEn⟩⟩⟩, ?_⟩
      ·rw [hb6, hmm]; rfl
      ·rw [hmm] at oq9; exact oq9
      ·rw [hmm] at oa9; exact oa9
      ·rw [hmm] at ou9; exact ou9
      ·rw [CE rfl hI.blk1, yL rfl hb6 rfl]
       show 1 + BX (eG e2 4 0 k) < _
       rw [hse.slLen, oe9.sl.slLen, bD, bD]
       have : (eN m k).ex.length = k := by show (m.ex.take k).length = k; rw [List.length_take]; omega
       omega)
 ·intro hp
  (repeat' first | ((with_reducible refine aJ ?_); go_step) | ((with_reducible refine aH ?_); first | refine aW ?_ | (refine aK ?_ ?_ <;> intro hc)) | fail)
  refine aE (enters_of Tryz.func21 rfl rfl) rfl rfl (vU m q a u e _ hm2) ?_; intro w3 x3; refine aA ?_
  have x03 := x02.trans x3
  have hz3 := x3.at hz2
  have hb3 := x3.at hb2
  have hpM := hpM.ext x3
  have hm3 := hm2.ext x3
  by_cases cc : cL m = 0 ∧ 1 ≤ limit ∧ limit ≤ 65535
  ·have hok := nK cc.1
   have hRE := hF cc
   obtain ⟨c1, c2, c3⟩ := cc
   have hql := hok.ql
   have hnl := hok.nl
   have hul := hok.ul
   have hel := hok.el
   (repeat' first | ((with_reducible refine aJ ?_); go_step) | ((with_reducible refine aH ?_); first | refine aW ?_ | (refine aK ?_ ?_ <;> intro hc)) | fail)
   all_goals first
    | (have hh : False := by omega
       exact hh.elim)
    | (have hh : False := by
        have h9 := ‹(!decide (cL m = 0)) = true›
        rw [decide_eq_true c1] at h9
        cases h9
       exact hh.elim)
    | skip
   refine cA 5 (Ext w3) (by decide +kernel) ?_
   intro w21 x21 _
   refine ⟨x21, ?_⟩
   refine dF 0 ?_; refine dF 1 ?_; refine dF 3 ?_; refine dF 4 ?_
   refine bJ (i := 2) (by decide +kernel) rfl rfl ?_
   refine aT (enters_of Tryz.func62 rfl rfl) rfl rfl (CD q m.qs _ (hm3.qs.ext x21) (by omega)) ?_
   intro qv w22 x22 oqv
   refine aA ?_
   refine aL ⟨bY (x21.trans x22), ?_⟩
   refine HV 6 ?_
   refine bJ (i := 5) (by decide +kernel) rfl rfl ?_
   refine aT (enters_of Tryz.func67 rfl rfl) rfl rfl (qI a m.an _ (hm3.an.ext (x21.trans x22)) (by omega)) ?_
   intro av w23 x23 oav
   refine aA ?_
   have y21 := (x21.trans x22).trans x23
   have hB21 := y21.at hb3
   refine aL ⟨bZ rfl, ?_⟩
   refine bJ (i := 7) (by decide +kernel) rfl rfl ?_
   refine aO (n := 8) (v := qv) hB21 rfl rfl rfl (by simp [aV]) (by decide +kernel) oqv.one ?_
   intro w24 p24
   have hB24 : w24.heap[b1]? = some (.cells [.int .i64 m.id, .bool m.resp, .int .i64 m.op, .bool m.auth, .bool m.trunc, .bool m.want, .bool m.avail, .int .i64 m.rcode, qv, a, u, e, .int .i64 m.size].toArray 26 (0, 0)) := p24.this
   refine aL ⟨bZ rfl, ?_⟩
   refine HV 8 ?_
   refine bJ (i := 9) (by decide +kernel) rfl rfl ?_
   refine aO (n := 9) (v := av) hB24 rfl rfl rfl (by simp) (by decide +kernel) oav.one ?_
   intro w25 p25
   have hB25 : w25.heap[b1]? = some (.cells [.int .i64 m.id, .bool m.resp, .int .i64 m.op, .bool m.auth, .bool m.trunc, .bool m.want, .bool m.avail, .int .i64 m.rcode, qv, av, u, e, .int .i64 m.size].toArray 26 (0, 0)) := p25.this
   refine aL ⟨bZ rfl, ?_⟩
   refine cV (by decide +kernel) ?_
   have mv21 := p24.mv.trans p25.mv
   have x025 : Ext w w25 := (x03.trans y21).move mv21 (by rintro k ⟨⟩; omega)
   have oq25 := (oqv.ext x23).mv mv21 (.inr ((oqv.ext x23).neBlock hB21 (by decide)))
   have oa25 := oav.mv mv21 (.inr (oav.neBlock hB21 (by decide)))
   have hp25 := aD (cs := [.int .i64 m.id, .bool m.resp, .int .i64 m.op, .bool m.auth, .bool m.trunc, .bool m.want, .bool m.avail, .int .i64 m.rcode, qv, av, u, e, .int .i64 m.size]) hB25
   have hz25 := mv21.at (y21.at hz3) (by intro e9; exact hbb (Option.some.inj e9).symm)
   have hmu := hm.au.ext x025
   have hme := hm.ex.ext x025
   clear hpM
   (repeat' first | ((with_reducible refine aJ ?_); go_step) | ((with_reducible refine aH ?_); first | refine aW ?_ | (refine aK ?_ ?_ <;> intro hc)) | fail)
   refine cA 5 (Ext w25) (by decide +kernel) ?_
   intro w31 x31 _
   refine ⟨x31, ?_⟩
   refine dF 0 ?_; refine dF 1 ?_; refine dF 3 ?_; refine dF 4 ?_
   refine bJ (i := 2) (by decide +kernel) rfl rfl ?_
   refine aT (enters_of Tryz.func67 rfl rfl) rfl rfl (qI u m.au _ (hmu.ext x31) (by omega)) ?_
   intro uv w32 x32 ouv
   refine aA ?_
   refine aL ⟨bY (x31.trans x32), ?_⟩
   refine HV 6 ?_
   refine bJ (i := 5) (by decide +kernel) rfl rfl ?_
   refine aT (enters_of Tryz.func67 rfl rfl) rfl rfl (qI e m.ex _ (hme.ext (x31.trans x32)) (by omega)) ?_
   intro ev w33 x33 oev
   refine aA ?_
   have y31 := (x31.trans x32).trans x33
   have hB31 := y31.at hB25
   refine aL ⟨bZ rfl, ?_⟩
   refine bJ (i := 7) (by decide +kernel) rfl rfl ?_
   refine aO (n := 10) (v := uv) hB31 rfl rfl rfl (by simp [aV]) (by decide +kernel) ouv.one ?_
   intro w34 p34
   have hB34 : w34.heap[b1]? = some (.cells [.int .i64 m.id, .bool m.resp, .int .i64 m.op, .bool m.auth, .bool m.trunc, .bool m.want, .bool m.avail, .int .i64 m.rcode, qv, av, uv, e, .int .i64 m.size].toArray 26 (0, 0)) := p34.this
   refine aL ⟨bZ rfl, ?_⟩
   refine HV 8 ?_
   refine bJ (i := 9) (by decide +kernel) rfl rfl ?_
   refine aO (n := 11) (v := ev) hB34 rfl rfl rfl (by simp) (by decide +kernel) oev.one ?_
   intro w35 p35
   have hB35 : w35.heap[b1]? = some (.cells [.int .i64 m.id, .bool m.resp, .int .i64 m.op, .bool m.auth, .bool m.trunc, .bool m.want, .bool m.avail, .int .i64 m.rcode, qv, av, uv, ev, .int .i64 m.size].toArray 26 (0, 0)) := p35.this
   refine aL ⟨bZ rfl, ?_⟩
   refine cV (by decide +kernel) ?_
   have mv31 := p34.mv.trans p35.mv
   have x035 : Ext w w35 := (x025.trans y31).move mv31 (by rintro k ⟨⟩; omega)
   have oq35 := (oq25.ext y31).mv mv31 (.inr ((oq25.ext y31).neBlock hB31 (by decide)))
   have oa35 := (oa25.ext y31).mv mv31 (.inr ((oa25.ext y31).neBlock hB31 (by decide)))
   have ou35 := (ouv.ext x33).mv mv31 (.inr ((ouv.ext x33).neBlock hB31 (by decide)))
   have oe35 := oev.mv mv31 (.inr (oev.neBlock hB31 (by decide)))
   have hz35 := mv31.at (y31.at hz25) (by intro e9; exact hbb (Option.some.inj e9).symm)
   have hk3 : B ≤ w3.heap.size := by have := x3.size; omega
   have hk21 : B ≤ w21.heap.size := by have := x21.size; omega
   have hk22 : B ≤ w22.heap.size := by have := x22.size; omega
   have hk25 : B ≤ w25.heap.size := by have := x23.size; have := mv21.size; omega
   have hk31 : B ≤ w31.heap.size := by have := x31.size; omega
   have hk32 : B ≤ w32.heap.size := by have := x32.size; omega
   have hwm : eN m m.ex.length = m := by unfold eN; rw [List.take_length]
   (repeat' first | ((with_reducible refine aJ ?_); go_step) | ((with_reducible refine aH ?_); first | refine aW ?_ | (refine aK ?_ ?_ <;> intro hc)) | fail)
   go_step3
   (first | ((with_reducible refine aJ ?_); go_step) | fail)
   (first | ((with_reducible refine aJ ?_); go_step) | fail)
   refine hp _ _ ?_
   refine ⟨false, m.ex.length, m, qv, av, uv, ev, _, _, _, _, _, _, _, _, _, _, _, _, _, _, _, _, _, _, _, _, _, _, _, _, _, _, _, _, _, _, _, _, _, _, _, _, _, _, _, _, _, _, _, _, _, _, _, _, _, _, _, _, _, _, _, _, _, _, _, _, _, _, _, _, _, _, rfl, hB35, hz35, x035, oq35.weaken hk21, oa35.weaken hk22, ou35.weaken hk31, oe35.weaken hk32, by omega, .inl ⟨rfl, Nat.le_refl _, hwm.symm, hRE⟩⟩
  ·have hRE := hF2 cc
   (repeat' first | ((with_reducible refine aJ ?_); go_step) | ((with_reducible refine aH ?_); first | refine aW ?_ | (refine aK ?_ ?_ <;> intro hc)) | fail)
   all_goals first
    | (have hh : False := by omega
       exact hh.elim)
    | (have hh : False := by
        have h9 := ‹(!decide (cL m = 0)) = false›
        simp only [Bool.not_eq_false', decide_eq_true_eq] at h9
        omega
       exact hh.elim)
    | skip
   all_goals (
    refine aM (v := .agg fM.toArray) (Runs.build0 (by kernel_rfl)) ?_
    refine aA ?_
    refine aG (v := .agg fM.toArray) rfl rfl rfl hz3 (show aZ Tryz.prog 26 13 = true by decide +kernel) rfl (by decide +kernel) ?_
    intro w6 p6
    have x6 : Ext w w6 := x03.move p6.mv (by rintro k ⟨⟩; omega)
    (repeat' first | ((with_reducible refine aJ ?_); go_step) | ((with_reducible refine aH ?_); first | refine aW ?_ | (refine aK ?_ ?_ <;> intro hc)) | fail)
    (try simp only [Exit.inBlock, Exit.then, Exit.jump])
    refine bodyPost_ret (jQ (cs := fM) rfl rfl p6.this (by decide +kernel)) rfl ⟨_, rfl, x6, ?_⟩
    rw [hRE]
    exact ⟨_, _, _, _, rfl, MsgV.zero _⟩)
end Go.Proofs.X
