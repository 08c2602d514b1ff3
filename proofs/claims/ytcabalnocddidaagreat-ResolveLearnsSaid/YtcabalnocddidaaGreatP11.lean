/- Laws and walks that the proof of the statement is made of (part 11). -/
import Derived.Test.YtcabalnocddidaaGreatRows
import Derived.Test.YtcabalnocddidaaGreatP10
set_option linter.unusedSimpArgs false
set_option linter.unusedVariables false
namespace Go.Proofs.X
open Go.RowKit
set_option maxRecDepth 100000
abbrev lL := Bool × MsgR
def AB (s : lL) (q a u e : Value) : List Value := .bool s.1 :: cY s.2 q a u e
structure RopsAt (w : World) (v : Value) (l : List lL) : Prop where
 out : ∃ css, Sl 14 w v css ∧ css.length = l.length ∧ ∀ (i : Nat) (s : lL), l[i]? = some s → ∃ q a u e, css[i]? = some (AB s q a u e) ∧ MsgV w s.2 q a u e
theorem RopsAt.ext {w w' : World} {v : Value} {l : List lL} (h : RopsAt w v l) (hx : Ext w w') : RopsAt w' v l := by
 obtain ⟨css, h1, h2, h3⟩ := h
 exact ⟨css, h1.ext hx, h2, fun i s hi => let ⟨q, a, u, e, h4, h5⟩ := h3 i s hi; ⟨q, a, u, e, h4, h5.ext hx⟩⟩
def gX (qn : List UInt8) (qt : Int) (rv : Value) (budget : Int) (lv : Value) : List Value := [aF qn, .int .i64 qt, rv, .int .i64 budget, lv]
def qZ (qn : List UInt8) (roots : List Int) (l : List lL) : Bool := decide (qn.length ≤ 300) && decide (roots.length ≤ 30) && decide (l.length ≤ 20) && l.all (fun s => mO s.2)
set_option maxHeartbeats 2000000 in
theorem AC (qn : List UInt8) (qt : Int) (rv : Value) (roots : List Int) (budget : Int) (lv : Value) (l : List lL) (w : World) (hr : Sl 1 w rv (aY roots)) (hl : RopsAt w lv l) : Calls Tryz.prog 23 #[.agg (gX qn qt rv budget lv).toArray] w (bS w (.bool (qZ qn roots l))) := by
 have hrl : (aY roots).length = roots.length := List.length_map ..
 have hrle := hr.le
 obtain ⟨css, h1, h2, h3⟩ := hl
 have hcle := h1.le
 go_enter Tryz.func23, Tryz.ntmps23
 repeat' (first | ((with_reducible refine aJ ?_); go_step) | fail)
 refine cW (vs := gX qn qt rv budget lv) rfl rfl ?_
 intro w1 x1 s1 hb1
 refine aA ?_
 have hp := aC (cs := gX qn qt rv budget lv) hb1
 have hr1 := hr.ext x1
 have h11 := h1.ext x1
 by_cases c1 : qn.length ≤ 300
 ·by_cases c2 : roots.length ≤ 30
  ·by_cases c3 : l.length ≤ 20
   ·have hE : qZ qn roots l = l.all (fun s => mO s.2) := by rw [qZ, decide_eq_true c1, decide_eq_true c2, decide_eq_true c3]; rfl
    (repeat' first | ((with_reducible refine aJ ?_); go_step) | ((with_reducible refine aG ?_); first | refine aL ?_ | (refine aK ?_ ?_ <;> intro hc)) | fail)
    all_goals first
     | (exfalso; omega)
     | skip
    go_loopw [3] (fun i wr => ∃ k : Nat, k ≤ l.length ∧ i = .int .i64 k ∧ Ext w1 wr ∧ (l.take k).all (fun s => mO s.2) = true) (fun i _ => l.length - (intOf i).toNat)
    case atStart => exact ⟨0, Nat.zero_le _, rfl, Ext.refl _, rfl⟩
    case round =>
     obtain ⟨k, hk, rfl, hx, hall⟩ := hrel
     have hp2 := hp.ext hx
     have h12 := h11.ext hx
     by_cases hlt : k < l.length
     ·obtain ⟨q, a, u, e, hcs, hm⟩ := h3 k l[k] (List.getElem?_eq_getElem hlt)
      have hpe := h12.elem hcs
      have hpm : Pts wr (aW (cO lv (k * 14)) 1) (cY l[k].2 q a u e) := hpe.part 1
      (repeat' first | ((with_reducible refine aJ ?_); go_step) | ((with_reducible refine aG ?_); first | refine aL ?_ | (refine aK ?_ ?_ <;> intro hc)) | fail)
      refine bB (v := .agg (cY l[k].2 q a u e).toArray) (Runs.loadN hpm rfl (show bH Tryz.prog 25 13 = true by decide +kernel)) ?_
      refine aA ?_
      refine aB (enters_of Tryz.func14 rfl rfl) rfl rfl (BK l[k].2 q a u e _ (hm.ext (x1.trans hx))) ?_; intro w4 x4; refine aA ?_
      cases hf : mO l[k].2 with
      | false =>
       (repeat' first | ((with_reducible refine aJ ?_); go_step) | ((with_reducible refine aG ?_); first | refine aL ?_ | (refine aK ?_ ?_ <;> intro hc)) | fail)
       go_ret
       exact ⟨by rw [hE, nY hlt (p := fun s => mO s.2) hf]; rfl, x1.trans (hx.trans x4)⟩
      | true =>
       (repeat' first | ((with_reducible refine aJ ?_); go_step) | ((with_reducible refine aG ?_); first | refine aL ?_ | (refine aK ?_ ?_ <;> intro hc)) | fail)
       exact ⟨⟨k + 1, by omega, by go_num, hx.trans x4, iB hlt hall hf⟩, by simp [intOf]; omega⟩
     ·have : k = l.length := by omega
      subst this
      rw [List.take_length] at hall
      (repeat' first | ((with_reducible refine aJ ?_); go_step) | ((with_reducible refine aG ?_); first | refine aL ?_ | (refine aK ?_ ?_ <;> intro hc)) | fail)
      go_ret
      exact ⟨by rw [hE, hall]; rfl, x1.trans hx⟩
   ·(repeat' first | ((with_reducible refine aJ ?_); go_step) | ((with_reducible refine aG ?_); first | refine aL ?_ | (refine aK ?_ ?_ <;> intro hc)) | fail)
    all_goals first
     | (exfalso; omega)
     | skip
    go_ret
    exact ⟨by rw [qZ, decide_eq_false c3, Bool.and_false]; rfl, x1⟩
  ·(repeat' first | ((with_reducible refine aJ ?_); go_step) | ((with_reducible refine aG ?_); first | refine aL ?_ | (refine aK ?_ ?_ <;> intro hc)) | fail)
   all_goals first
    | (exfalso; omega)
    | skip
   go_ret
   exact ⟨by rw [qZ, decide_eq_false c2, Bool.and_false]; rfl, x1⟩
 ·(repeat' first | ((with_reducible refine aJ ?_); go_step) | ((with_reducible refine aG ?_); first | refine aL ?_ | (refine aK ?_ ?_ <;> intro hc)) | fail)
  all_goals first
   | (exfalso; omega)
   | skip
  go_ret
  exact ⟨by rw [qZ, decide_eq_false c1]; rfl, x1⟩
open Go.ChangeShapes Go.WideShapes Go.ChangeAt Go.RowKit
theorem wI {H : Type} {enc : TypeId × Value → H} {w : World} {base : Nat} {spare : Nat → Bool} {held : Bool} {fuel : Nat} {v : Value} {x : DataW H × List MemPlace} (h : DataW.trod enc Tryz.prog w base spare held fuel 45 [v] = some x) : ∃ l : List Int, Sl 1 w v (aY l) := by
 obtain ⟨es, hs, he⟩ := iH Tryz.underlying45 (show Tryz.prog.cellsOf 3 = 1 by kernel_rfl) (by omega) h
 obtain ⟨l, rfl⟩ : ∃ l : List Int, es = l.map fun n => [.int .i64 n] := by
  refine jZ fun c hc => ?_
  obtain ⟨n, y, hy⟩ := he c hc
  have hl : c.length = 1 := by
   obtain ⟨_, _, _, _, _, h4, _, _⟩ := hs
   exact h4 c hc
  match c, hl with
  | [a], _ =>
   obtain ⟨n0, rfl, _⟩ := dF Tryz.underlying3 hy
   exact ⟨n0, rfl⟩
 exact ⟨l, hs⟩
theorem yL {H : Type} {enc : TypeId × Value → H} {w : World} {base : Nat} {spare : Nat → Bool} {held : Bool} {fuel : Nat} {cl : List Value} {x : DataW H × List MemPlace} (h : DataW.trod enc Tryz.prog w base spare held fuel 54 cl = some x) : ∃ (s : lL) (q a u e : Value), cl = AB s q a u e ∧ MsgV w s.2 q a u e := by
 obtain ⟨xs, n', _, _, hl, hxl, hf⟩ := DataW.trod_struct Tryz.underlying54 h
 have c4 : Tryz.prog.cellsOf 4 = 1 := by kernel_rfl
 have c7 : Tryz.prog.cellsOf 25 = 13 := by kernel_rfl
 have c8 : Tryz.prog.cellsOf 54 = 14 := by kernel_rfl
 rw [c8] at hl
 match cl, hl, xs, hxl with
 | [b0, a0, a1, a2, a3, a4, a5, a6, a7, a8, a9, a10, a11, a12], _, [y0, y1], _ =>
  have g0 := hf 0 _ rfl
  have g1 := hf 1 _ rfl
  simp [c4, c7] at g0 g1
  obtain ⟨n0, rfl⟩ := eR Tryz.underlying4 g0
  obtain ⟨m, q, a, u, e', em, hm⟩ := xX g1
  exact ⟨(n0, m), q, a, u, e', by rw [AB, ← em], hm⟩
theorem wJ {H : Type} {enc : TypeId × Value → H} {w : World} {base : Nat} {spare : Nat → Bool} {held : Bool} {fuel : Nat} {v : Value} {x : DataW H × List MemPlace} (h : DataW.trod enc Tryz.prog w base spare held fuel 46 [v] = some x) : ∃ l : List lL, RopsAt w v l := by
 obtain ⟨es, hs, he⟩ := iH Tryz.underlying46 (show Tryz.prog.cellsOf 54 = 14 by kernel_rfl) (by omega) h
 obtain ⟨l, rfl⟩ : ∃ l : List {p : lL × Value × Value × Value × Value // MsgV w p.1.2 p.2.1 p.2.2.1 p.2.2.2.1 p.2.2.2.2}, es = l.map fun p => AB p.1.1 p.1.2.1 p.1.2.2.1 p.1.2.2.2.1 p.1.2.2.2.2 := by
  refine jZ fun c hc => ?_
  obtain ⟨n, y, hy⟩ := he c hc
  obtain ⟨m, q, a, u, e, rfl, hu⟩ := yL hy
  exact ⟨⟨(m, q, a, u, e), hu⟩, rfl⟩
 refine ⟨l.map fun p => p.1.1, _, hs, by simp, ?_⟩
 intro i s hi
 rw [List.getElem?_map] at hi
 obtain ⟨p, hp, rfl⟩ := Option.map_eq_some_iff.1 hi
 exact ⟨p.1.2.1, p.1.2.2.1, p.1.2.2.2.1, p.1.2.2.2.2, by rw [List.getElem?_map, hp]; rfl, p.2⟩
theorem tV {H : Type} {enc : TypeId × Value → H} {w : World} {base : Nat} {spare : Nat → Bool} {held : Bool} {fuel : Nat} {c : Array Value} {x : DataW H × List MemPlace} (h : DataW.trod enc Tryz.prog w base spare held fuel 48 (Value.agg c).cells.toList = some x) :
 ∃ (qn : List UInt8) (qt : Int) (rv : Value) (roots : List Int) (budget : Int) (lv : Value) (l : List lL), c = (gX qn qt rv budget lv).toArray ∧ Sl 1 w rv (aY roots) ∧ RopsAt w lv l := by
 have e : (Value.agg c).cells.toList = c.toList := rfl
 rw [e] at h
 obtain ⟨xs, n', _, _, hl, hxl, hf⟩ := DataW.trod_struct Tryz.underlying48 h
 have c2 : Tryz.prog.cellsOf 29 = 1 := by kernel_rfl
 have c3 : Tryz.prog.cellsOf 3 = 1 := by kernel_rfl
 have c5 : Tryz.prog.cellsOf 45 = 1 := by kernel_rfl
 have c6 : Tryz.prog.cellsOf 46 = 1 := by kernel_rfl
 have c7 : Tryz.prog.cellsOf 31 = 2 := by kernel_rfl
 have c8 : Tryz.prog.cellsOf 48 = 5 := by kernel_rfl
 rw [c8] at hl
 obtain ⟨cl⟩ := c
 match cl, hl, xs, hxl with
 | [a0, a1, b1, b2, b3], _, [y0, y1, y2, y3], _ =>
  have g0 := hf 0 _ rfl
  have g1 := hf 1 _ rfl
  have g2 := hf 2 _ rfl
  have g3 := hf 3 _ rfl
  simp [c3, c5, c6, c7] at g0 g1 g2 g3
  obtain ⟨l, hls⟩ := wI g1
  obtain ⟨n2, rfl, _⟩ := dF Tryz.underlying3 g2
  obtain ⟨ms, hms⟩ := wJ g3
  obtain ⟨xs', n'', _, _, hl', hxl', hf'⟩ := DataW.trod_struct Tryz.underlying31 g0
  match xs', hxl' with
  | [z0, z1], _ =>
   have k0 := hf' 0 _ rfl
   have k1 := hf' 1 _ rfl
   simp [c2, c3] at k0 k1
   obtain ⟨s0, rfl, _⟩ := jY Tryz.underlying29 k0
   obtain ⟨n1, rfl, _⟩ := dF Tryz.underlying3 k1
   exact ⟨s0, n1, b1, l, n2, b3, ms, rfl, hls, hms⟩
theorem BS (n : Int) (w : World) : Calls Tryz.prog 56 #[.int .i64 n] w (bS w (.bool (!(decide (0 ≤ n) && decide (n ≤ 99))))) := by
 go_enter Tryz.func56, Tryz.ntmps56
 (repeat' first | ((with_reducible refine aJ ?_); go_step) | ((with_reducible refine aG ?_); first | refine aL ?_ | (refine aK ?_ ?_ <;> intro hc)) | fail)
 refine aB (enters_of Tryz.func54 rfl rfl) rfl rfl (AP n 0 99 _) ?_; intro w1 x1; refine aA ?_
 (repeat' first | ((with_reducible refine aJ ?_); go_step) | ((with_reducible refine aG ?_); first | refine aL ?_ | (refine aK ?_ ?_ <;> intro hc)) | fail)
 go_ret
 exact ⟨rfl, x1⟩
def AU (f : FuncId) (l : List Int) (p : Int → Bool) : Prop := ∀ n ∈ l, ∀ w', Calls Tryz.prog f #[.int .i64 n] w' (bS w' (.bool (p n)))
set_option maxHeartbeats 1000000 in
theorem rA (v : Value) (l : List Int) (f : FuncId) (p : Int → Bool) (w : World) (hv : Sl 1 w v (aY l)) (he : Enters Tryz.prog f) (hf : AU f l p) : Calls Tryz.prog 105 #[v, .func (.func f) #[] #[]] w (bS w (.int .i64 (oT p l))) := by
 have hle := hv.le
 have hlen : (aY l).length = l.length := List.length_map ..
 go_enter Tryz.func105, Tryz.ntmps105
 (repeat' first | ((with_reducible refine aJ ?_); go_step) | ((with_reducible refine aG ?_); first | refine aL ?_ | (refine aK ?_ ?_ <;> intro hc)) | fail)
 go_loopw [5, 8] (fun _ i wr => ∃ k : Nat, k ≤ l.length ∧ i = .int .i64 k ∧ Ext w wr ∧ (l.take k).any p = false) (fun _ i _ => l.length - (intOf i).toNat)
 case atStart => exact ⟨0, Nat.zero_le _, rfl, Ext.refl _, rfl⟩
 case round =>
  obtain ⟨k, hk, rfl, hx, hall⟩ := hrel
  have hv2 := hv.ext hx
  by_cases hlt : k < l.length
  ·have hpe := hv2.elem (vQ hlt)
   (repeat' first | ((with_reducible refine aJ ?_); go_step) | ((with_reducible refine aG ?_); first | refine aL ?_ | (refine aK ?_ ?_ <;> intro hc)) | fail)
   refine cS he rfl rfl rfl (hf _ (List.getElem_mem hlt) _) ?_
   rintro e w2 ⟨rfl, x2⟩
   refine ⟨_, rfl, ?_⟩
   refine aA ?_
   cases hp : p l[k] with
   | true =>
    (repeat' first | ((with_reducible refine aJ ?_); go_step) | ((with_reducible refine aG ?_); first | refine aL ?_ | (refine aK ?_ ?_ <;> intro hc)) | fail)
    go_ret
    exact ⟨by rw [xO hlt hall hp]; rfl, hx.trans x2⟩
   | false =>
    (repeat' first | ((with_reducible refine aJ ?_); go_step) | ((with_reducible refine aG ?_); first | refine aL ?_ | (refine aK ?_ ?_ <;> intro hc)) | fail)
    exact ⟨⟨k + 1, by omega, by go_num, hx.trans x2, rV hlt hall hp⟩, by simp [intOf]; omega⟩
  ·have : k = l.length := by omega
   subst this
   rw [List.take_length] at hall
   (repeat' first | ((with_reducible refine aJ ?_); go_step) | ((with_reducible refine aG ?_); first | refine aL ?_ | (refine aK ?_ ?_ <;> intro hc)) | fail)
   go_ret
   exact ⟨by rw [xP hall]; rfl, hx⟩
theorem mQ (v : Value) (l : List Int) (f : FuncId) (p : Int → Bool) (w : World) (hv : Sl 1 w v (aY l)) (he : Enters Tryz.prog f) (hf : AU f l p) : Calls Tryz.prog 55 #[v, .func (.func f) #[] #[]] w (bS w (.bool (l.any p))) := by
 go_enter Tryz.func55, Tryz.ntmps55
 (repeat' first | ((with_reducible refine aJ ?_); go_step) | ((with_reducible refine aG ?_); first | refine aL ?_ | (refine aK ?_ ?_ <;> intro hc)) | fail)
 refine aB (enters_of Tryz.func105 rfl rfl) rfl rfl (rA v l f p _ hv he hf) ?_; intro w1 x1; refine aA ?_
 (repeat' first | ((with_reducible refine aJ ?_); go_step) | ((with_reducible refine aG ?_); first | refine aL ?_ | (refine aK ?_ ?_ <;> intro hc)) | fail)
 go_ret
 exact ⟨by rw [← zK]; rfl, x1⟩
set_option maxHeartbeats 1000000 in
theorem yM (v : Value) (l : List Int) (w : World) (hv : Sl 1 w v (aY l)) (hl : l.length ≤ 1000000) : Calls Tryz.prog 58 #[v] w (uT w fun v' w' => Own w.heap.size 1 3 w' v' (aY l)) := by
 have hlen : (aY l).length = l.length := List.length_map ..
 go_enter Tryz.func58, Tryz.ntmps58
 (repeat' first | ((with_reducible refine aJ ?_); go_step) | ((with_reducible refine aG ?_); first | refine aL ?_ | (refine aK ?_ ?_ <;> intro hc)) | fail)
 ·have hn := ‹uC v = true›
  go_ret
  have : aY l = [] := hv.isNil hn
  refine ⟨_, rfl, Ext.refl _, ?_⟩
  rw [this]
  exact Own.nil _ _ _ _
 ·refine nF (t := 45) (e := 3) (k := 1) (bytes := 8) (by decide +kernel) rfl ?_
  intro v2 w2 x2 s2 o2
  refine aA ?_
  (repeat' first | ((with_reducible refine aJ ?_); go_step) | ((with_reducible refine aG ?_); first | refine aL ?_ | (refine aK ?_ ?_ <;> intro hc)) | fail)
  refine jA (B := w.heap.size) (e := 3) (k := 1) (bytes := 8) (es := []) (fs := aY l) rfl o2 rfl (hv.ext x2) (by decide +kernel) (by intro f hf u hu; obtain ⟨r, _, rfl⟩ := List.mem_map.1 hf; simp only [List.mem_cons, List.not_mem_nil, or_false] at hu; rcases hu with rfl; rfl) (by omega) (by simp; omega) (by simp; omega) ?_
  intro v3 w3 o3 m3
  have x3 := o2.mvx m3 x2 (Nat.le_refl _)
  refine aA ?_
  (repeat' first | ((with_reducible refine aJ ?_); go_step) | ((with_reducible refine aG ?_); first | refine aL ?_ | (refine aK ?_ ?_ <;> intro hc)) | fail)
  go_ret
  exact ⟨_, rfl, x3, o3⟩
section
variable {P : Program} {w : World} {ts : List Value} {df : List Deferred}
theorem dP {fn : Func} {q p r : Tmp} {t : TypeId} (h : fn.results = #[.tmp q, .cell p t, .tmp r]) {b : Nat} {cs : List Value} {ty0 : TypeId} {fr : Nat × Nat} (hp : ts.getD p undef = .pointer (some ⟨b, 0, none⟩)) (hb : w.heap[b]? = some (.cells cs.toArray ty0 fr)) (ht : bH P t cs.length = true) :
 (results fn ts.toArray).run P w = .ok (.tuple #[ts.getD q undef, .agg cs.toArray, ts.getD r undef]) w := by
 obtain ⟨u, ie, hu, hn, hie, hz⟩ := gG ht
 have hl := run_loadCells_list (P := P) w ⟨b, 0, none⟩ cs (fun j v hv => by rw [cB, Nat.zero_add, cell_of_row w b j _ _ _ hb]; simpa using hv)
 have hp' : ts[p]?.getD undef = .pointer (some ⟨b, 0, none⟩) := by simpa using hp
 simp [results, h, hp', asAddr, loadVar, Sem.run_bind, fS hu hn, sizeOf, typeInfo, hie, hz, hl, Result.andThen]
end
theorem wK {n a b : Int} {w : World} {c : Bool} (h : (decide (a ≤ n) && decide (n ≤ b)) = c) : Calls Tryz.prog 54 #[.int .i64 n, .int .i64 a, .int .i64 b] w (bS w (.bool c)) := h ▸ AP n a b w
def fQ (w : World) (qn : List UInt8) (qt : Int) (rl : List Int) (budget : Int) (r : Value) (w' : World) : Prop :=
 if dJ qn qt rl budget = 0 then ∃ b u, r = .tuple #[.pointer (some ⟨b, 0, none⟩), u, .int .i64 0] ∧ ActRet w b (dL qn qt rl budget).on u w'
 else r = .tuple #[.pointer none, .agg bU.toArray, .int .i64 1]
set_option maxHeartbeats 2000000 in
theorem yN (qn : List UInt8) (qt : Int) (v : Value) (rl : List Int) (budget : Int) (w : World) (hv : Sl 1 w v (aY rl)) (hl : rl.length ≤ 1000000) : Calls Tryz.prog 24 #[.agg #[aF qn, .int .i64 qt], v, .int .i64 budget] w (uT w (fQ w qn qt rl budget)) := by
 have hle := hv.le
 have hlen : (aY rl).length = rl.length := List.length_map ..
 go_enter Tryz.func24, Tryz.ntmps24
 repeat' (first | ((with_reducible refine aJ ?_); go_step) | fail)
 refine dB (vs := [aF qn, .int .i64 qt]) rfl rfl ?_
 intro pq w1 x1 hq
 refine aA ?_
 have hv1 := hv.ext x1
 (repeat' first | ((with_reducible refine aJ ?_); go_step) | ((with_reducible refine aG ?_); first | refine aL ?_ | (refine aK ?_ ?_ <;> intro hc)) | fail)
 refine aH (z := bU) rfl (by decide +kernel) ?_
 intro w2 x2 s2 h2
 refine aA ?_
 have hq2 := hq.ext x2
 (repeat' first | ((with_reducible refine aJ ?_); go_step) | ((with_reducible refine aG ?_); first | refine aL ?_ | (refine aK ?_ ?_ <;> intro hc)) | fail)
 have h27 := fun w => DG qn w
 by_cases c1 : fO qn = 0
 ·have e1 : (aU qn).isSome = true := by
   unfold fO at c1
   split at c1
   ·assumption
   ·cases c1
  rw [e1, if_pos rfl] at h27
  refine aB (enters_of Tryz.func53 rfl rfl) rfl rfl (h27 _) ?_; intro w3 x3; refine aA ?_
  have hq3 := hq2.ext x3
  by_cases c2 : 1 ≤ qt ∧ qt ≤ 65535
  ·(repeat' first | ((with_reducible refine aJ ?_); go_step) | ((with_reducible refine aG ?_); first | refine aL ?_ | (refine aK ?_ ?_ <;> intro hc)) | fail)
   refine aB (enters_of Tryz.func54 rfl rfl) rfl rfl (wK (c := true) (by rw [decide_eq_true c2.1, decide_eq_true c2.2]; rfl)) ?_; intro w4 x4; refine aA ?_
   by_cases c3 : 1 ≤ rl.length ∧ rl.length ≤ 20
   ·(repeat' first | ((with_reducible refine aJ ?_); go_step) | ((with_reducible refine aG ?_); first | refine aL ?_ | (refine aK ?_ ?_ <;> intro hc)) | fail)
    refine aB (enters_of Tryz.func54 rfl rfl) rfl rfl (wK (c := true) (by rw [hlen, decide_eq_true (by omega), decide_eq_true (by omega)]; rfl)) ?_; intro w5 x5; refine aA ?_
    by_cases c4 : 1 ≤ budget ∧ budget ≤ 100
    ·(repeat' first | ((with_reducible refine aJ ?_); go_step) | ((with_reducible refine aG ?_); first | refine aL ?_ | (refine aK ?_ ?_ <;> intro hc)) | fail)
     refine aB (enters_of Tryz.func54 rfl rfl) rfl rfl (wK (c := true) (by rw [decide_eq_true c4.1, decide_eq_true c4.2]; rfl)) ?_; intro w6 x6; refine aA ?_
     (repeat' first | ((with_reducible refine aJ ?_); go_step) | ((with_reducible refine aG ?_); first | refine aL ?_ | (refine aK ?_ ?_ <;> intro hc)) | fail)
     have hv6 := (((((hv1.ext x2).ext x3).ext x4).ext x5).ext x6)
     have hq6 := (((hq3.ext x4).ext x5).ext x6)
     have hx6 := x1.trans (x2.trans (x3.trans (x4.trans (x5.trans x6))))
     have h26 := ((((x3.trans x4).trans x5).trans x6)).at h2
     have hCF := fun w9 (h9 : Sl 1 w9 v (aY rl)) => mQ v rl 56 (fun n => !(decide (0 ≤ n) && decide (n ≤ 99))) w9 h9 (enters_of Tryz.func56 rfl rfl) (fun n _ w' => BS n w')
     cases c5 : rl.any (fun n => !(decide (0 ≤ n) && decide (n ≤ 99))) with
     | true =>
      have hE : ¬ dJ qn qt rl budget = 0 := by
       unfold dJ
       rw [if_neg (by rintro ⟨_, _, _, _, h⟩; rw [c5] at h; cases h)]
       decide
      simp only [c5] at hCF
      refine aB (enters_of Tryz.func55 rfl rfl) rfl rfl (hCF _ hv6) ?_; intro w7 x7; refine aA ?_
      have h27' := x7.at h26
      (repeat' first | ((with_reducible refine aJ ?_); go_step) | ((with_reducible refine aG ?_); first | refine aL ?_ | (refine aK ?_ ?_ <;> intro hc)) | fail)
      refine bW (v := .agg bU.toArray) rfl (Runs.build0 (by kernel_rfl)) ?_
      refine aA ?_
      (repeat' first | ((with_reducible refine aJ ?_); go_step) | ((with_reducible refine aG ?_); first | refine aL ?_ | (refine aK ?_ ?_ <;> intro hc)) | fail)
      refine aD (v := .agg bU.toArray) rfl rfl rfl h27' (show aP Tryz.prog 33 7 = true by decide +kernel) rfl (by decide +kernel) ?_
      intro w8 p8
      have hx8 : Ext w w8 := (hx6.trans x7).move p8.mv (by rintro k ⟨⟩; exact x1.size)
      (repeat' first | ((with_reducible refine aJ ?_); go_step) | ((with_reducible refine aG ?_); first | refine aL ?_ | (refine aK ?_ ?_ <;> intro hc)) | fail)
      refine bodyPost_ret (dP (cs := bU) rfl rfl p8.this (show bH Tryz.prog 33 7 = true by decide +kernel)) rfl ⟨_, rfl, hx8, ?_⟩
      rw [fQ, if_neg hE]
      rfl
     | false =>
      have hE : dJ qn qt rl budget = 0 := by
       unfold dJ
       exact if_pos ⟨c1, c2, c3, c4, c5⟩
      simp only [c5] at hCF
      refine aB (enters_of Tryz.func55 rfl rfl) rfl rfl (hCF _ hv6) ?_; intro w7 x7; refine aA ?_
      have h27' := x7.at h26
      have hq7 := hq6.ext x7
      have hv7 := hv6.ext x7
      (repeat' first | ((with_reducible refine aJ ?_); go_step) | ((with_reducible refine aG ?_); first | refine aL ?_ | (refine aK ?_ ?_ <;> intro hc)) | fail)
      refine cN (S := fun w' => Ext w7 w') (by decide +kernel) ?_
      intro w8 x8 _
      refine fK 0 ?_; refine aA ?_; refine fK 1 ?_; refine aA ?_; refine fK 3 ?_; refine aA ?_; refine fK 4 ?_; refine aA ?_; refine fK 6 ?_; refine aA ?_; refine fK 8 ?_; refine aA ?_
      refine bR (i := 2) (by decide +kernel) rfl rfl ?_
      refine aB (enters_of Tryz.func57 rfl rfl) rfl rfl (uI qn _) ?_
      intro w9 x9
      refine aA ?_
      have x79 := x8.trans x9
      refine aQ ⟨x79, ?_⟩
      refine bI (i := 5) (v := .agg #[aF (fold qn), .int .i64 qt]) rfl rfl (by decide +kernel) (by decide +kernel) (by decide +kernel) rfl x79 (fun w' _ => Runs.build rfl (by kernel_rfl)) (fun _ _ _ h => h) ?_
      refine aA ?_
      refine bR (i := 7) (by decide +kernel) rfl rfl ?_
      refine aO (enters_of Tryz.func58 rfl rfl) rfl rfl (yM v rl _ (hv7.ext x79) hl) ?_
      intro rv w10 x10 o10
      refine aA ?_
      have x710 := x79.trans x10
      refine aQ ⟨x710, ?_⟩
      refine bI (i := 9) (v := .agg (bM ⟨fold qn, qt, rl, [], [], [], 0, budget, none⟩ rv (.slice none 0 0) (.slice none 0 0) (.pointer none)).toArray) rfl rfl (by decide +kernel) (by decide +kernel) (by decide +kernel) rfl x710 (fun w' _ => Runs.build (vals := [(0, .agg #[aF (fold qn), .int .i64 qt]), (1, rv), (6, .int .i64 budget)]) rfl (by obtain ⟨_, _, _, rfl⟩ := o10.sl.slf; kernel_rfl)) (fun _ _ _ h => h) ?_
      refine aA ?_
      refine bR (i := 10) (by decide +kernel) rfl rfl ?_
      refine cW (vs := bM ⟨fold qn, qt, rl, [], [], [], 0, budget, none⟩ rv (.slice none 0 0) (.slice none 0 0) (.pointer none)) rfl rfl ?_
      intro w11 x11 s11 h11
      refine aA ?_
      have x711 := x710.trans x11
      refine aQ ⟨x711, ?_⟩
      refine fK 11 ?_; refine aA ?_
      refine cK (by decide +kernel) ?_
      have hx11 : Ext w w11 := (hx6.trans x7).trans x711
      have hsz7 := (hx6.trans x7).size
      have hT : TaskV w w11 w10.heap.size ⟨fold qn, qt, rl, [], [], [], 0, budget, none⟩ rv (.slice none 0 0) (.slice none 0 0) (.pointer none) :=
       ⟨((hx6.trans x7).trans x710).size, hx11, h11, (o10.weaken (hx6.trans (x7.trans x79)).size).ext x11, OwnOff.nil _ _ _ _, Own.nil _ _ _ _, rfl⟩
      have hp11 := aC (cs := bM ⟨fold qn, qt, rl, [], [], [], 0, budget, none⟩ rv (.slice none 0 0) (.slice none 0 0) (.pointer none)) h11
      have h27'' := x711.at h27'
      (repeat' first | ((with_reducible refine aJ ?_); go_step) | ((with_reducible refine aG ?_); first | refine aL ?_ | (refine aK ?_ ?_ <;> intro hc)) | fail)
      refine bC (n := 4) (v := rv) hT.blk rfl rfl rfl (by simp [bM]) (by decide +kernel) o10.one ?_
      intro w12 p12
      have p12' : Put w11 w12 w10.heap.size (.cells (bM (dL qn qt rl budget) rv rv (.slice none 0 0) (.pointer none)).toArray 99 (0, 0)) := p12
      obtain ⟨k1, k2, k3, k4⟩ := hT.kept p12
      have hT12 := hT.put p12' k1 k1.off k3 k4
      clear p12' hp11
      (repeat' first | ((with_reducible refine aJ ?_); go_step) | ((with_reducible refine aG ?_); first | refine aL ?_ | (refine aK ?_ ?_ <;> intro hc)) | fail)
      refine aT (vs := [.pointer (some ⟨w10.heap.size, 0, none⟩)]) (enters_of Tryz.func50 rfl rfl) rfl rfl (yJ ⟨_, _, _, _, hT12⟩ (show 0 ≤ budget by omega) (show budget ≤ 1000000 by omega)) ?_
      rintro e w13 ⟨u, rfl, hu, hm⟩
      refine ⟨_, rfl, ?_⟩
      refine aA ?_
      have szz := (x2.trans (x3.trans (x4.trans (x5.trans (x6.trans (x7.trans x710)))))).size
      have szl := (Array.getElem?_eq_some_iff.1 h2).1
      have szm := (x3.trans (x4.trans (x5.trans (x6.trans (x7.trans x710))))).size
      have hne : some w1.heap.size ≠ some w10.heap.size := by
       intro e
       have := Option.some.inj e
       omega
      have h14 := hm.at (p12.mv.at h27'' hne) hne
      (repeat' first | ((with_reducible refine aJ ?_); go_step) | ((with_reducible refine aG ?_); first | refine aL ?_ | (refine aK ?_ ?_ <;> intro hc)) | fail)
      refine aD (v := u) rfl rfl rfl h14 (by rw [hu.1.size]; exact (show aP Tryz.prog 33 7 = true by decide +kernel)) (by rw [hu.1.size]; rfl) hu.1.one ?_
      intro w14 p14
      obtain ⟨u1, u2, rfl, q1, q2⟩ := (hu.1.put p14 h14 (by decide)).out
      obtain ⟨rv', sv', gv', ev', hTT⟩ := hu.2
      have hT14 := hTT.other p14 h14 x1.size
      (repeat' first | ((with_reducible refine aJ ?_); go_step) | ((with_reducible refine aG ?_); first | refine aL ?_ | (refine aK ?_ ?_ <;> intro hc)) | fail)
      refine bodyPost_ret (dP (cs := bL (dL qn qt rl budget).on.2 u1 u2) rfl rfl p14.this (show bH Tryz.prog 33 7 = true by decide +kernel)) rfl ⟨_, rfl, hT14.ext, ?_⟩
      rw [fQ, if_pos hE]
      exact ⟨_, _, rfl, ⟨u1, u2, rfl, q1, q2⟩, _, _, _, _, hT14⟩
    ·have hE : ¬ dJ qn qt rl budget = 0 := by
      unfold dJ
      rw [if_neg (by rintro ⟨h1, h2, h3, h4, _⟩; exact c4 h4)]
      decide
     (repeat' first | ((with_reducible refine aJ ?_); go_step) | ((with_reducible refine aG ?_); first | refine aL ?_ | (refine aK ?_ ?_ <;> intro hc)) | fail)
     refine aB (enters_of Tryz.func54 rfl rfl) rfl rfl (wK (c := false) (by simp only [Bool.and_eq_false_iff, decide_eq_false_iff_not]; omega)) ?_; intro w6 x6; refine aA ?_
     have h26 := ((((x3.trans x4).trans x5).trans x6)).at h2
     (repeat' first | ((with_reducible refine aJ ?_); go_step) | ((with_reducible refine aG ?_); first | refine aL ?_ | (refine aK ?_ ?_ <;> intro hc)) | fail)
     refine bW (v := .agg bU.toArray) rfl (Runs.build0 (by kernel_rfl)) ?_
     refine aA ?_
     (repeat' first | ((with_reducible refine aJ ?_); go_step) | ((with_reducible refine aG ?_); first | refine aL ?_ | (refine aK ?_ ?_ <;> intro hc)) | fail)
     refine aD (v := .agg bU.toArray) rfl rfl rfl h26 (show aP Tryz.prog 33 7 = true by decide +kernel) rfl (by decide +kernel) ?_
     intro w8 p8
     have hx8 : Ext w w8 := (x1.trans (x2.trans (x3.trans (x4.trans (x5.trans x6))))).move p8.mv (by rintro k ⟨⟩; exact x1.size)
     (repeat' first | ((with_reducible refine aJ ?_); go_step) | ((with_reducible refine aG ?_); first | refine aL ?_ | (refine aK ?_ ?_ <;> intro hc)) | fail)
     refine bodyPost_ret (dP (cs := bU) rfl rfl p8.this (show bH Tryz.prog 33 7 = true by decide +kernel)) rfl ⟨_, rfl, hx8, ?_⟩
     rw [fQ, if_neg hE]
     rfl
   ·have hE : ¬ dJ qn qt rl budget = 0 := by
     unfold dJ
     rw [if_neg (by rintro ⟨h1, h2, h3, h4, _⟩; exact c3 h3)]
     decide
    (repeat' first | ((with_reducible refine aJ ?_); go_step) | ((with_reducible refine aG ?_); first | refine aL ?_ | (refine aK ?_ ?_ <;> intro hc)) | fail)
    refine aB (enters_of Tryz.func54 rfl rfl) rfl rfl (wK (c := false) (by simp only [Bool.and_eq_false_iff, decide_eq_false_iff_not]; omega)) ?_; intro w5 x5; refine aA ?_
    have h26 := (((x3.trans x4).trans x5)).at h2
    (repeat' first | ((with_reducible refine aJ ?_); go_step) | ((with_reducible refine aG ?_); first | refine aL ?_ | (refine aK ?_ ?_ <;> intro hc)) | fail)
    refine bW (v := .agg bU.toArray) rfl (Runs.build0 (by kernel_rfl)) ?_
    refine aA ?_
    (repeat' first | ((with_reducible refine aJ ?_); go_step) | ((with_reducible refine aG ?_); first | refine aL ?_ | (refine aK ?_ ?_ <;> intro hc)) | fail)
    refine aD (v := .agg bU.toArray) rfl rfl rfl h26 (show aP Tryz.prog 33 7 = true by decide +kernel) rfl (by decide +kernel) ?_
    intro w8 p8
    have hx8 : Ext w w8 := (x1.trans (x2.trans (x3.trans (x4.trans x5)))).move p8.mv (by rintro k ⟨⟩; exact x1.size)
    (repeat' first | ((with_reducible refine aJ ?_); go_step) | ((with_reducible refine aG ?_); first | refine aL ?_ | (refine aK ?_ ?_ <;> intro hc)) | fail)
    refine bodyPost_ret (dP (cs := bU) rfl rfl p8.this (show bH Tryz.prog 33 7 = true by decide +kernel)) rfl ⟨_, rfl, hx8, ?_⟩
    rw [fQ, if_neg hE]
    rfl
  ·have hE : ¬ dJ qn qt rl budget = 0 := by
    unfold dJ
    rw [if_neg (by rintro ⟨h1, h2, h3, h4, _⟩; exact c2 h2)]
    decide
   (repeat' first | ((with_reducible refine aJ ?_); go_step) | ((with_reducible refine aG ?_); first | refine aL ?_ | (refine aK ?_ ?_ <;> intro hc)) | fail)
   refine aB (enters_of Tryz.func54 rfl rfl) rfl rfl (wK (c := false) (by simp only [Bool.and_eq_false_iff, decide_eq_false_iff_not]; omega)) ?_; intro w4 x4; refine aA ?_
   have h26 := ((x3.trans x4)).at h2
   (repeat' first | ((with_reducible refine aJ ?_); go_step) | ((with_reducible refine aG ?_); first | refine aL ?_ | (refine aK ?_ ?_ <;> intro hc)) | fail)
   refine bW (v := .agg bU.toArray) rfl (Runs.build0 (by kernel_rfl)) ?_
   refine aA ?_
   (repeat' first | ((with_reducible refine aJ ?_); go_step) | ((with_reducible refine aG ?_); first | refine aL ?_ | (refine aK ?_ ?_ <;> intro hc)) | fail)
   refine aD (v := .agg bU.toArray) rfl rfl rfl h26 (show aP Tryz.prog 33 7 = true by decide +kernel) rfl (by decide +kernel) ?_
   intro w8 p8
   have hx8 : Ext w w8 := (x1.trans (x2.trans (x3.trans x4))).move p8.mv (by rintro k ⟨⟩; exact x1.size)
   (repeat' first | ((with_reducible refine aJ ?_); go_step) | ((with_reducible refine aG ?_); first | refine aL ?_ | (refine aK ?_ ?_ <;> intro hc)) | fail)
   refine bodyPost_ret (dP (cs := bU) rfl rfl p8.this (show bH Tryz.prog 33 7 = true by decide +kernel)) rfl ⟨_, rfl, hx8, ?_⟩
   rw [fQ, if_neg hE]
   rfl
 ·have hE : ¬ dJ qn qt rl budget = 0 := by
   unfold dJ
   rw [if_neg (by rintro ⟨h1, h2, h3, h4, _⟩; exact c1 h1)]
   decide
  have e1 : ¬ (aU qn).isSome = true := by
   intro e
   exact c1 (by unfold fO; rw [e]; rfl)
  rw [if_neg e1] at h27
  refine aB (enters_of Tryz.func53 rfl rfl) rfl rfl (h27 _) ?_; intro w3 x3; refine aA ?_
  have h26 := x3.at h2
  (repeat' first | ((with_reducible refine aJ ?_); go_step) | ((with_reducible refine aG ?_); first | refine aL ?_ | (refine aK ?_ ?_ <;> intro hc)) | fail)
  refine bW (v := .agg bU.toArray) rfl (Runs.build0 (by kernel_rfl)) ?_
  refine aA ?_
  (repeat' first | ((with_reducible refine aJ ?_); go_step) | ((with_reducible refine aG ?_); first | refine aL ?_ | (refine aK ?_ ?_ <;> intro hc)) | fail)
  refine aD (v := .agg bU.toArray) rfl rfl rfl h26 (show aP Tryz.prog 33 7 = true by decide +kernel) rfl (by decide +kernel) ?_
  intro w8 p8
  have hx8 : Ext w w8 := (x1.trans (x2.trans x3)).move p8.mv (by rintro k ⟨⟩; exact x1.size)
  (repeat' first | ((with_reducible refine aJ ?_); go_step) | ((with_reducible refine aG ?_); first | refine aL ?_ | (refine aK ?_ ?_ <;> intro hc)) | fail)
  refine bodyPost_ret (dP (cs := bU) rfl rfl p8.this (show bH Tryz.prog 33 7 = true by decide +kernel)) rfl ⟨_, rfl, hx8, ?_⟩
  rw [fQ, if_neg hE]
  rfl
set_option maxHeartbeats 1000000 in
theorem qG {w0 w : World} {b : Nat} {t : TaskR} (h : TaskAt w0 w b t) (h0 : 0 ≤ t.left) (h1 : t.left ≤ 1000000) (hs : ∀ a, t.stop = some a → a.ans.length ≤ 1000000 ∧ a.auth.length ≤ 1000000) : Calls Tryz.prog 21 #[.pointer (some ⟨b, 0, none⟩)] w (TRet w0 w b t.timeout) := by
 have hA := h
 obtain ⟨rv, sv, gv, ev, h⟩ := h
 have hp := aC (cs := bM t rv sv gv ev) h.blk
 have he := h.es
 go_enter Tryz.func21, Tryz.ntmps21
 (repeat' first | ((with_reducible refine aJ ?_); go_step) | ((with_reducible refine aG ?_); first | refine aL ?_ | (refine aK ?_ ?_ <;> intro hc)) | fail)
 refine aH (z := bU) rfl (by decide +kernel) ?_
 intro w1 x1 s1 hb1
 refine aA ?_
 have hp1 := hp.ext x1
 have hA1 := hA.grow x1
 cases hst : t.stop with
 | none =>
  rw [hst] at he
  have hev : ev = .pointer none := he
  subst hev
  have hE : t.timeout = t.on := by rw [TaskR.timeout, hst]
  (repeat' first | ((with_reducible refine aJ ?_); go_step) | ((with_reducible refine aG ?_); first | refine aL ?_ | (refine aK ?_ ?_ <;> intro hc)) | fail)
  refine aT (vs := [.pointer (some ⟨b, 0, none⟩)]) (enters_of Tryz.func50 rfl rfl) rfl rfl (yJ hA1 h0 h1) ?_
  rintro e w4 ⟨u, rfl, hu, hm⟩
  refine ⟨_, rfl, ?_⟩
  refine aA ?_
  have h14 := hm.at hb1 h.neBox
  refine aD (v := u) rfl rfl rfl h14 (by rw [hu.1.size]; exact (show aP Tryz.prog 33 7 = true by decide +kernel)) (by rw [hu.1.size]; rfl) hu.1.one ?_
  intro w5 p5
  obtain ⟨u1, u2, rfl, hr⟩ := TRet.box hu ((x1.mv _).trans hm) h14 (Nat.le_refl _) h.ext.size p5
  (repeat' first | ((with_reducible refine aJ ?_); go_step) | ((with_reducible refine aG ?_); first | refine aL ?_ | (refine aK ?_ ?_ <;> intro hc)) | fail)
  exact bodyPost_ret (cA (cs := bL t.on.2 u1 u2) rfl rfl p5.this (show bH Tryz.prog 33 7 = true by decide +kernel)) rfl (by rw [hE]; exact hr)
 | some a =>
  rw [hst] at he
  obtain ⟨c, v1, v2, rfl, hc, hcb, o1, o2, -⟩ := he
  have hE : t.timeout = (t, a) := by rw [TaskR.timeout, hst]
  (repeat' first | ((with_reducible refine aJ ?_); go_step) | ((with_reducible refine aG ?_); first | refine aL ?_ | (refine aK ?_ ?_ <;> intro hc)) | fail)
  refine aO (enters_of Tryz.func43 rfl rfl) rfl rfl (qV hA1 hst (hs a hst).1 (hs a hst).2) ?_
  intro u w4 x4 hu
  refine aA ?_
  have hm : Mv (some b) w1 w4 := x4.mv _
  have h14 := hm.at hb1 h.neBox
  refine aD (v := u) rfl rfl rfl h14 (by rw [hu.1.size]; exact (show aP Tryz.prog 33 7 = true by decide +kernel)) (by rw [hu.1.size]; rfl) hu.1.one ?_
  intro w5 p5
  obtain ⟨u1, u2, rfl, hr⟩ := TRet.box hu ((x1.mv _).trans hm) h14 (Nat.le_refl _) h.ext.size p5
  (repeat' first | ((with_reducible refine aJ ?_); go_step) | ((with_reducible refine aG ?_); first | refine aL ?_ | (refine aK ?_ ?_ <;> intro hc)) | fail)
  exact bodyPost_ret (cA (cs := bL (t, a).2 u1 u2) rfl rfl p5.this (show bH Tryz.prog 33 7 = true by decide +kernel)) rfl (by rw [hE]; exact hr)
def EV : TaskR := dL [1, 120, 1, 65] 1 [3, 4] 9
def tW : MsgR := { zeroM with resp := true, au := [⟨[1, 97], 2, 5, [1, 110, 0]⟩], ex := [⟨[1, 110], 1, 5, [10, 0, 0, 7]⟩] }
def yO : MsgR := { zeroM with resp := true, auth := true, an := [⟨[1, 120, 1, 97], 1, 5, [49, 50, 51, 52]⟩] }
def EC : TaskR := ⟨[1, 120, 1, 97], 1, [3, 4], [], [4], [], 0, 8, none⟩
def DJ : TaskR := ⟨[1, 120, 1, 97], 1, [3, 4], [], [], [], 0, 7, none⟩
def DK : TaskR := ⟨[1, 120, 1, 97], 1, [3, 4], [1, 97], [], [], 0, 6, none⟩
def CA : List Rec := [⟨[1, 120, 1, 97], 1, 5, [49, 50, 51, 52]⟩]
def DL : TaskR := ⟨[1, 120, 1, 97], 1, [3, 4], [1, 97], [], CA, 0, 6, some ⟨2, 0, [], 0, 0, CA, []⟩⟩
deriving instance DecidableEq for TaskR
deriving instance DecidableEq for RSet
deriving instance DecidableEq for LrnR
def ED : List LrnR := [⟨⟨[1, 97], 2, 5, [[1, 110, 0]]⟩, 2⟩, ⟨⟨[1, 110], 1, 5, [[10, 0, 0, 7]]⟩, 1⟩]
def EE : List LrnR := [⟨⟨[1, 120, 1, 97], 1, 5, [[49, 50, 51, 52]]⟩, 4⟩]
theorem CZ : dJ [1, 120, 1, 65] 1 [3, 4] 9 = 0 := by decide +kernel
theorem DA : dJ [] 1 [] 9 = 1 := by decide +kernel
theorem EF : EV.on = (EC, ⟨1, 3, [1, 120, 1, 97], 1, 0, [], []⟩) := by decide +kernel
theorem EG : EC.timeout = (DJ, ⟨1, 4, [1, 120, 1, 97], 1, 0, [], []⟩) := by decide +kernel
theorem EH : DJ.reply tW = (DK, ⟨1, 7, [1, 120, 1, 97], 1, 0, [], []⟩, ED) := by decide +kernel
theorem EI : DK.reply yO = (DL, ⟨2, 0, [], 0, 0, CA, []⟩, EE) := by decide +kernel
theorem EJ : DL.timeout = (DL, ⟨2, 0, [], 0, 0, CA, []⟩) := by decide +kernel
section
variable {P : Program} {w w0 : World} {ts : List Value} {df : List Deferred} {d : Option Nat} {ty : TypeId} {ps : String} {af : Array Edge} {g : Option (Nat × Bool)}
theorem Runs.fieldP {s : TypeId} {m n off : Nat} {p : Value} {vs : List Value} (hx : ts.getD m undef = p) (hp : Pts w0 p vs) (hf : eK P s n off = true) :
 Runs P (Oper.mk d (.fieldAddr s (.tmp m) n) ty ps af g) (Act.mk ts.toArray df) w (aW p off) := by
 obtain ⟨b, o, rfl, _⟩ := hp
 obtain ⟨fs, f, i, ht, hf, ho, hie, hz⟩ := eL hf
 have hx' : (Act.mk ts.toArray df).eval (.tmp m) = .pointer (some ⟨b, o, none⟩) := by rw [cT]; exact hx
 constructor
 simp [execOp, hx', Instr.fieldAt, Instr.sureAddr, run_underlying ht, hf, fieldPlace, sizeOf, typeInfo, hie, hz, aW, ho]
end
theorem Own.same {B k e : Nat} {w w' : World} {v : Value} {es : List (List Value)} (h : Own B k e w v es) (hs : ∀ r, v.ownBlock = some r → w'.heap[r]? = w.heap[r]?) : Own B k e w' v es := by
 obtain ⟨⟨h1, h2⟩, h3⟩ := h
 refine ⟨⟨h1, ?_⟩, h3⟩
 rcases h2 with h2 | ⟨gg, cap, cur, fz, rfl, hb, hg, r⟩
 ·exact .inl h2
 ·exact .inr ⟨gg, cap, cur, fz, rfl, hb, by rw [hs gg rfl]; exact hg, r⟩
theorem Own.fr {B k e b : Nat} {w0 w w' : World} {t : TaskR} {rv sv gv ev v : Value} {es : List (List Value)} (h : Own B k e w v es) (hf : Fr b gv w w') (hT : TaskV w0 w b t rv sv gv ev) (h1 : 99 ≠ e) (h2 : e ≠ 64) : Own B k e w' v es :=
 h.same fun r hr => hf.block r (h.block r hr).2 (by rintro rfl; exact h.neBlock hT.blk h1 hr) (by
  intro e2
  rcases h.ne hT.gs h2 with e3 | e3
  ·rw [hr] at e3; cases e3
  ·exact e3 (by rw [hr, e2]))
theorem Fr.box {b c t : Nat} {w0 w w' : World} {tk : TaskR} {rv sv gv ev : Value} {cs : Array Value} {fz : Nat × Nat} (hf : Fr b gv w w') (hT : TaskV w0 w b tk rv sv gv ev) (hc : w.heap[c]? = some (.cells cs t fz)) (h1 : t ≠ 99) (h2 : t ≠ 64) : w'.heap[c]? = some (.cells cs t fz) := by
 rw [hf.block c (Array.getElem?_eq_some_iff.1 hc).1 (by
  rintro rfl
  have := hT.blk
  rw [hc] at this
  simp only [Option.some.injEq, Obj.cells.injEq] at this
  exact h1 this.2.1) (hT.gs.neBlock hc h2)]
 exact hc
theorem iL {t : TaskR} {l : List Rec} {n : List UInt8} {k : Int} {K : Nat} (h : ∀ r ∈ l, r.data.length ≤ K) : ∀ r ∈ t.of l n k, r.data.length ≤ K := by
 intro r hr
 unfold TaskR.of at hr
 obtain ⟨q, hq, rfl⟩ := List.mem_map.1 (List.mem_filter.1 hr).1
 exact h q (List.mem_filter.1 hq).1
theorem DB : TaskB DJ 0 := ⟨by decide, by decide, by decide, by decide, by decide, by intro a h; cases h⟩
theorem DC : TaskB DK 0 := ⟨by decide, by decide, by decide, by decide, by decide, by intro a h; cases h⟩
set_option maxHeartbeats 4000000 in
theorem yP (w : World) : Calls Tryz.prog 15 #[] w (EU w) := by
 go_enter Tryz.func15, Tryz.ntmps15
 (repeat' first | ((with_reducible refine aJ ?_); go_step) | ((with_reducible refine aG ?_); first | refine aL ?_ | (refine aK ?_ ?_ <;> intro hc)) | fail)
 refine bB (v := .agg #[aF [1, 120, 1, 65], .int .i64 1]) (Runs.build rfl (by kernel_rfl)) ?_
 refine aA ?_
 refine bY (e := 3) (k := 1) (bytes := 8) (xs := [.int .i64 3, .int .i64 4]) rfl rfl rfl (by simp [Value.cells]) (by decide +kernel) (by simp) ?_
 intro v1 w1 x1 _ sl1 _
 refine aA ?_
 have sl1' : Sl 1 w1 v1 (aY [3, 4]) := sl1
 refine aO (enters_of Tryz.func24 rfl rfl) rfl rfl (yN [1, 120, 1, 65] 1 v1 [3, 4] 9 _ sl1' (by decide)) ?_
 intro r w2 x2 hr
 unfold fQ at hr
 rw [if_pos CZ] at hr
 obtain ⟨b, u2, rfl, hu2⟩ := hr
 change ActRet w1 b EV.on u2 w2 at hu2
 rw [EF] at hu2
 obtain ⟨⟨a1, a2, rfl, oa1, oa2⟩, hT2⟩ := hu2
 have hbn : b < w2.heap.size := by obtain ⟨_, _, _, _, h⟩ := hT2; exact (Array.getElem?_eq_some_iff.1 h.blk).1
 refine aA ?_
 (repeat' first | ((with_reducible refine aJ ?_); go_step) | ((with_reducible refine aG ?_); first | refine aL ?_ | (refine aK ?_ ?_ <;> intro hc)) | fail)
 refine aH (z := bU) rfl (by decide +kernel) ?_
 intro w3 x3 s3 h3
 refine aA ?_
 have hT3 := hT2.grow x3
 (repeat' first | ((with_reducible refine aJ ?_); go_step) | ((with_reducible refine aG ?_); first | refine aL ?_ | (refine aK ?_ ?_ <;> intro hc)) | fail)
 refine aD (v := .agg (bL ⟨1, 3, [1, 120, 1, 97], 1, 0, [], []⟩ a1 a2).toArray) rfl rfl rfl h3 (show aP Tryz.prog 33 7 = true by decide +kernel) rfl (dW oa1.one oa2.one) ?_
 intro w4 p4
 have x4 : Ext w2 w4 := x3.move p4.mv (by rintro k ⟨⟩; exact Nat.le_refl _)
 have hT4 := hT2.grow x4
 have hA4 : w4.heap[w2.heap.size]? = some (.cells (bL ⟨1, 3, [1, 120, 1, 97], 1, 0, [], []⟩ a1 a2).toArray 33 (0, 0)) := p4.this
 have hx4 := x1.trans (x2.trans x4)
 clear hT2 hT3 p4 h3 x3
 (repeat' first | ((with_reducible refine aJ ?_); go_step) | ((with_reducible refine aG ?_); first | refine aL ?_ | (refine aK ?_ ?_ <;> intro hc)) | fail)
 refine bB (v := .agg #[aF [], .int .i64 1]) (Runs.build rfl (by kernel_rfl)) ?_
 refine aA ?_
 refine aO (enters_of Tryz.func24 rfl rfl) rfl rfl (yN [] 1 (.slice none 0 0) [] 9 _ (Sl.nil _ _) (by decide)) ?_
 intro r w5 x5 hr
 unfold fQ at hr
 rw [DA, if_neg (by decide)] at hr
 subst hr
 refine aA ?_
 have hT5 := hT4.grow x5
 have hA5 := x5.at hA4
 (repeat' first | ((with_reducible refine aJ ?_); go_step) | ((with_reducible refine aG ?_); first | refine aL ?_ | (refine aK ?_ ?_ <;> intro hc)) | fail)
 refine aH (z := bU) rfl (by decide +kernel) ?_
 intro w6 x6 s6 h6
 refine aA ?_
 (repeat' first | ((with_reducible refine aJ ?_); go_step) | ((with_reducible refine aG ?_); first | refine aL ?_ | (refine aK ?_ ?_ <;> intro hc)) | fail)
 refine aD (v := .agg bU.toArray) rfl rfl rfl h6 (show aP Tryz.prog 33 7 = true by decide +kernel) rfl (by decide +kernel) ?_
 intro w7 p7
 have x7 : Ext w5 w7 := x6.move p7.mv (by rintro k ⟨⟩; exact Nat.le_refl _)
 have hT7 := hT5.grow x7
 have hA7 := x7.at hA5
 have hx7 := hx4.trans (x5.trans x7)
 clear hT4 hT5 hA4 hA5 p7 h6 x6
 change TaskAt w1 w7 b EC at hT7
 (repeat' first | ((with_reducible refine aJ ?_); go_step) | ((with_reducible refine aG ?_); first | refine aL ?_ | (refine aK ?_ ?_ <;> intro hc)) | fail)
 refine aT (vs := [.pointer (some ⟨b, 0, none⟩)]) (enters_of Tryz.func21 rfl rfl) rfl rfl (qG hT7 (by decide) (by decide) (by intro a h; cases h)) ?_
 rintro e8 w8 ⟨u8, rfl, hu8, hm8⟩
 refine ⟨_, rfl, ?_⟩
 rw [EG] at hu8
 obtain ⟨⟨b1, b2, rfl, ob1, ob2⟩, hT8⟩ := hu8
 change TaskAt w1 w8 b DJ at hT8
 refine aA ?_
 have z4 := x4.size
 have z57 := (x5.trans x7).size
 have hA8 := hm8.at hA7 (by intro e; have := Option.some.inj e; omega)
 have hx8 := hx7.move hm8 (by rintro k ⟨⟩; obtain ⟨_, _, _, _, h⟩ := hT8; have := h.ge; have := x1.size; omega)
 (repeat' first | ((with_reducible refine aJ ?_); go_step) | ((with_reducible refine aG ?_); first | refine aL ?_ | (refine aK ?_ ?_ <;> intro hc)) | fail)
 refine aH (z := bU) rfl (by decide +kernel) ?_
 intro w9 x9 s9 h9
 refine aA ?_
 (repeat' first | ((with_reducible refine aJ ?_); go_step) | ((with_reducible refine aG ?_); first | refine aL ?_ | (refine aK ?_ ?_ <;> intro hc)) | fail)
 refine aD (v := .agg (bL ⟨1, 4, [1, 120, 1, 97], 1, 0, [], []⟩ b1 b2).toArray) rfl rfl rfl h9 (show aP Tryz.prog 33 7 = true by decide +kernel) rfl (dW ob1.one ob2.one) ?_
 intro w10 p10
 have x10 : Ext w8 w10 := x9.move p10.mv (by rintro k ⟨⟩; exact Nat.le_refl _)
 have hT10 := hT8.grow x10
 have hA10 := x10.at hA8
 have hB10 : w10.heap[w8.heap.size]? = some (.cells (bL ⟨1, 4, [1, 120, 1, 97], 1, 0, [], []⟩ b1 b2).toArray 33 (0, 0)) := p10.this
 have hx10 := hx8.trans x10
 have z8 := hm8.size
 clear hT7 hT8 hA7 hA8 p10 h9 x9
 (repeat' first | ((with_reducible refine aJ ?_); go_step) | ((with_reducible refine aG ?_); first | refine aL ?_ | (refine aK ?_ ?_ <;> intro hc)) | fail)
 refine bB (v := .agg #[aF [1, 97], .int .i64 2, .int .i64 5, aF [1, 110, 0]]) (Runs.build rfl (by kernel_rfl)) ?_
 refine aA ?_
 refine bY (e := 64) (k := 4) (bytes := dK Tryz.prog 64) (xs := [.agg #[aF [1, 97], .int .i64 2, .int .i64 5, aF [1, 110, 0]]]) rfl rfl rfl (by simp [Value.cells]) (by decide +kernel) (by decide +kernel) ?_
 intro v11 w11 x11 _ _ o11
 refine aA ?_
 refine bB (v := .agg #[aF [1, 110], .int .i64 1, .int .i64 5, aF [10, 0, 0, 7]]) (Runs.build rfl (by kernel_rfl)) ?_
 refine aA ?_
 refine bY (e := 64) (k := 4) (bytes := dK Tryz.prog 64) (xs := [.agg #[aF [1, 110], .int .i64 1, .int .i64 5, aF [10, 0, 0, 7]]]) rfl rfl rfl (by simp [Value.cells]) (by decide +kernel) (by decide +kernel) ?_
 intro v12 w12 x12 _ _ o12
 refine aA ?_
 have o11' : Own w10.heap.size 4 64 w12 v11 (aE tW.au) := (show Own w10.heap.size 4 64 w11 v11 (aE tW.au) from o11).ext x12
 have o12' : Own w11.heap.size 4 64 w12 v12 (aE tW.ex) := o12
 have hT12 := (hT10.grow x11).grow x12
 have hA12 := x12.at (x11.at hA10)
 have hB12 := x12.at (x11.at hB10)
 obtain ⟨rv, sv, gv, ev, hV12⟩ := hT12
 refine bB (v := .agg (cY tW (.slice none 0 0) (.slice none 0 0) v11 v12).toArray) (Runs.build (vals := [(1, .bool true), (10, v11), (11, v12)]) rfl (by obtain ⟨_, _, _, rfl⟩ := o11'.sl.slf; obtain ⟨_, _, _, rfl⟩ := o12'.sl.slf; kernel_rfl)) ?_
 refine aA ?_
 refine aT (vs := [.pointer (some ⟨b, 0, none⟩), .agg (cY tW (.slice none 0 0) (.slice none 0 0) v11 v12).toArray]) (enters_of Tryz.func16 rfl rfl) rfl rfl (qY hV12 DB (by decide) tW _ _ _ _ (fun w' hm' => ⟨Sl.nil _ _, Sl.nil _ _, (o11'.mv hm' (.inr (o11'.neBlock hV12.blk (by decide)))).sl, (o12'.mv hm' (.inr (o12'.neBlock hV12.blk (by decide)))).sl⟩) (by decide) (by decide) (by decide) (fun z => iL (by decide)) (fun n => iL (by decide))) ?_
 rintro e13 w13 ⟨u13, l13, rfl, hu13, hl13, hf13⟩
 refine ⟨_, rfl, ?_⟩
 rw [EH] at hu13 hl13
 obtain ⟨⟨c1, c2, rfl, oc1, oc2⟩, hT13⟩ := hu13
 change TaskAt w1 w13 b DK at hT13
 have hA13 := hf13.box hV12 hA12 (by decide) (by decide)
 have hB13 := hf13.box hV12 hB12 (by decide) (by decide)
 obtain ⟨css, k1, k2, k3⟩ := hl13
 obtain ⟨e0, e1, rfl⟩ : ∃ e0 e1, css = [e0, e1] := by
  match css, (show css.length = 2 from k2) with
  | [e0, e1], _ => exact ⟨e0, e1, rfl⟩
 refine aA ?_
 (repeat' first | ((with_reducible refine aJ ?_); go_step) | ((with_reducible refine aG ?_); first | refine aL ?_ | (refine aK ?_ ?_ <;> intro hc)) | fail)
 refine aH (z := bU) rfl (by decide +kernel) ?_
 intro w14 x14 s14 h14
 refine aA ?_
 (repeat' first | ((with_reducible refine aJ ?_); go_step) | ((with_reducible refine aG ?_); first | refine aL ?_ | (refine aK ?_ ?_ <;> intro hc)) | fail)
 refine aD (v := .agg (bL ⟨1, 7, [1, 120, 1, 97], 1, 0, [], []⟩ c1 c2).toArray) rfl rfl rfl h14 (show aP Tryz.prog 33 7 = true by decide +kernel) rfl (dW oc1.one oc2.one) ?_
 intro w15 p15
 have x15 : Ext w13 w15 := x14.move p15.mv (by rintro k ⟨⟩; exact Nat.le_refl _)
 have hT15 := hT13.grow x15
 have hA15 := x15.at hA13
 have hB15 := x15.at hB13
 have hC15 : w15.heap[w13.heap.size]? = some (.cells (bL ⟨1, 7, [1, 120, 1, 97], 1, 0, [], []⟩ c1 c2).toArray 33 (0, 0)) := p15.this
 have k15 := k1.ext x15
 clear hT10 hT13 hA13 hB13 p15 h14 x14 hA12 hB12 hA10 hB10 k1 k3
 (repeat' first | ((with_reducible refine aJ ?_); go_step) | ((with_reducible refine aG ?_); first | refine aL ?_ | (refine aK ?_ ?_ <;> intro hc)) | fail)
 refine bB (v := .agg #[aF [1, 120, 1, 97], .int .i64 1, .int .i64 5, aF [49, 50, 51, 52]]) (Runs.build rfl (by kernel_rfl)) ?_
 refine aA ?_
 refine bY (e := 64) (k := 4) (bytes := dK Tryz.prog 64) (xs := [.agg #[aF [1, 120, 1, 97], .int .i64 1, .int .i64 5, aF [49, 50, 51, 52]]]) rfl rfl rfl (by simp [Value.cells]) (by decide +kernel) (by decide +kernel) ?_
 intro v16 w16 x16 _ _ o16
 refine aA ?_
 have o16' : Own w15.heap.size 4 64 w16 v16 (aE yO.an) := o16
 have hT16 := hT15.grow x16
 have hA16 := x16.at hA15
 have hB16 := x16.at hB15
 have hC16 := x16.at hC15
 have k16 := k15.ext x16
 obtain ⟨rv', sv', gv', ev', hV16⟩ := hT16
 refine bB (v := .agg (cY yO (.slice none 0 0) v16 (.slice none 0 0) (.slice none 0 0)).toArray) (Runs.build (vals := [(1, .bool true), (3, .bool true), (9, v16)]) rfl (by obtain ⟨_, _, _, rfl⟩ := o16'.sl.slf; kernel_rfl)) ?_
 refine aA ?_
 refine aT (vs := [.pointer (some ⟨b, 0, none⟩), .agg (cY yO (.slice none 0 0) v16 (.slice none 0 0) (.slice none 0 0)).toArray]) (enters_of Tryz.func16 rfl rfl) rfl rfl (qY hV16 DC (by decide) yO _ _ _ _ (fun w' hm' => ⟨Sl.nil _ _, (o16'.mv hm' (.inr (o16'.neBlock hV16.blk (by decide)))).sl, Sl.nil _ _, Sl.nil _ _⟩) (by decide) (by decide) (by decide) (fun z => iL (by decide)) (fun n => iL (by decide))) ?_
 rintro e17 w17 ⟨u17, l17, rfl, hu17, hl17, hf17⟩
 refine ⟨_, rfl, ?_⟩
 rw [EI] at hu17 hl17
 obtain ⟨⟨d1, d2, rfl, od1, od2⟩, hT17⟩ := hu17
 change TaskAt w1 w17 b DL at hT17
 have hA17 := hf17.box hV16 hA16 (by decide) (by decide)
 have hB17 := hf17.box hV16 hB16 (by decide) (by decide)
 have hC17 := hf17.box hV16 hC16 (by decide) (by decide)
 have k17 := k16.fr hf17 hV16 (by decide) (by decide)
 obtain ⟨cst, j1, j2, j3⟩ := hl17
 obtain ⟨f0, rfl⟩ : ∃ f0, cst = [f0] := by
  match cst, (show cst.length = 1 from j2) with
  | [f0], _ => exact ⟨f0, rfl⟩
 obtain ⟨xd, hf0, hxd, _, _⟩ := j3 0 ⟨⟨[1, 120, 1, 97], 1, 5, [[49, 50, 51, 52]]⟩, 4⟩ rfl
 obtain rfl : f0 = lJ ⟨⟨[1, 120, 1, 97], 1, 5, [[49, 50, 51, 52]]⟩, 4⟩ xd := by simpa using hf0
 refine aA ?_
 (repeat' first | ((with_reducible refine aJ ?_); go_step) | ((with_reducible refine aG ?_); first | refine aL ?_ | (refine aK ?_ ?_ <;> intro hc)) | fail)
 refine aH (z := bU) rfl (by decide +kernel) ?_
 intro w18 x18 s18 h18
 refine aA ?_
 (repeat' first | ((with_reducible refine aJ ?_); go_step) | ((with_reducible refine aG ?_); first | refine aL ?_ | (refine aK ?_ ?_ <;> intro hc)) | fail)
 refine aD (v := .agg (bL ⟨2, 0, [], 0, 0, CA, []⟩ d1 d2).toArray) rfl rfl rfl h18 (show aP Tryz.prog 33 7 = true by decide +kernel) rfl (dW od1.one od2.one) ?_
 intro w19 p19
 have x19 : Ext w17 w19 := x18.move p19.mv (by rintro k ⟨⟩; exact Nat.le_refl _)
 have hT19 := hT17.grow x19
 have hpA := aC (cs := bL ⟨1, 3, [1, 120, 1, 97], 1, 0, [], []⟩ a1 a2) (x19.at hA17)
 have hpB := aC (cs := bL ⟨1, 4, [1, 120, 1, 97], 1, 0, [], []⟩ b1 b2) (x19.at hB17)
 have hpC := aC (cs := bL ⟨1, 7, [1, 120, 1, 97], 1, 0, [], []⟩ c1 c2) (x19.at hC17)
 have hpD := aC (cs := bL ⟨2, 0, [], 0, 0, CA, []⟩ d1 d2) p19.this
 have k19 := (k17.ext x19).sl
 have j19 := j1.ext x19
 have od19 : Own 0 4 64 w19 d1 [[aF [1, 120, 1, 97], .int .i64 1, .int .i64 5, aF [49, 50, 51, 52]]] := (show Own 0 4 64 w17 d1 [[aF [1, 120, 1, 97], .int .i64 1, .int .i64 5, aF [49, 50, 51, 52]]] from od1).ext x19
 have sd19 := od19.sl
 have sj19 := j19.sl
 have hx19 : Ext w w19 := by obtain ⟨_, _, _, _, h⟩ := hT19; exact x1.trans h.ext
 clear hT15 hT17 hA15 hB15 hC15 hA16 hB16 hC16 hA17 hB17 hC17 p19 h18 x18 k15 k16 k17 j1 od1 hf13 hf17
 ((with_reducible refine aG ?_); (first | (refine kW ?_; refine iN ?_) | (refine mL ?_; refine pB ?_; (with_reducible refine aG ?_); refine kW ?_; refine iN ?_)))
 (first | ((with_reducible refine aJ ?_); go_step) | fail)
 (first | ((with_reducible refine aJ ?_); go_step) | fail)
 (first | ((with_reducible refine aJ ?_); go_step) | fail)
 (first | ((with_reducible refine aJ ?_); go_step) | fail)
 simp only [List.append]
 (repeat' first | ((with_reducible refine aJ ?_); go_step) | ((with_reducible refine aG ?_); first | refine aL ?_ | (refine aK ?_ ?_ <;> intro hc)) | fail)
 have hqA : Pts w19 (aW (.pointer (some ⟨w2.heap.size, 0, none⟩)) 2) [aF [1, 120, 1, 97], .int .i64 1] := (hpA.part 2).front 2
 ((with_reducible refine aG ?_); (first | (refine kW ?_; refine iN ?_) | (refine mL ?_; refine pB ?_; (with_reducible refine aG ?_); refine kW ?_; refine iN ?_)))
 clear hqA
 have hZ : Calls Tryz.prog 22 #[.pointer (some ⟨b, 0, none⟩)] w19 (bS w19 (aF [1, 97])) := yD hT19
 (repeat' first | ((with_reducible refine aJ ?_); go_step) | ((with_reducible refine aG ?_); first | refine aL ?_ | (refine aK ?_ ?_ <;> intro hc)) | fail)
 all_goals first
  | (exfalso; exact hc rfl)
  | skip
 refine aB (enters_of Tryz.func22 rfl rfl) rfl rfl hZ ?_
 intro w20 x20
 refine aA ?_
 have hpD20 := hpD.ext x20
 have sd20 := sd19.ext x20
 have sj20 := sj19.ext x20
 have hT20 := hT19.grow x20
 have hpf := sj20.elem (i := 0) (e := lJ ⟨⟨[1, 120, 1, 97], 1, 5, [[49, 50, 51, 52]]⟩, 4⟩ xd) rfl
 (repeat' first | ((with_reducible refine aJ ?_); go_step) | ((with_reducible refine aG ?_); first | refine aL ?_ | (refine aK ?_ ?_ <;> intro hc)) | fail)
 all_goals first
  | (exfalso; exact hc rfl)
  | skip
 refine bB (Runs.fieldP rfl hpf (show eK Tryz.prog 61 1 4 = true by decide +kernel)) ?_
 refine aA ?_
 (repeat' first | ((with_reducible refine aJ ?_); go_step) | ((with_reducible refine aG ?_); first | refine aL ?_ | (refine aK ?_ ?_ <;> intro hc)) | fail)
 refine aT (vs := [.pointer (some ⟨b, 0, none⟩)]) (enters_of Tryz.func21 rfl rfl) rfl rfl (qG hT20 (by decide) (by decide) (by intro a h; cases h; exact ⟨by decide, by decide⟩)) ?_
 rintro e21 w21 ⟨u21, rfl, hu21, hm21⟩
 refine ⟨_, rfl, ?_⟩
 rw [EJ] at hu21
 obtain ⟨⟨g1, g2, rfl, og1, og2⟩, hT21⟩ := hu21
 have hx21 : Ext w w21 := by obtain ⟨_, _, _, _, h⟩ := hT21; exact x1.trans h.ext
 refine aA ?_
 (repeat' first | ((with_reducible refine aJ ?_); go_step) | ((with_reducible refine aG ?_); first | refine aL ?_ | (refine aK ?_ ?_ <;> intro hc)) | fail)
 refine bB (v := .int .i64 2) (Runs.fieldV (off := 0) rfl rfl (by decide +kernel)) ?_
 refine aA ?_
 (repeat' first | ((with_reducible refine aJ ?_); go_step) | ((with_reducible refine aG ?_); first | refine aL ?_ | (refine aK ?_ ?_ <;> intro hc)) | fail)
 go_ret
 exact ⟨rfl, hx21⟩
theorem BT (w : World) : Calls Tryz.prog 15 #[] w (bS w (.bool true)) := yP w
theorem TaskV.other2 {w0 w w' : World} {b c : Nat} {t : TaskR} {rv sv gv ev u1 u2 : Value} {fz : Nat × Nat} {o : Obj} {a : ActR} (h : TaskV w0 w b t rv sv gv ev) (hp : Put w w' c o) (hc : w.heap[c]? = some (.cells (bL a u1 u2).toArray 33 fz)) (ha : a.kind ≠ 2) (hg : w0.heap.size ≤ c) : TaskV w0 w' b t rv sv gv ev := by
 refine ⟨h.ge, h.ext.move hp.mv (by rintro k ⟨⟩; exact hg), hp.mv.at h.blk ?_, h.rs.mv hp.mv (.inr (h.rs.neBlock hc (by decide))), h.ss.mv hp.mv (.inr (h.ss.neBlock hc (by decide))), h.gs.mv hp.mv (.inr (h.gs.neBlock hc (by decide))), ?_⟩
 ·intro e
  have e2 := h.blk
  rw [Option.some.inj e, hc] at e2
  simp only [Option.some.injEq, Obj.cells.injEq] at e2
  exact absurd e2.2.1 (by decide)
 ·have he := h.es
  generalize hst : t.stop = s at he
  cases s with
  | none => exact he
  | some a' =>
   obtain ⟨k, v1, v2, g1, g2, g3, g4, g5, g6⟩ := he
   refine ⟨k, v1, v2, g1, g2, hp.mv.at g3 (fun e => ?_), g4.mv hp.mv (.inr (g4.neBlock hc (by decide))), g5.mv hp.mv (.inr (g5.neBlock hc (by decide))), g6⟩
   rw [Option.some.inj e, hc] at g3
   simp only [Option.some.injEq, Obj.cells.injEq] at g3
   have e3 := congrArg (fun q => q[0]?) g3.1
   simp [bL, g6] at e3
   exact ha e3
theorem TaskAt.other2 {w0 w w' : World} {b c : Nat} {t : TaskR} {u1 u2 : Value} {fz : Nat × Nat} {o : Obj} {a : ActR} (h : TaskAt w0 w b t) (hp : Put w w' c o) (hc : w.heap[c]? = some (.cells (bL a u1 u2).toArray 33 fz)) (ha : a.kind ≠ 2) (hg : w0.heap.size ≤ c) : TaskAt w0 w' b t := by
 obtain ⟨rv, sv, gv, ev, h⟩ := h
 exact ⟨rv, sv, gv, ev, h.other2 hp hc ha hg⟩
theorem TaskAt.ext {w0 w : World} {b : Nat} {t : TaskR} (h : TaskAt w0 w b t) : Ext w0 w := by obtain ⟨_, _, _, _, h⟩ := h; exact h.ext
theorem TaskAt.lt {w0 w : World} {b : Nat} {t : TaskR} (h : TaskAt w0 w b t) : b < w.heap.size := by obtain ⟨_, _, _, _, h⟩ := h; exact (Array.getElem?_eq_some_iff.1 h.blk).1
structure ActAt (w0 w : World) (b c : Nat) (r : TaskR × ActR) : Prop where
 tsk : TaskAt w0 w b r.1
 out : ∃ v1 v2, w.heap[c]? = some (.cells (bL r.2 v1 v2).toArray 33 (0, 0)) ∧ Own 0 4 64 w v1 (aE r.2.ans) ∧ Own 0 4 64 w v2 (aE r.2.auth)
 ge : w0.heap.size ≤ c
 ne : c ≠ b
theorem ActAt.grow {w0 w w' : World} {b c : Nat} {r : TaskR × ActR} (h : ActAt w0 w b c r) (hx : Ext w w') : ActAt w0 w' b c r := by
 obtain ⟨v1, v2, h1, h2, h3⟩ := h.out
 exact ⟨h.tsk.grow hx, ⟨v1, v2, hx.at h1, h2.ext hx, h3.ext hx⟩, h.ge, h.ne⟩
theorem ActAt.next {w0 w1 w2 : World} {b c : Nat} {a : ActR} {r : TaskR × ActR} {u1 u2 v1 v2 : Value} (hT : TaskAt w0 w1 b r.1) (hc : w1.heap[c]? = some (.cells (bL a u1 u2).toArray 33 (0, 0))) (ha : a.kind ≠ 2) (hg : w0.heap.size ≤ c) (hn : c ≠ b)
 (o1 : Own 0 4 64 w1 v1 (aE r.2.ans)) (o2 : Own 0 4 64 w1 v2 (aE r.2.auth)) (hp : Put w1 w2 c (.cells (bL r.2 v1 v2).toArray 33 (0, 0))) : ActAt w0 w2 b c r :=
 ⟨hT.other2 hp hc ha hg, ⟨v1, v2, hp.this, o1.mv hp.mv (.inr (o1.neBlock hc (by decide))), o2.mv hp.mv (.inr (o2.neBlock hc (by decide)))⟩, hg, hn⟩
theorem mI {qn : List UInt8} {qt : Int} {roots : List Int} {budget : Int} (h : dJ qn qt roots budget = 0) : 1 ≤ roots.length ∧ roots.length ≤ 20 ∧ 1 ≤ budget ∧ budget ≤ 100 := by
 unfold dJ at h
 split at h
 ·rename_i c; exact ⟨c.2.2.1.1, c.2.2.1.2, c.2.2.2.1.1, c.2.2.2.1.2⟩
 ·cases h
theorem yQ (qn : List UInt8) (qt : Int) (roots : List Int) (budget : Int) : dJ qn qt roots budget = 0 ∨ dJ qn qt roots budget = 1 := by unfold dJ; split <;> simp
theorem BU (qn : List UInt8) (qt : Int) (roots : List Int) (budget : Int) : dL qn qt roots budget = vY qn qt roots budget 0 := by
 unfold dL vY
 simp
structure ActIn (w0 w : World) (b c : Nat) (r : TaskR × ActR) : Prop where
 tsk : ∃ rv sv gv ev, TaskV w0 w b r.1 rv sv gv ev ∧ ev ≠ .pointer (some ⟨c, 0, none⟩)
 out : ∃ v1 v2, w.heap[c]? = some (.cells (bL r.2 v1 v2).toArray 33 (0, 0)) ∧ Own 0 4 64 w v1 (aE r.2.ans) ∧ Own 0 4 64 w v2 (aE r.2.auth)
 ge : w0.heap.size ≤ c
 ne : c ≠ b
theorem TaskV.other3 {w0 w w' : World} {b c : Nat} {t : TaskR} {rv sv gv ev u1 u2 : Value} {fz : Nat × Nat} {o : Obj} {a : ActR} (h : TaskV w0 w b t rv sv gv ev) (hp : Put w w' c o) (hc : w.heap[c]? = some (.cells (bL a u1 u2).toArray 33 fz)) (ha : ev ≠ .pointer (some ⟨c, 0, none⟩)) (hg : w0.heap.size ≤ c) : TaskV w0 w' b t rv sv gv ev := by
 refine ⟨h.ge, h.ext.move hp.mv (by rintro k ⟨⟩; exact hg), hp.mv.at h.blk ?_, h.rs.mv hp.mv (.inr (h.rs.neBlock hc (by decide))), h.ss.mv hp.mv (.inr (h.ss.neBlock hc (by decide))), h.gs.mv hp.mv (.inr (h.gs.neBlock hc (by decide))), ?_⟩
 ·intro e
  have e2 := h.blk
  rw [Option.some.inj e, hc] at e2
  simp only [Option.some.injEq, Obj.cells.injEq] at e2
  exact absurd e2.2.1 (by decide)
 ·have he := h.es
  generalize hst : t.stop = s at he
  cases s with
  | none => exact he
  | some a' =>
   obtain ⟨k, v1, v2, g1, g2, g3, g4, g5, g6⟩ := he
   refine ⟨k, v1, v2, g1, g2, hp.mv.at g3 (fun e => ?_), g4.mv hp.mv (.inr (g4.neBlock hc (by decide))), g5.mv hp.mv (.inr (g5.neBlock hc (by decide))), g6⟩
   exact ha (by rw [g1, Option.some.inj e])
theorem ActIn.next {w0 w1 w2 : World} {b c : Nat} {a : ActR} {r : TaskR × ActR} {u1 u2 v1 v2 rv sv gv ev : Value} (hT : TaskV w0 w1 b r.1 rv sv gv ev) (he : ev ≠ .pointer (some ⟨c, 0, none⟩)) (hc : w1.heap[c]? = some (.cells (bL a u1 u2).toArray 33 (0, 0))) (hg : w0.heap.size ≤ c) (hn : c ≠ b)
 (o1 : Own 0 4 64 w1 v1 (aE r.2.ans)) (o2 : Own 0 4 64 w1 v2 (aE r.2.auth)) (hp : Put w1 w2 c (.cells (bL r.2 v1 v2).toArray 33 (0, 0))) : ActIn w0 w2 b c r :=
 ⟨⟨rv, sv, gv, ev, hT.other3 hp hc he hg, he⟩, ⟨v1, v2, hp.this, o1.mv hp.mv (.inr (o1.neBlock hc (by decide))), o2.mv hp.mv (.inr (o2.neBlock hc (by decide)))⟩, hg, hn⟩
theorem ActIn.grow {w0 w w' : World} {b c : Nat} {r : TaskR × ActR} (h : ActIn w0 w b c r) (hx : Ext w w') : ActIn w0 w' b c r := by
 obtain ⟨v1, v2, h1, h2, h3⟩ := h.out
 obtain ⟨rv, sv, gv, ev, h4, h5⟩ := h.tsk
 exact ⟨⟨rv, sv, gv, ev, h4.grow hx, h5⟩, ⟨v1, v2, hx.at h1, h2.ext hx, h3.ext hx⟩, h.ge, h.ne⟩
theorem TaskAt.apart {w0 w : World} {b c : Nat} {t : TaskR} {u1 u2 : Value} {fz : Nat × Nat} {a : ActR} (h : TaskAt w0 w b t) (hc : w.heap[c]? = some (.cells (bL a u1 u2).toArray 33 fz)) (ha : a.kind ≠ 2) : ∃ rv sv gv ev, TaskV w0 w b t rv sv gv ev ∧ ev ≠ .pointer (some ⟨c, 0, none⟩) := by
 obtain ⟨rv, sv, gv, ev, h⟩ := h
 refine ⟨rv, sv, gv, ev, h, fun e => ?_⟩
 have he := h.es
 generalize hst : t.stop = s at he
 cases s with
 | none =>
  rw [show ev = .pointer none from he] at e
  cases e
 | some a' =>
  obtain ⟨k, v1, v2, g1, g2, g3, g4, g5, g6⟩ := he
  rw [g1] at e
  simp only [Value.pointer.injEq, Option.some.injEq, Addr.mk.injEq] at e
  rw [e.1, hc] at g3
  simp only [Option.some.injEq, Obj.cells.injEq] at g3
  have e3 := congrArg (fun q => q[0]?) g3.1
  simp [bL, g6] at e3
  exact ha e3
theorem wL {qn : List UInt8} {roots : List Int} {l : List lL} (h : qZ qn roots l = true) : qn.length ≤ 300 ∧ roots.length ≤ 30 ∧ l.length ≤ 20 ∧ ∀ s ∈ l, mO s.2 = true := by
 unfold qZ at h
 simp only [Bool.and_eq_true, decide_eq_true_eq, List.all_eq_true] at h
 exact ⟨h.1.1.1, h.1.1.2, h.1.2, h.2⟩
theorem AD {qn : List UInt8} {qt : Int} {roots : List Int} {budget : Int} (h : dJ qn qt roots budget = 0) : (dL qn qt roots budget).on.2.kind = 1 ∧ (dL qn qt roots budget).on.1.stop = none ∧ (dL qn qt roots budget).on.1.left = budget - 1 ∧ TaskOk (dL qn qt roots budget).on.1 ∧ TaskB (dL qn qt roots budget).on.1 0 := by
 obtain ⟨n1, n2, n3, n4⟩ := mI h
 rw [BU, zS (i := 0) n1 (show ((0 : Nat) : Int) < budget by omega)]
 have hl : (vY qn qt roots budget (0 + 1)).left = budget - 1 := rfl
 refine ⟨rfl, rfl, rfl, ⟨?_, .inl rfl, by intro a h; cases h⟩, ⟨?_, ?_, by show (0 : Int) ≤ 0; omega, by show (0 : Int) ≤ 8; omega, by show (0 : Nat) ≤ 0; omega, by intro a h; cases h⟩⟩
 ·rw [hl]; omega
 ·rw [hl]; omega
 ·rw [hl]; omega
theorem tX {m : MsgR} (h : mO m = true) : m.an.length ≤ 25 ∧ m.au.length ≤ 25 ∧ m.ex.length ≤ 25 ∧ (∀ r ∈ m.au, r.data.length ≤ 9223372036854775807) ∧ (∀ r ∈ m.ex, r.data.length ≤ 9223372036854775807) := by
 unfold mO dM at h
 simp only [Bool.and_eq_true, decide_eq_true_eq, List.all_eq_true] at h
 obtain ⟨_, ⟨⟨h1, _⟩, ⟨h2, h2'⟩⟩, ⟨h3, h3'⟩⟩ := h
 refine ⟨h1, h2, h3, fun r hr => ?_, fun r hr => ?_⟩
 ·have := h2' r hr
  unfold eE at this
  simp only [Bool.and_eq_true, decide_eq_true_eq] at this
  omega
 ·have := h3' r hr
  unfold eE at this
  simp only [Bool.and_eq_true, decide_eq_true_eq] at this
  omega
end Go.Proofs.X
