/- Laws and walks that the proof of the statement is made of (part 11). -/
import Derived.Test.YtgljkfpcadempaaGreatRows
import Derived.Test.YtgljkfpcadempaaGreatP10
set_option linter.unusedSimpArgs false
set_option linter.unusedVariables false
namespace Go.Proofs.X
open Go.RowKit
set_option maxRecDepth 100000
section
variable {P : Program} {w : World} {ts : List Value} {df : List Deferred} {d : Option Nat} {ty : TypeId} {ps : String} {af : Array Edge} {g : Option (Nat × Bool)}
def zG (P : Program) (t : TypeId) : Bool := match P.underlying t with | some .bool => true | _ => false
end
theorem DM {l : List RSet} (h : pS l = true) : l.length ≤ 25 ∧ (∀ s ∈ l, s.data.length ≤ 12) ∧ (∀ s ∈ l, s.name.length ≤ 300) ∧ ∀ s ∈ l, ∀ d ∈ s.data, d.length ≤ 300 := by
 simp only [pS, Bool.and_eq_true, decide_eq_true_eq, List.all_eq_true, nS] at h
 exact ⟨h.1, fun s hs => (h.2 s hs).1.1, fun s hs => (h.2 s hs).1.2, fun s hs d hd => (h.2 s hs).2 d hd⟩
section
variable {P : Program} {ops : Array Oper} {Q : Exit → Act → World → Prop} {w : World} {rest : List Oper} {ts : List Value} {df : List Deferred} {ty : TypeId} {ps : String} {af : Array Edge} {g : Option (Nat × Bool)}
theorem Own.slf {B k e : Nat} {w : World} {v : Value} {es : List (List Value)} (h : Own B k e w v es) : v = .slice none 0 0 ∧ es = [] ∨ ∃ g cap, v = .slice (some ⟨g, 0, none⟩) es.length cap := by
 rcases h.row.2 with ⟨h0, h1⟩ | ⟨g', cap', cur, fz, hv, _⟩
 ·exact .inl ⟨h0, List.eq_nil_of_length_eq_zero h1⟩
 ·exact .inr ⟨g', cap', hv⟩
end
end Go.Proofs.X
set_option linter.unusedSimpArgs false
set_option linter.unusedVariables false
namespace Go.Proofs.X
open Go.RowKit
end Go.Proofs.X
set_option linter.unusedSimpArgs false
set_option linter.unusedVariables false
namespace Go.Proofs.X
open Go.RowKit
set_option maxRecDepth 100000
def NG (d : List UInt8) : Int := if (cI d).isSome then 0 else 2
theorem BW (d : List UInt8) (w : World) (hl : d.length ≤ 4611686018427387904) : Calls Tryz.prog 106 #[aI d] w (bS w (.tuple #[.agg (dQ d).cells.toArray, .int .i64 (NG d)])) := by
 have h := RH d w hl
 unfold dQ NG
 cases hp : cI d <;> (rw [hp] at h; exact h)
section
variable {α : Type} {os : List α} {q : Nat} {x : α}
end
def QT (x : Option Rec) (os : List Rec) : Nat := os.length + (match x with | some _ => 1 | none => 0)
structure Sx (x : Option Rec) (os : List Rec) (q : Nat) : Prop where
 non : ∀ r ∈ os, vP r = false
 is : ∀ r, x = some r → vP r = true ∧ q ≤ os.length
 no : x = none → os.length ≤ q
theorem Sx.to {x : Option Rec} {os : List Rec} {q q' : Nat} (h : Sx x os q) (hq : q < QT x os) (hq' : q' < QT x os) : Sx x os q' := by
 cases x with
 | none => have := h.no rfl; simp [QT] at hq; omega
 | some r => exact ⟨h.non, fun r' e => ⟨(h.is r' e).1, by simp [QT] at hq'; omega⟩, fun e => by cases e⟩
end Go.Proofs.X
set_option linter.unusedSimpArgs false
set_option linter.unusedVariables false
namespace Go.Proofs.X
open Go.RowKit
section
variable {P : Program} {w w' : World} {d : Option Nat} {ty : TypeId} {ps : String} {af : Array Edge} {g : Option (Nat × Bool)}
end
section
variable {P : Program} {w w' : World} {d : Option Nat} {ty : TypeId} {ps : String} {af : Array Edge} {g : Option (Nat × Bool)}
end
section
variable {P : Program} {ops : Array Oper} {rest : List Oper} {ts : List Value} {df : List Deferred} {ty : TypeId} {ps : String} {af : Array Edge} {g : Option (Nat × Bool)} {tys : Array TypeId}
end
end Go.Proofs.X
set_option linter.unusedSimpArgs false
set_option linter.unusedVariables false
namespace Go.Proofs.X
open Go.RowKit
set_option maxRecDepth 100000
def NH (f : FuncId) (l : List Rec) (p : Rec → Bool) : Prop := ∀ r ∈ l, ∀ w', Calls Tryz.prog f #[.agg #[aI r.name, .int .i64 r.kind, .int .i64 r.ttl, aI r.data]] w' (bS w' (.bool (p r)))
set_option maxHeartbeats 3000000 in
theorem zH (v : Value) (l : List Rec) (f : FuncId) (p : Rec → Bool) (w : World) (hv : Sl 4 w v (aR l)) (he : Enters Tryz.prog f) (hf : NH f l p) : Calls Tryz.prog 149 #[v, .func (.func f) #[] #[]] w (bS w (.int .i64 (mH p l))) := by
 have hle := hv.le
 have hlen := bD l
 go_enter Tryz.func149, Tryz.ntmps149
 (repeat' first | ((with_reducible refine aJ ?_); go_step) | ((with_reducible refine aH ?_); first | refine bQ ?_ | (refine aK ?_ ?_ <;> intro hc)) | fail)
 go_loopw [5, 8] (fun _ i wr => ∃ k : Nat, k ≤ l.length ∧ i = .int .i64 k ∧ Ext w wr ∧ (l.take k).any p = false) (fun _ i _ => l.length - (intOf i).toNat)
 case atStart => exact ⟨0, Nat.zero_le _, rfl, Ext.refl _, rfl⟩
 case round =>
  obtain ⟨k, hk, rfl, hx, hall⟩ := hrel
  have hv2 := hv.ext hx
  by_cases hlt : k < l.length
  ·have hpe := hv2.elem (jB hlt)
   (repeat' first | ((with_reducible refine aJ ?_); go_step) | ((with_reducible refine aH ?_); first | refine bQ ?_ | (refine aK ?_ ?_ <;> intro hc)) | fail)
   refine eV he rfl rfl rfl (hf _ (List.getElem_mem hlt) _) ?_
   rintro e w2 ⟨rfl, x2⟩
   refine ⟨_, rfl, ?_⟩
   refine aA ?_
   cases hp : p l[k] with
   | true =>
    (repeat' first | ((with_reducible refine aJ ?_); go_step) | ((with_reducible refine aH ?_); first | refine bQ ?_ | (refine aK ?_ ?_ <;> intro hc)) | fail)
    go_ret
    exact ⟨by rw [zA hlt hall hp]; rfl, hx.trans x2⟩
   | false =>
    (repeat' first | ((with_reducible refine aJ ?_); go_step) | ((with_reducible refine aH ?_); first | refine bQ ?_ | (refine aK ?_ ?_ <;> intro hc)) | fail)
    exact ⟨⟨k + 1, by omega, by go_num, hx.trans x2, pZ hlt hall hp⟩, by simp [intOf]; omega⟩
  ·have : k = l.length := by omega
   subst this
   rw [List.take_length] at hall
   (repeat' first | ((with_reducible refine aJ ?_); go_step) | ((with_reducible refine aH ?_); first | refine bQ ?_ | (refine aK ?_ ?_ <;> intro hc)) | fail)
   go_ret
   exact ⟨by rw [zB hall]; rfl, hx⟩
theorem tB (v : Value) (l : List Rec) (f : FuncId) (p : Rec → Bool) (w : World) (hv : Sl 4 w v (aR l)) (he : Enters Tryz.prog f) (hf : NH f l p) : Calls Tryz.prog 102 #[v, .func (.func f) #[] #[]] w (bS w (.bool (l.any p))) := by
 go_enter Tryz.func102, Tryz.ntmps102
 (repeat' first | ((with_reducible refine aJ ?_); go_step) | ((with_reducible refine aH ?_); first | refine bQ ?_ | (refine aK ?_ ?_ <;> intro hc)) | fail)
 refine aE (enters_of Tryz.func149 rfl rfl) rfl rfl (zH v l f p _ hv he hf) ?_; intro w1 x1; refine aA ?_
 (repeat' first | ((with_reducible refine aJ ?_); go_step) | ((with_reducible refine aH ?_); first | refine bQ ?_ | (refine aK ?_ ?_ <;> intro hc)) | fail)
 go_ret
 exact ⟨by rw [← tH]; rfl, x1⟩
theorem parts {v : Value} {l : List Rec} {w : World} (hv : Sl 4 w v (aR l)) {n : Nat} (hn : n ≤ l.length) : Sl 4 w (eG v 4 0 n) (aR (l.take n)) ∧ Sl 4 w (eG v 4 n l.length) (aR (l.drop n)) := by
 have hlen := bD l
 have a := hv.cut (m := 0) (n := n) (by omega) (by omega)
 have b := hv.cut (m := n) (n := l.length) (by omega) (by omega)
 rw [← hlen, List.take_length, hlen] at b
 exact ⟨by simpa [aR, List.map_take] using a, by simpa [aR, List.map_drop] using b⟩
def BX (v : Value) : Nat := match v with | .slice _ n _ => n | _ => 0
theorem Sl.slLen {k : Nat} {w : World} {v : Value} {es : List (List Value)} (h : Sl k w v es) : BX v = es.length := by
 obtain ⟨a, cap, rfl, _⟩ := h
 rfl
def ZEU (B : Nat) (q : ZE) (r : Value) (w' : World) : Prop := ∃ y, r = .tuple #[.agg #[aI q.o, y], .int .i64 q.e] ∧ SetsO B w' y q.l
theorem ZEU.bad {B : Nat} {e : Int} {w' : World} : ZEU B (ZE.bad e) (.tuple #[.agg kX.toArray, .int .i64 e]) w' := ⟨.slice none 0 0, rfl, SetsO.nil _ _⟩
section
variable {P : Program} {a : Act} {w : World} {Q : Exit → Act → World → Prop}
theorem wK {c body : Code} (l : Nat) (J : Act → World → Prop) (μ : Act → World → Nat) (hf : findLabel c l = some (Code.skip.seq body))
 (pass : ∀ a w, J a w → body.wp P (Exit.jump l (fun a' w' => J a' w' ∧ μ a' w' < μ a w) Q) a w)
 (first : (∀ a w, J a w → body.wp P (Exit.jump l J Q) a w) → c.wp P (Exit.jump l J Q) a w) : (Code.scope c).wp P Q a w :=
 wp_scope_jumps l J μ hf (first fun a w h => wp_mono (pass a w h) (by intro e a' w' hq; cases e <;> first | exact hq | exact ⟨hq.1, hq.2.1⟩)) (fun a w h => by
  have h' := pass a w h
  apply wp_seq_k
  intro K hK
  apply wp_skip
  exact hK _ _ h')
end
section
variable {P : Program} {w w' : World} {d : Option Nat} {ty : TypeId} {ps : String} {af : Array Edge} {g : Option (Nat × Bool)} {a : Act}
end
theorem ZEU.cell {B : Nat} {q : ZE} {r : Value} {w : World} (h : ZEU B q r w) : ∃ y, r = .tuple #[.agg #[aI q.o, y], .int .i64 q.e] ∧ SetsO B w y q.l ∧ y.oneCell' = true := by
 obtain ⟨y, rfl, hy⟩ := h
 obtain ⟨_, hq, _⟩ := hy.sets.sl
 exact ⟨y, rfl, hy, hq.one⟩
end Go.Proofs.X
set_option linter.unusedSimpArgs false
set_option linter.unusedVariables false
namespace Go.Proofs.X
open Go.RowKit
end Go.Proofs.X
set_option linter.unusedSimpArgs false
set_option linter.unusedVariables false
namespace Go.Proofs.X
open Go.RowKit
end Go.Proofs.X
set_option linter.unusedSimpArgs false
set_option linter.unusedVariables false
namespace Go.Proofs.X
open Go.RowKit
set_option maxRecDepth 100000
theorem SecOk.withZ {s : SecR} (h : SecOk s) {l : List Rec} (he : (s.inst l).e = 0) : SecOk (s.withZ (s.inst l)) := by
 obtain ⟨a, b, _⟩ := h.inst (l := l) he
 refine ⟨h.og, h.retry, ?_⟩
 intro o l' e
 simp only [SecR.withZ, Option.some.injEq, Prod.mk.injEq] at e
 obtain ⟨rfl, rfl⟩ := e
 exact ⟨a, b⟩
structure OpR where
 op : Int
 n : Int
 now : Int
 l : List Rec
theorem JY (room : Int) (ds : List DeltaR) (h : 0 ≤ room) : ((JI room ds).length : Int) = min (ds.length : Int) room := by
 rw [JI, List.length_drop]
 omega
theorem OJ {o : List UInt8} {a b : List RSet} (ha : ZoneOk o a) (hb : ZoneOk o b) : PW o a o b = 0 := by
 rw [PW, if_pos (mU ha), if_pos (mU hb), if_pos rfl]
end Go.Proofs.X
set_option linter.unusedSimpArgs false
set_option linter.unusedVariables false
namespace Go.Proofs.X
open Go.RowKit
end Go.Proofs.X
set_option linter.unusedSimpArgs false
set_option linter.unusedVariables false
namespace Go.Proofs.X
open Go.RowKit
set_option maxRecDepth 100000
end Go.Proofs.X
set_option linter.unusedSimpArgs false
set_option linter.unusedVariables false
namespace Go.Proofs.X
open Go.RowKit
section
variable {retry n now : Int} (h1 : 1 ≤ retry) (h2 : retry ≤ 100000) (h3 : 0 ≤ n) (h4 : n ≤ 4294967295) (h5 : 0 ≤ now) (h6 : now ≤ 1000000)
include h5 h6
end
end Go.Proofs.X
set_option linter.unusedSimpArgs false
set_option linter.unusedVariables false
namespace Go.Proofs.X
open Go.RowKit
set_option maxRecDepth 100000
section
variable {now : Int} (h5 : 0 ≤ now) (h6 : now ≤ 1000000)
include h5 h6
end
section
variable {n now : Int} (h5 : 0 ≤ now) (h6 : now ≤ 1000000)
include h5 h6
end
structure OpsAt (w : World) (v : Value) (ps : List OpR) : Prop where
 out : ∃ css, Sl 4 w v css ∧ css.length = ps.length ∧ ∀ (i : Nat) (p : OpR), ps[i]? = some p → ∃ u, css[i]? = some [.int .i64 p.op, .int .i64 p.n, .int .i64 p.now, u] ∧ Sl 4 w u (aR p.l)
theorem OpsAt.ext {w w' : World} {v : Value} {ps : List OpR} (h : OpsAt w v ps) (hx : Ext w w') : OpsAt w' v ps := by
 obtain ⟨css, h1, h2, h3⟩ := h
 exact ⟨css, h1.ext hx, h2, fun i z hi => let ⟨u, a, b⟩ := h3 i z hi; ⟨u, a, b.ext hx⟩⟩
section
variable {P : Program} {w : World} {ts : List Value} {df : List Deferred} {d : Option Nat} {ty : TypeId} {ps : String} {af : Array Edge} {g : Option (Nat × Bool)}
end
structure MsgsAt (w : World) (v : Value) (ms : List MsgR) : Prop where
 out : ∃ css, Sl 13 w v css ∧ css.length = ms.length ∧ ∀ (i : Nat) (m : MsgR), ms[i]? = some m → ∃ q a u e, css[i]? = some (aV m q a u e) ∧ MsgV w m q a u e
theorem MsgsAt.ext {w w' : World} {v : Value} {ms : List MsgR} (h : MsgsAt w v ms) (hx : Ext w w') : MsgsAt w' v ms := by
 obtain ⟨css, h1, h2, h3⟩ := h
 exact ⟨css, h1.ext hx, h2, fun i m hi => let ⟨q, a, u, e, b, c⟩ := h3 i m hi; ⟨q, a, u, e, b, c.ext hx⟩⟩
def fM : List Value := [.int .i64 0, .bool false, .int .i64 0, .bool false, .bool false, .bool false, .bool false, .int .i64 0, .slice none 0 0, .slice none 0 0, .slice none 0 0, .slice none 0 0, .int .i64 0]
theorem cM {w : World} {m : MsgR} {q a u e : Value} (h : MsgV w m q a u e) : (Value.agg (aV m q a u e).toArray).cells.all (·.oneCell') = true := by
 have := h.one
 simp only [Value.cells, List.all_toArray, List.all_eq_true]
 exact this
open Go.ChangeShapes Go.WideShapes Go.ChangeAt Go.RowKit
theorem HA {H : Type} {enc : TypeId × Value → H} {P : Program} {w : World} {base : Nat} {spare : Nat → Bool} {held : Bool} {t : TypeId} {fuel : Nat} {c : Value} {x : DataW H × List MemPlace} (ht : P.underlying t = some .bool) (h : DataW.trod enc P w base spare held fuel t [c] = some x) : ∃ b : Bool, c = .bool b := by
 obtain ⟨b, h1, _⟩ := DataW.trod_bool ht h
 exact ⟨b, by simpa using h1⟩
end Go.Proofs.X
set_option linter.unusedSimpArgs false
set_option linter.unusedVariables false
namespace Go.Proofs.X
open Go.RowKit
end Go.Proofs.X
set_option linter.unusedSimpArgs false
set_option linter.unusedVariables false
namespace Go.Proofs.X
open Go.RowKit
set_option maxRecDepth 100000
end Go.Proofs.X
set_option linter.unusedSimpArgs false
set_option linter.unusedVariables false
namespace Go.Proofs.X
open Go.RowKit
end Go.Proofs.X
set_option linter.unusedSimpArgs false
set_option linter.unusedVariables false
namespace Go.Proofs.X
open Go.RowKit
end Go.Proofs.X
set_option linter.unusedSimpArgs false
set_option linter.unusedVariables false
namespace Go.Proofs.X
open Go.RowKit
set_option maxRecDepth 100000
theorem nB (n a b : Int) (w : World) : Calls Tryz.prog 48 #[.int .i64 n, .int .i64 a, .int .i64 b] w (bS w (.bool (fY n a b))) := by
 go_enter Tryz.func48, Tryz.ntmps48
 refine_lift II (fun hc => ?_) (fun hc => ?_)
 all_goals
  go_ret
  refine ⟨?_, Ext.refl _⟩
  simp [fY]
  omega
theorem vT (q : mJ) (w : World) : Calls Tryz.prog 46 #[.agg #[aI q.1, .int .i64 q.2]] w (bS w (.bool (qU q))) := by
 go_enter Tryz.func46, Tryz.ntmps46
 refine_lift zW fun _ _ => ?_
 refine bU (vs := [aI q.1, .int .i64 q.2]) rfl rfl ?_
 intro p w1 x1 hp
 refine aA ?_
 refine_lift PA fun _ _ => ?_
 refine aE (enters_of Tryz.func65 rfl rfl) rfl rfl ((show Calls Tryz.prog 65 #[aI q.1] w1 (bS w1 (.int .i64 (eP q.1))) from NV q.1 w1)) ?_; intro w2 x2; refine aA ?_
 have hp2 := hp.ext x2
 by_cases hcE : eP q.1 = 0
 ·rw [hcE]
  refine_lift fH ?_
  refine aE (enters_of Tryz.func48 rfl rfl) rfl rfl (nB q.2 1 65535 _) ?_; intro w3 x3; refine aA ?_
  have hp3 := hp2.ext x3
  cases hw : fY q.2 1 65535 with
  | false =>
   refine_lift fH ?_
   go_ret
   refine ⟨?_, (x1.trans x2).trans x3⟩
   simp only [fY] at hw
   simp [qU, hcE, hw]
  | true =>
   refine_lift fH ?_
   go_ret
   refine ⟨?_, (x1.trans x2).trans x3⟩
   simp only [fY] at hw
   simp [qU, hcE, hw]
 ·refine_lift II (fun hc => ?_) (fun hc => ?_)
  all_goals first
   | (exfalso; contradiction)
   | skip
  go_ret
  refine ⟨?_, x1.trans x2⟩
  simp [qU, hcE]
theorem LX (r : Rec) (w : World) : Calls Tryz.prog 103 #[.agg #[aI r.name, .int .i64 r.kind, .int .i64 r.ttl, aI r.data]] w (bS w (.bool (!decide (bF r = 0)))) := by
 go_enter Tryz.func103, Tryz.ntmps103
 refine_lift zW fun _ _ => ?_
 refine bU (vs := [aI r.name, .int .i64 r.kind, .int .i64 r.ttl, aI r.data]) rfl rfl ?_
 intro p w1 x1 hp
 refine aA ?_
 refine_lift PA fun _ _ => ?_
 refine aE (enters_of Tryz.func100 rfl rfl) rfl rfl (QR r _) ?_; intro w2 x2; refine aA ?_
 refine_lift fH ?_
 go_ret
 exact ⟨rfl, x1.trans x2⟩
theorem rH (v : Value) (l : List Rec) (w : World) (hv : Sl 4 w v (aR l)) : Calls Tryz.prog 51 #[v] w (bS w (.bool (fX l))) := by
 have hlen := bD l
 go_enter Tryz.func51, Tryz.ntmps51
 refine_lift RE (fun hc => ?_) (fun _ _ hc => ?_)
 ·have h2 : decide (l.length ≤ 200) = true := decide_eq_true (by omega)
  refine aE (enters_of Tryz.func102 rfl rfl) rfl rfl (tB v l _ (fun r => !decide (bF r = 0)) _ hv (enters_of Tryz.func103 rfl rfl) (fun r _ w' => LX r w')) ?_; intro w1 x1; refine aA ?_
  refine_lift fH ?_
  go_ret
  refine ⟨?_, x1⟩
  rw [fX, h2]
  rfl
 ·have h2 : decide (l.length ≤ 200) = false := decide_eq_false (by omega)
  go_ret
  refine ⟨?_, Ext.refl _⟩
  rw [fX, h2]
  rfl
set_option maxHeartbeats 1000000 in
theorem yI (q : mJ) (w : World) : Calls Tryz.prog 50 #[.agg #[aI q.1, .int .i64 q.2]] w (bS w (.bool (!qU q))) := by
 go_enter Tryz.func50, Tryz.ntmps50
 refine_lift zW fun _ _ => ?_
 refine bU (vs := [aI q.1, .int .i64 q.2]) rfl rfl ?_
 intro p w1 x1 hp
 refine aA ?_
 refine_lift PA fun _ _ => ?_
 refine aE (enters_of Tryz.func46 rfl rfl) rfl rfl (vT q _) ?_; intro w2 x2; refine aA ?_
 refine_lift fH ?_
 go_ret
 exact ⟨rfl, x1.trans x2⟩
def NI (f : FuncId) (l : List mJ) (p : mJ → Bool) : Prop := ∀ r ∈ l, ∀ w', Calls Tryz.prog f #[.agg #[aI r.1, .int .i64 r.2]] w' (bS w' (.bool (p r)))
theorem nJ {l : List mJ} {k : Nat} (h : k < l.length) : (cH l)[k]? = some [aI l[k].1, .int .i64 l[k].2] := by
 simp [cH, List.getElem?_eq_getElem h]
set_option maxHeartbeats 3000000 in
theorem zI (v : Value) (l : List mJ) (f : FuncId) (p : mJ → Bool) (w : World) (hv : Sl 2 w v (cH l)) (he : Enters Tryz.prog f) (hf : NI f l p) : Calls Tryz.prog 101 #[v, .func (.func f) #[] #[]] w (bS w (.int .i64 (mH p l))) := by
 have hle := hv.le
 have hlen := cB l
 go_enter Tryz.func101, Tryz.ntmps101
 refine_lift PA fun _ _ => ?_
 go_loopw [5, 8] (fun _ i wr => ∃ k : Nat, k ≤ l.length ∧ i = .int .i64 k ∧ Ext w wr ∧ (l.take k).any p = false) (fun _ i _ => l.length - (intOf i).toNat)
 case atStart => exact ⟨0, Nat.zero_le _, rfl, Ext.refl _, rfl⟩
 case round =>
  obtain ⟨k, hk, rfl, hx, hall⟩ := hrel
  have hv2 := hv.ext hx
  by_cases hlt : k < l.length
  ·have hpe := hv2.elem (nJ hlt)
   refine_lift SM ?_; intro _ _ _ _ _ _
   refine eV he rfl rfl rfl (hf _ (List.getElem_mem hlt) _) ?_
   rintro e w2 ⟨rfl, x2⟩
   refine ⟨_, rfl, ?_⟩
   refine aA ?_
   cases hp : p l[k] with
   | true =>
    refine_lift fH ?_
    go_ret
    exact ⟨by rw [zA hlt hall hp]; rfl, hx.trans x2⟩
   | false =>
    refine_lift fH ?_
    exact ⟨⟨k + 1, by omega, by go_num, hx.trans x2, pZ hlt hall hp⟩, by simp [intOf]; omega⟩
  ·have : k = l.length := by omega
   subst this
   rw [List.take_length] at hall
   refine_lift TE fun _ => ?_
   go_ret
   exact ⟨by rw [zB hall]; rfl, hx⟩
theorem mE (v : Value) (l : List mJ) (f : FuncId) (p : mJ → Bool) (w : World) (hv : Sl 2 w v (cH l)) (he : Enters Tryz.prog f) (hf : NI f l p) : Calls Tryz.prog 49 #[v, .func (.func f) #[] #[]] w (bS w (.bool (l.any p))) := by
 go_enter Tryz.func49, Tryz.ntmps49
 refine_lift PA fun _ _ => ?_
 refine aE (enters_of Tryz.func101 rfl rfl) rfl rfl (zI v l f p _ hv he hf) ?_; intro w1 x1; refine aA ?_
 refine_lift fH ?_
 go_ret
 exact ⟨by rw [← tH]; rfl, x1⟩
theorem iE {l : List mJ} {b : Bool} (h : l.any (fun r => !qU r) = b) : l.all qU = !b := by
 rw [← h, List.all_eq_not_any_not]
set_option maxHeartbeats 3000000 in
theorem vU (m : MsgR) (q a u e : Value) (w : World) (hm : MsgV w m q a u e) : Calls Tryz.prog 21 #[.agg (aV m q a u e).toArray] w (bS w (.int .i64 (cL m))) := by
 go_enter Tryz.func21, Tryz.ntmps21
 refine_lift zW fun _ _ => ?_
 refine bU (vs := aV m q a u e) rfl rfl ?_
 intro p w1 x1 hp
 refine aA ?_
 unfold aV at hp
 have hm0 := hm
 obtain ⟨hq0, ha0, hu0, he0⟩ := hm
 have hq1 := hq0.ext x1
 have hm := hm0
 refine_lift PA fun _ _ => ?_
 all_goals first
  | (exfalso; contradiction)
  | (exfalso; omega)
  | skip
 refine aE (enters_of Tryz.func48 rfl rfl) rfl rfl (nB m.id 0 65535 _) ?_; intro w2 x2; refine aA ?_
 have hx2 := (Ext.refl w1).trans x2
 have hp2 := hp.ext hx2
 cases h2 : fY m.id 0 65535 with
 | false =>
  refine_lift fH ?_
  all_goals first
   | (exfalso; contradiction)
   | (exfalso; omega)
   | skip
  go_ret
  refine ⟨?_, x1.trans hx2⟩
  simp [cL, h2]
 | true =>
  refine_lift fH ?_
  all_goals first
   | (exfalso; contradiction)
   | (exfalso; omega)
   | skip
  refine aE (enters_of Tryz.func48 rfl rfl) rfl rfl (nB m.op 0 15 _) ?_; intro w3 x3; refine aA ?_
  have hx3 := hx2.trans x3
  have hp3 := hp.ext hx3
  cases h3 : fY m.op 0 15 with
  | false =>
   refine_lift fH ?_
   all_goals first
    | (exfalso; contradiction)
    | (exfalso; omega)
    | skip
   go_ret
   refine ⟨?_, x1.trans hx3⟩
   simp [cL, h2, h3]
  | true =>
   refine_lift fH ?_
   all_goals first
    | (exfalso; contradiction)
    | (exfalso; omega)
    | skip
   refine aE (enters_of Tryz.func48 rfl rfl) rfl rfl (nB m.rcode 0 15 _) ?_; intro w4 x4; refine aA ?_
   have hx4 := hx3.trans x4
   have hp4 := hp.ext hx4
   cases h4 : fY m.rcode 0 15 with
   | false =>
    refine_lift fH ?_
    all_goals first
     | (exfalso; contradiction)
     | (exfalso; omega)
     | skip
    go_ret
    refine ⟨?_, x1.trans hx4⟩
    simp [cL, h2, h3, h4]
   | true =>
    by_cases hz : m.size = 0
    ·clear hm0
     by_cases hl : m.qs.length ≤ 10
     ·have hl0 : ((cH m.qs).length : Int) ≤ 10 := by rw [cB]; omega
      refine_lift IJ (fun hc _ _ hc => ?_) (fun hc hc _ _ => ?_) (fun hc => ?_)
      all_goals first
       | (exfalso; contradiction)
       | (exfalso; omega)
       | skip
      refine aE (enters_of Tryz.func49 rfl rfl) rfl rfl (mE q m.qs _ (fun r => !qU r) _ ((hm.qs.ext x1).ext hx4) (enters_of Tryz.func50 rfl rfl) (fun r _ w' => yI r w')) ?_; intro w7 x7; refine aA ?_
      have hx7 := hx4.trans x7
      have hp7 := hp.ext hx7
      cases h7 : m.qs.any (fun r => !qU r) with
      | true =>
       refine_lift fH ?_
       all_goals first
        | (exfalso; contradiction)
        | (exfalso; omega)
        | skip
       go_ret
       refine ⟨?_, x1.trans hx7⟩
       simp [cL, h2, h3, h4, hz, hl, iE h7]
      | false =>
       refine_lift SL fun _ _ _ _ => ?_
       all_goals first
        | (exfalso; contradiction)
        | (exfalso; omega)
        | skip
       refine aE (enters_of Tryz.func51 rfl rfl) rfl rfl (rH a m.an _ ((hm.an.ext x1).ext hx7)) ?_; intro w8 x8; refine aA ?_
       have hx8 := hx7.trans x8
       have hp8 := hp.ext hx8
       cases h8 : fX m.an with
       | false =>
        refine_lift fH ?_
        all_goals first
         | (exfalso; contradiction)
         | (exfalso; omega)
         | skip
        go_ret
        refine ⟨?_, x1.trans hx8⟩
        simp [cL, h2, h3, h4, hz, hl, iE h7, h8]
       | true =>
        refine_lift fH ?_
        all_goals first
         | (exfalso; contradiction)
         | (exfalso; omega)
         | skip
        refine aE (enters_of Tryz.func51 rfl rfl) rfl rfl (rH u m.au _ ((hm.au.ext x1).ext hx8)) ?_; intro w9 x9; refine aA ?_
        have hx9 := hx8.trans x9
        have hp9 := hp.ext hx9
        cases h9 : fX m.au with
        | false =>
         refine_lift fH ?_
         all_goals first
          | (exfalso; contradiction)
          | (exfalso; omega)
          | skip
         go_ret
         refine ⟨?_, x1.trans hx9⟩
         simp [cL, h2, h3, h4, hz, hl, iE h7, h8, h9]
        | true =>
         refine_lift fH ?_
         all_goals first
          | (exfalso; contradiction)
          | (exfalso; omega)
          | skip
         refine aE (enters_of Tryz.func51 rfl rfl) rfl rfl (rH e m.ex _ ((hm.ex.ext x1).ext hx9)) ?_; intro w10 x10; refine aA ?_
         have hx10 := hx9.trans x10
         have hp10 := hp.ext hx10
         cases h10 : fX m.ex with
         | false =>
          refine_lift fH ?_
          all_goals first
           | (exfalso; contradiction)
           | (exfalso; omega)
           | skip
          go_ret
          refine ⟨?_, x1.trans hx10⟩
          simp [cL, h2, h3, h4, hz, hl, iE h7, h8, h9, h10]
         | true =>
          refine_lift fH ?_
          all_goals first
           | (exfalso; contradiction)
           | (exfalso; omega)
           | skip
          go_ret
          refine ⟨?_, x1.trans hx10⟩
          simp [cL, h2, h3, h4, hz, hl, iE h7, h8, h9, h10]
     ·have hl0 : ¬ ((cH m.qs).length : Int) ≤ 10 := by rw [cB]; omega
      refine_lift IJ (fun hc _ _ hc => ?_) (fun hc hc _ _ => ?_) (fun hc => ?_)
      all_goals first
       | (exfalso; contradiction)
       | (exfalso; omega)
       | skip
      go_ret
      refine ⟨?_, x1.trans hx4⟩
      simp [cL, h2, h3, h4, hz, hl]
    ·clear hm0
     refine_lift IJ (fun hc _ _ hc => ?_) (fun hc hc _ _ => ?_) (fun hc => ?_)
     all_goals first
      | (exfalso; contradiction)
      | (exfalso; omega)
      | skip
     refine aE (enters_of Tryz.func48 rfl rfl) rfl rfl (nB m.size 512 65535 _) ?_; intro w6 x6; refine aA ?_
     have hx6 := hx4.trans x6
     have hp6 := hp.ext hx6
     cases h6 : fY m.size 512 65535 with
     | false =>
      refine_lift fH ?_
      all_goals first
       | (exfalso; contradiction)
       | (exfalso; omega)
       | skip
      go_ret
      refine ⟨?_, x1.trans hx6⟩
      simp [cL, h2, h3, h4, hz, h6]
     | true =>
      by_cases hl : m.qs.length ≤ 10
      ·have hl0 : ((cH m.qs).length : Int) ≤ 10 := by rw [cB]; omega
       refine_lift PM (fun hc _ _ => ?_) (fun _ _ hc => ?_)
       all_goals first
        | (exfalso; contradiction)
        | (exfalso; omega)
        | skip
       refine aE (enters_of Tryz.func49 rfl rfl) rfl rfl (mE q m.qs _ (fun r => !qU r) _ ((hm.qs.ext x1).ext hx6) (enters_of Tryz.func50 rfl rfl) (fun r _ w' => yI r w')) ?_; intro w8 x8; refine aA ?_
       have hx8 := hx6.trans x8
       have hp8 := hp.ext hx8
       cases h8 : m.qs.any (fun r => !qU r) with
       | true =>
        refine_lift fH ?_
        all_goals first
         | (exfalso; contradiction)
         | (exfalso; omega)
         | skip
        go_ret
        refine ⟨?_, x1.trans hx8⟩
        simp [cL, h2, h3, h4, hz, h6, hl, iE h8]
       | false =>
        refine_lift SL fun _ _ _ _ => ?_
        all_goals first
         | (exfalso; contradiction)
         | (exfalso; omega)
         | skip
        refine aE (enters_of Tryz.func51 rfl rfl) rfl rfl (rH a m.an _ ((hm.an.ext x1).ext hx8)) ?_; intro w9 x9; refine aA ?_
        have hx9 := hx8.trans x9
        have hp9 := hp.ext hx9
        cases h9 : fX m.an with
        | false =>
         refine_lift fH ?_
         all_goals first
          | (exfalso; contradiction)
          | (exfalso; omega)
          | skip
         go_ret
         refine ⟨?_, x1.trans hx9⟩
         simp [cL, h2, h3, h4, hz, h6, hl, iE h8, h9]
        | true =>
         refine_lift fH ?_
         all_goals first
          | (exfalso; contradiction)
          | (exfalso; omega)
          | skip
         refine aE (enters_of Tryz.func51 rfl rfl) rfl rfl (rH u m.au _ ((hm.au.ext x1).ext hx9)) ?_; intro w10 x10; refine aA ?_
         have hx10 := hx9.trans x10
         have hp10 := hp.ext hx10
         cases h10 : fX m.au with
         | false =>
          refine_lift fH ?_
          all_goals first
           | (exfalso; contradiction)
           | (exfalso; omega)
           | skip
          go_ret
          refine ⟨?_, x1.trans hx10⟩
          simp [cL, h2, h3, h4, hz, h6, hl, iE h8, h9, h10]
         | true =>
          refine_lift fH ?_
          all_goals first
           | (exfalso; contradiction)
           | (exfalso; omega)
           | skip
          refine aE (enters_of Tryz.func51 rfl rfl) rfl rfl (rH e m.ex _ ((hm.ex.ext x1).ext hx10)) ?_; intro w11 x11; refine aA ?_
          have hx11 := hx10.trans x11
          have hp11 := hp.ext hx11
          cases h11 : fX m.ex with
          | false =>
           refine_lift fH ?_
           all_goals first
            | (exfalso; contradiction)
            | (exfalso; omega)
            | skip
           go_ret
           refine ⟨?_, x1.trans hx11⟩
           simp [cL, h2, h3, h4, hz, h6, hl, iE h8, h9, h10, h11]
          | true =>
           refine_lift fH ?_
           all_goals first
            | (exfalso; contradiction)
            | (exfalso; omega)
            | skip
           go_ret
           refine ⟨?_, x1.trans hx11⟩
           simp [cL, h2, h3, h4, hz, h6, hl, iE h8, h9, h10, h11]
      ·have hl0 : ¬ ((cH m.qs).length : Int) ≤ 10 := by rw [cB]; omega
       refine_lift PM (fun hc _ _ => ?_) (fun _ _ hc => ?_)
       all_goals first
        | (exfalso; contradiction)
        | (exfalso; omega)
        | skip
       go_ret
       refine ⟨?_, x1.trans hx6⟩
       simp [cL, h2, h3, h4, hz, h6, hl]
structure MsgsV (B : Nat) (w : World) (v : Value) (ms : List MsgR) : Prop where
 out : ∃ css, Own B 13 26 w v css ∧ css.length = ms.length ∧ ∀ (i : Nat) (m : MsgR), ms[i]? = some m → ∃ q a, css[i]? = some (aV m q a (.slice none 0 0) (.slice none 0 0)) ∧ Own B 2 54 w q (cH m.qs) ∧ Own B 4 106 w a (aR m.an) ∧ m.au = [] ∧ m.ex = []
theorem MsgsV.nil (B : Nat) (w : World) : MsgsV B w (.slice none 0 0) [] := ⟨[], Own.nil _ _ _ _, rfl, by simp⟩
theorem MsgsV.ext {B : Nat} {w w' : World} {v : Value} {ms : List MsgR} (h : MsgsV B w v ms) (hx : Ext w w') : MsgsV B w' v ms := by
 obtain ⟨css, h1, h2, h3⟩ := h
 exact ⟨css, h1.ext hx, h2, fun i m hi => let ⟨q, a, b, c, d, e, f⟩ := h3 i m hi; ⟨q, a, b, c.ext hx, d.ext hx, e, f⟩⟩
theorem MsgsV.weaken {B C : Nat} {w : World} {v : Value} {ms : List MsgR} (h : MsgsV B w v ms) (hc : C ≤ B) : MsgsV C w v ms := by
 obtain ⟨css, h1, h2, h3⟩ := h
 exact ⟨css, h1.weaken hc, h2, fun i m hi => let ⟨q, a, b, c, d, e, f⟩ := h3 i m hi; ⟨q, a, b, c.weaken hc, d.weaken hc, e, f⟩⟩
theorem MsgsV.put {B b t : Nat} {w w' : World} {v : Value} {ms : List MsgR} {cs : Array Value} {fz : Nat × Nat} {o : Obj} (h : MsgsV B w v ms) (hb : w.heap[b]? = some (.cells cs t fz)) (h1 : t ≠ 26) (h2 : t ≠ 54) (h3 : t ≠ 106) (hp : Put w w' b o) : MsgsV B w' v ms := by
 obtain ⟨css, a, c, e⟩ := h
 exact ⟨css, a.mv hp.mv (.inr (a.neBlock hb h1)), c, fun i d hi => let ⟨g, n, x, y, z, u⟩ := e i d hi; ⟨g, n, x, y.mv hp.mv (.inr (y.neBlock hb h2)), z.mv hp.mv (.inr (z.neBlock hb h3)), u⟩⟩
theorem MsgsV.add {B : Nat} {w w' : World} {v v' q a : Value} {ms : List MsgR} {m : MsgR} {css : List (List Value)} (h1 : Own B 13 26 w v css) (h2 : css.length = ms.length)
 (h3 : ∀ (i : Nat) (m : MsgR), ms[i]? = some m → ∃ q a, css[i]? = some (aV m q a (.slice none 0 0) (.slice none 0 0)) ∧ Own B 2 54 w q (cH m.qs) ∧ Own B 4 106 w a (aR m.an) ∧ m.au = [] ∧ m.ex = []) (hm : Mv v.ownBlock w w')
 (o : Own B 13 26 w' v' (css ++ [aV m q a (.slice none 0 0) (.slice none 0 0)])) (hq : Own B 2 54 w q (cH m.qs)) (ha : Own B 4 106 w a (aR m.an)) (hu : m.au = []) (he : m.ex = []) : MsgsV B w' v' (ms ++ [m]) := by
 refine ⟨_, o, by simp [h2], fun i x hi => ?_⟩
 by_cases hlt : i < ms.length
 ·rw [List.getElem?_append_left hlt] at hi
  obtain ⟨q', a', b, c, d, e⟩ := h3 i x hi
  exact ⟨q', a', by rw [List.getElem?_append_left (by omega)]; exact b, c.mv hm (c.ne h1 (by decide)), d.mv hm (d.ne h1 (by decide)), e⟩
 ·rw [List.getElem?_append_right (by omega)] at hi
  have hi0 : i - ms.length = 0 := by
   have := (List.getElem?_eq_some_iff.1 hi).1
   simp only [List.length_cons, List.length_nil] at this
   omega
  rw [hi0] at hi
  have hx : m = x := by simpa using hi
  subst hx
  have : i = css.length := by omega
  subst this
  exact ⟨q, a, by rw [List.getElem?_append_right (Nat.le_refl _)]; simp, hq.mv hm (hq.ne h1 (by decide)), ha.mv hm (ha.ne h1 (by decide)), hu, he⟩
theorem DN {l : List mJ} : ∀ f ∈ cH l, ∀ u ∈ f, u.oneCell' = true := by
 intro f hf u hu
 simp only [cH, List.mem_map] at hf
 obtain ⟨q, _, rfl⟩ := hf
 simp only [List.mem_cons, List.not_mem_nil, or_false] at hu
 rcases hu with rfl | rfl <;> rfl
def LY (l : List Rec) (z : List UInt8) : List Rec := l.filter fun r => decide (bF r = 0) && cW r.name z
structure JudR where
 qn : List UInt8
 qt : Int
 zone : List UInt8
 code : Int
 an : List Rec
 au : List Rec
def QH (a b : List UInt8) : Bool := decide (fold a = fold b)
def QI (n : List UInt8) : Int := (((aX n).getD []).length : Nat)
def JudR.step (j : JudR) (s : List UInt8 × Int) (r : Rec) : List UInt8 × Int :=
 if r.kind = 2 ∧ cW j.qn (fold r.name) = true ∧ QH (fold r.name) j.zone = false ∧ s.2 < QI (fold r.name) then (fold r.name, QI (fold r.name)) else s
structure ActR where
 kind : Int
 to : Int
 qn : List UInt8
 qt : Int
 code : Int
 ans : List Rec
 auth : List Rec
 deriving DecidableEq
structure TaskR where
 qn : List UInt8
 qt : Int
 roots : List Int
 zone : List UInt8
 servers : List Int
 got : List Rec
 chain : Int
 left : Int
 stop : Option ActR
def TaskR.done (t : TaskR) (code : Int) (ans auth : List Rec) : TaskR × ActR := ({ t with stop := some ⟨2, 0, [], 0, code, ans, auth⟩ }, ⟨2, 0, [], 0, code, ans, auth⟩)
def TaskR.on (t : TaskR) : TaskR × ActR := match t.servers with
 | [] => t.done 2 [] []
 | s :: rest => if t.left = 0 then t.done 2 [] [] else ({ t with servers := rest, left := t.left - 1 }, ⟨1, s, t.qn, t.qt, 0, [], []⟩)
def QJ (r : Rec) : Rec := { r with name := fold r.name }
def TaskR.of (t : TaskR) (l : List Rec) (n : List UInt8) (k : Int) : List Rec :=
 ((LY l t.zone).map QJ).filter fun r => decide (r.name = fold n) && (decide (r.kind = k) || decide (k = 255))
structure TaskOk (t : TaskR) : Prop where
 left : 0 ≤ t.left
 zone : t.zone = [] ∨ cW t.zone t.zone = true
 stop : ∀ a, t.stop = some a → a.kind = 2
def OK (t t' : TaskR) (a : ActR) : Prop := (a.kind = 1 ∧ t.stop = none ∧ t'.stop = none ∧ t'.left = t.left - 1 ∧ 1 ≤ t.left) ∨ (a.kind = 2 ∧ t'.stop = some a ∧ t'.left = t.left)
theorem TaskOk.step {t t' : TaskR} {a : ActR} (ht : TaskOk t) (h : OK t t' a) (hz : t'.zone = [] ∨ cW t'.zone t.zone = true) : TaskOk t' := by
 refine ⟨?_, ?_, ?_⟩
 ·have := ht.left
  rcases h with ⟨_, _, _, h, k⟩ | ⟨_, _, h⟩ <;> omega
 ·rcases hz with hz | hz
  ·exact .inl hz
  ·exact .inr (uX (qA hz).1)
 ·intro b hb
  rcases h with ⟨_, _, h, _⟩ | ⟨h1, h2, _⟩
  ·rw [h] at hb; cases hb
  ·rw [h2] at hb; cases hb; exact h1
def NJ : List Value := [aI [], .int .i64 0, .int .i64 0, aI []]
def RecFnC (w : World) (f : FuncId) (caps : Array Value) (l : List Rec) (p : Rec → Bool) : Prop := ∀ r ∈ l, ∀ w', Ext w w' → Calls Tryz.prog f ([Value.agg #[aI r.name, .int .i64 r.kind, .int .i64 r.ttl, aI r.data]].toArray ++ caps) w' (bS w' (.bool (p r)))
theorem RecFnC.ext {w w1 : World} {f : FuncId} {caps : Array Value} {l : List Rec} {p : Rec → Bool} (h : RecFnC w f caps l p) (hx : Ext w w1) : RecFnC w1 f caps l p :=
 fun r hr w' hx' => h r hr w' (hx.trans hx')
def OL (a : ActR) (v1 v2 : Value) : List Value := [.int .i64 a.kind, .int .i64 a.to, aI a.qn, .int .i64 a.qt, .int .i64 a.code, v1, v2]
theorem LZ {a : ActR} {v1 v2 : Value} (h1 : v1.oneCell' = true) (h2 : v2.oneCell' = true) : (Value.agg (OL a v1 v2).toArray).cells.all (·.oneCell') = true := by
 have k1 : ∀ s, (aI s).oneCell' = true := fun _ => rfl
 have k2 : ∀ n, (Value.int .i64 n).oneCell' = true := fun _ => rfl
 simp [OL, Value.cells, h1, h2, k1, k2]
structure ActV (w : World) (v : Value) (a : ActR) : Prop where
 out : ∃ v1 v2, v = .agg (OL a v1 v2).toArray ∧ Own 0 4 106 w v1 (aR a.ans) ∧ Own 0 4 106 w v2 (aR a.auth)
theorem ActV.ext {w w' : World} {v : Value} {a : ActR} (h : ActV w v a) (hx : Ext w w') : ActV w' v a := by
 obtain ⟨v1, v2, h1, h2, h3⟩ := h.out
 exact ⟨v1, v2, h1, h2.ext hx, h3.ext hx⟩
theorem Mv.fresh {row : Option Nat} {w w1 w2 : World} {c : Nat} (h : Mv row w w1) (k : Mv (some c) w1 w2) (hc : w.heap.size ≤ c) : Mv row w w2 :=
 ⟨k.os.trans h.os, k.tape.trans h.tape, k.output.trans h.output, Nat.le_trans h.size k.size,
  fun j hj hn => by rw [k.block j (Nat.lt_of_lt_of_le hj h.size) (by intro e; have := Option.some.inj e; omega), h.block j hj hn], Nat.le_trans h.drawn k.drawn⟩
theorem ActV.one {w : World} {v : Value} {a : ActR} (h : ActV w v a) : v.cells.all (·.oneCell') = true := by
 obtain ⟨v1, v2, rfl, h2, h3⟩ := h.out
 exact LZ h2.one h3.one
theorem ActV.size {w : World} {v : Value} {a : ActR} (h : ActV w v a) : v.cells.size = 7 := by
 obtain ⟨v1, v2, rfl, h2, h3⟩ := h.out
 rfl
theorem ActV.put {w w' : World} {v : Value} {a : ActR} {c t : Nat} {cs : Array Value} {fz : Nat × Nat} {o : Obj} (h : ActV w v a) (hp : Put w w' c o) (hc : w.heap[c]? = some (.cells cs t fz)) (ht : t ≠ 106) : ActV w' v a := by
 obtain ⟨v1, v2, h1, h2, h3⟩ := h.out
 exact ⟨v1, v2, h1, h2.mv hp.mv (.inr (h2.neBlock hc ht)), h3.mv hp.mv (.inr (h3.neBlock hc ht))⟩
end Go.Proofs.X
