/- Laws and walks that the proof of the statement is made of (part 11). -/
import Derived.Test.YtgljkfpcadempaaGreatRows
import Derived.Test.YtgljkfpcadempaaGreatP10
set_option linter.unusedSimpArgs false
set_option linter.unusedVariables false
namespace Go.Proofs.X
open Go.RowKit
set_option maxRecDepth 100000
def BE (v : Value) : Nat := match v with | .slice _ n _ => n | _ => 0
theorem Sl.slLen {k : Nat} {w : World} {v : Value} {es : List (List Value)} (h : Sl k w v es) : BE v = es.length := by
 obtain ⟨a, cap, rfl, _⟩ := h
 rfl
def ZEU (B : Nat) (q : ZE) (r : Value) (w' : World) : Prop := ∃ y, r = .tuple #[.agg #[aH q.o, y], .int .i64 q.e] ∧ SetsO B w' y q.l
theorem ZEU.bad {B : Nat} {e : Int} {w' : World} : ZEU B (ZE.bad e) (.tuple #[.agg kR.toArray, .int .i64 e]) w' := ⟨.slice none 0 0, rfl, SetsO.nil _ _⟩
section
variable {P : Program} {a : Act} {w : World} {Q : Exit → Act → World → Prop}
theorem vP {c body : Code} (l : Nat) (J : Act → World → Prop) (μ : Act → World → Nat) (hf : findLabel c l = some (Code.skip.seq body))
 (pass : ∀ a w, J a w → body.wp P (Exit.jump l (fun a' w' => J a' w' ∧ μ a' w' < μ a w) Q) a w)
 (first : (∀ a w, J a w → body.wp P (Exit.jump l J Q) a w) → c.wp P (Exit.jump l J Q) a w) : (Code.scope c).wp P Q a w :=
 wp_scope_jumps l J μ hf (first fun a w h => wp_mono (pass a w h) (by intro e a' w' hq; cases e <;> first | exact hq | exact ⟨hq.1, hq.2.1⟩)) (fun a w h => by
  have h' := pass a w h
  apply wp_seq_k
  intro K hK
  apply wp_skip
  exact hK _ _ h')
end
section
variable {P : Program} {w w' : World} {d : Option Nat} {ty : TypeId} {ps : String} {af : Array Edge} {g : Option (Nat × Bool)} {a : Act}
end
theorem ZEU.cell {B : Nat} {q : ZE} {r : Value} {w : World} (h : ZEU B q r w) : ∃ y, r = .tuple #[.agg #[aH q.o, y], .int .i64 q.e] ∧ SetsO B w y q.l ∧ y.oneCell' = true := by
 obtain ⟨y, rfl, hy⟩ := h
 obtain ⟨_, hq, _⟩ := hy.sets.sl
 exact ⟨y, rfl, hy, hq.one⟩
end Go.Proofs.X
set_option linter.unusedSimpArgs false
set_option linter.unusedVariables false
namespace Go.Proofs.X
open Go.RowKit
end Go.Proofs.X
set_option linter.unusedSimpArgs false
set_option linter.unusedVariables false
namespace Go.Proofs.X
open Go.RowKit
end Go.Proofs.X
set_option linter.unusedSimpArgs false
set_option linter.unusedVariables false
namespace Go.Proofs.X
open Go.RowKit
set_option maxRecDepth 100000
theorem SecOk.withZ {s : SecR} (h : SecOk s) {l : List Rec} (he : (s.inst l).e = 0) : SecOk (s.withZ (s.inst l)) := by
 obtain ⟨a, b, _⟩ := h.inst (l := l) he
 refine ⟨h.og, h.retry, ?_⟩
 intro o l' e
 simp only [SecR.withZ, Option.some.injEq, Prod.mk.injEq] at e
 obtain ⟨rfl, rfl⟩ := e
 exact ⟨a, b⟩
structure OpR where
 op : Int
 n : Int
 now : Int
 l : List Rec
theorem IJ (room : Int) (ds : List DeltaR) (h : 0 ≤ room) : ((HT room ds).length : Int) = min (ds.length : Int) room := by
 rw [HT, List.length_drop]
 omega
theorem MV {o : List UInt8} {a b : List RSet} (ha : ZoneOk o a) (hb : ZoneOk o b) : OP o a o b = 0 := by
 rw [OP, if_pos (mO ha), if_pos (mO hb), if_pos rfl]
end Go.Proofs.X
set_option linter.unusedSimpArgs false
set_option linter.unusedVariables false
namespace Go.Proofs.X
open Go.RowKit
end Go.Proofs.X
set_option linter.unusedSimpArgs false
set_option linter.unusedVariables false
namespace Go.Proofs.X
open Go.RowKit
set_option maxRecDepth 100000
end Go.Proofs.X
set_option linter.unusedSimpArgs false
set_option linter.unusedVariables false
namespace Go.Proofs.X
open Go.RowKit
section
variable {retry n now : Int} (h1 : 1 ≤ retry) (h2 : retry ≤ 100000) (h3 : 0 ≤ n) (h4 : n ≤ 4294967295) (h5 : 0 ≤ now) (h6 : now ≤ 1000000)
include h5 h6
end
end Go.Proofs.X
set_option linter.unusedSimpArgs false
set_option linter.unusedVariables false
namespace Go.Proofs.X
open Go.RowKit
set_option maxRecDepth 100000
section
variable {now : Int} (h5 : 0 ≤ now) (h6 : now ≤ 1000000)
include h5 h6
end
section
variable {n now : Int} (h5 : 0 ≤ now) (h6 : now ≤ 1000000)
include h5 h6
end
structure OpsAt (w : World) (v : Value) (ps : List OpR) : Prop where
 out : ∃ css, Sl 4 w v css ∧ css.length = ps.length ∧ ∀ (i : Nat) (p : OpR), ps[i]? = some p → ∃ u, css[i]? = some [.int .i64 p.op, .int .i64 p.n, .int .i64 p.now, u] ∧ Sl 4 w u (aT p.l)
theorem OpsAt.ext {w w' : World} {v : Value} {ps : List OpR} (h : OpsAt w v ps) (hx : Ext w w') : OpsAt w' v ps := by
 obtain ⟨css, h1, h2, h3⟩ := h
 exact ⟨css, h1.ext hx, h2, fun i z hi => let ⟨u, a, b⟩ := h3 i z hi; ⟨u, a, b.ext hx⟩⟩
section
variable {P : Program} {w : World} {ts : List Value} {df : List Deferred} {d : Option Nat} {ty : TypeId} {ps : String} {af : Array Edge} {g : Option (Nat × Bool)}
end
structure MsgsAt (w : World) (v : Value) (ms : List MsgR) : Prop where
 out : ∃ css, Sl 13 w v css ∧ css.length = ms.length ∧ ∀ (i : Nat) (m : MsgR), ms[i]? = some m → ∃ q a u e, css[i]? = some (aU m q a u e) ∧ MsgV w m q a u e
theorem MsgsAt.ext {w w' : World} {v : Value} {ms : List MsgR} (h : MsgsAt w v ms) (hx : Ext w w') : MsgsAt w' v ms := by
 obtain ⟨css, h1, h2, h3⟩ := h
 exact ⟨css, h1.ext hx, h2, fun i m hi => let ⟨q, a, u, e, b, c⟩ := h3 i m hi; ⟨q, a, u, e, b, c.ext hx⟩⟩
def eT : List Value := [.int .i64 0, .bool false, .int .i64 0, .bool false, .bool false, .bool false, .bool false, .int .i64 0, .slice none 0 0, .slice none 0 0, .slice none 0 0, .slice none 0 0, .int .i64 0]
theorem cL {w : World} {m : MsgR} {q a u e : Value} (h : MsgV w m q a u e) : (Value.agg (aU m q a u e).toArray).cells.all (·.oneCell') = true := by
 have := h.one
 simp only [Value.cells, List.all_toArray, List.all_eq_true]
 exact this
open Go.ChangeShapes Go.WideShapes Go.ChangeAt Go.RowKit
theorem iQ {H : Type} {enc : TypeId × Value → H} {P : Program} {w : World} {base : Nat} {spare : Nat → Bool} {held : Bool} {t : TypeId} {fuel : Nat} {c : Value} {x : DataW H × List MemPlace} (ht : P.underlying t = some .bool) (h : DataW.trod enc P w base spare held fuel t [c] = some x) : ∃ b : Bool, c = .bool b := by
 obtain ⟨b, h1, _⟩ := DataW.trod_bool ht h
 exact ⟨b, by simpa using h1⟩
theorem BF {H : Type} {enc : TypeId × Value → H} {w : World} {base : Nat} {spare : Nat → Bool} {held : Bool} {fuel : Nat} {v : Value} {x : DataW H × List MemPlace} (h : DataW.trod enc Tryz.prog w base spare held fuel 23 [v] = some x) : ∃ qs : List mD, Sl 2 w v (bQ qs) := by
 obtain ⟨es, hs, he⟩ := kJ Tryz.underlying23 (show Tryz.prog.cellsOf 54 = 2 by kernel_rfl) (by omega) h
 obtain ⟨l, rfl⟩ : ∃ l : List mD, es = l.map fun q => [aH q.1, .int .i64 q.2] := by
  refine nE fun c hc => ?_
  obtain ⟨n, y, hy⟩ := he c hc
  obtain ⟨xs, n', _, _, hl, hxl, hf⟩ := DataW.trod_struct Tryz.underlying54 hy
  have c3 : Tryz.prog.cellsOf 3 = 1 := by kernel_rfl
  have c22 : Tryz.prog.cellsOf 47 = 1 := by kernel_rfl
  have c65 : Tryz.prog.cellsOf 54 = 2 := by kernel_rfl
  rw [c65] at hl
  match c, hl, xs, hxl with
  | [a, b], _, [y0, y1], _ =>
   have g0 := hf 0 _ rfl
   have g1 := hf 1 _ rfl
   simp [c3, c22] at g0 g1
   obtain ⟨s0, rfl, _⟩ := gW Tryz.underlying47 g0
   obtain ⟨n1, rfl, _⟩ := fH Tryz.underlying3 g1
   exact ⟨(s0, n1), rfl⟩
 exact ⟨l, hs⟩
theorem PA {H : Type} {enc : TypeId × Value → H} {w : World} {base : Nat} {spare : Nat → Bool} {held : Bool} {fuel : Nat} {cl : List Value} {x : DataW H × List MemPlace} (h : DataW.trod enc Tryz.prog w base spare held fuel 26 cl = some x) :
 ∃ (m : MsgR) (q a u e : Value), cl = aU m q a u e ∧ MsgV w m q a u e := by
 obtain ⟨xs, n', _, _, hl, hxl, hf⟩ := DataW.trod_struct Tryz.underlying26 h
 have c3 : Tryz.prog.cellsOf 3 = 1 := by kernel_rfl
 have c4 : Tryz.prog.cellsOf 4 = 1 := by kernel_rfl
 have c5 : Tryz.prog.cellsOf 23 = 1 := by kernel_rfl
 have c6 : Tryz.prog.cellsOf 24 = 1 := by kernel_rfl
 have c7 : Tryz.prog.cellsOf 26 = 13 := by kernel_rfl
 rw [c7] at hl
 match cl, hl, xs, hxl with
 | [a0, a1, a2, a3, a4, a5, a6, a7, a8, a9, a10, a11, a12], _, [y0, y1, y2, y3, y4, y5, y6, y7, y8, y9, y10, y11, y12], _ =>
  have g0 := hf 0 _ rfl
  have g1 := hf 1 _ rfl
  have g2 := hf 2 _ rfl
  have g3 := hf 3 _ rfl
  have g4 := hf 4 _ rfl
  have g5 := hf 5 _ rfl
  have g6 := hf 6 _ rfl
  have g7 := hf 7 _ rfl
  have g8 := hf 8 _ rfl
  have g9 := hf 9 _ rfl
  have g10 := hf 10 _ rfl
  have g11 := hf 11 _ rfl
  have g12 := hf 12 _ rfl
  simp [c3, c4, c5, c6] at g0 g1 g2 g3 g4 g5 g6 g7 g8 g9 g10 g11 g12
  obtain ⟨n0, rfl, _⟩ := fH Tryz.underlying3 g0
  obtain ⟨n1, rfl⟩ := iQ Tryz.underlying4 g1
  obtain ⟨n2, rfl, _⟩ := fH Tryz.underlying3 g2
  obtain ⟨n3, rfl⟩ := iQ Tryz.underlying4 g3
  obtain ⟨n4, rfl⟩ := iQ Tryz.underlying4 g4
  obtain ⟨n5, rfl⟩ := iQ Tryz.underlying4 g5
  obtain ⟨n6, rfl⟩ := iQ Tryz.underlying4 g6
  obtain ⟨n7, rfl, _⟩ := fH Tryz.underlying3 g7
  obtain ⟨qs, h8⟩ := BF g8
  obtain ⟨l9, h9⟩ := qX g9
  obtain ⟨l10, h10⟩ := qX g10
  obtain ⟨l11, h11⟩ := qX g11
  obtain ⟨n12, rfl, _⟩ := fH Tryz.underlying3 g12
  exact ⟨⟨n0, n1, n2, n3, n4, n5, n6, n7, qs, l9, l10, l11, n12⟩, a8, a9, a10, a11, rfl, ⟨h8, h9, h10, h11⟩⟩
end Go.Proofs.X
set_option linter.unusedSimpArgs false
set_option linter.unusedVariables false
namespace Go.Proofs.X
open Go.RowKit
end Go.Proofs.X
set_option linter.unusedSimpArgs false
set_option linter.unusedVariables false
namespace Go.Proofs.X
open Go.RowKit
set_option maxRecDepth 100000
end Go.Proofs.X
set_option linter.unusedSimpArgs false
set_option linter.unusedVariables false
namespace Go.Proofs.X
open Go.RowKit
end Go.Proofs.X
set_option linter.unusedSimpArgs false
set_option linter.unusedVariables false
namespace Go.Proofs.X
open Go.RowKit
end Go.Proofs.X
set_option linter.unusedSimpArgs false
set_option linter.unusedVariables false
namespace Go.Proofs.X
open Go.RowKit
set_option maxRecDepth 100000
theorem mV (n a b : Int) (w : World) : Calls Tryz.prog 48 #[.int .i64 n, .int .i64 a, .int .i64 b] w (bO w (.bool (fQ n a b))) := by
 go_enter Tryz.func48, Tryz.ntmps48
 refine_lift GN (fun hc => ?_) (fun hc => ?_)
 all_goals
  go_ret
  refine ⟨?_, Ext.refl _⟩
  simp [fQ]
  omega
theorem uW (q : mD) (w : World) : Calls Tryz.prog 46 #[.agg #[aH q.1, .int .i64 q.2]] w (bO w (.bool (uV q))) := by
 go_enter Tryz.func46, Tryz.ntmps46
 refine_lift yA fun _ _ => ?_
 refine bR (vs := [aH q.1, .int .i64 q.2]) rfl rfl ?_
 intro p w1 x1 hp
 refine aA ?_
 refine_lift NS fun _ _ => ?_
 refine aE (enters_of Tryz.func65 rfl rfl) rfl rfl ((show Calls Tryz.prog 65 #[aH q.1] w1 (bO w1 (.int .i64 (eI q.1))) from MH q.1 w1)) ?_; intro w2 x2; refine aA ?_
 have hp2 := hp.ext x2
 by_cases hcE : eI q.1 = 0
 ·rw [hcE]
  refine_lift eP ?_
  refine aE (enters_of Tryz.func48 rfl rfl) rfl rfl (mV q.2 1 65535 _) ?_; intro w3 x3; refine aA ?_
  have hp3 := hp2.ext x3
  cases hw : fQ q.2 1 65535 with
  | false =>
   refine_lift eP ?_
   go_ret
   refine ⟨?_, (x1.trans x2).trans x3⟩
   simp only [fQ] at hw
   simp [uV, hcE, hw]
  | true =>
   refine_lift eP ?_
   go_ret
   refine ⟨?_, (x1.trans x2).trans x3⟩
   simp only [fQ] at hw
   simp [uV, hcE, hw]
 ·refine_lift GN (fun hc => ?_) (fun hc => ?_)
  all_goals first
   | (exfalso; contradiction)
   | skip
  go_ret
  refine ⟨?_, x1.trans x2⟩
  simp [uV, hcE]
theorem KN (r : Rec) (w : World) : Calls Tryz.prog 103 #[.agg #[aH r.name, .int .i64 r.kind, .int .i64 r.ttl, aH r.data]] w (bO w (.bool (!decide (bI r = 0)))) := by
 go_enter Tryz.func103, Tryz.ntmps103
 refine_lift yA fun _ _ => ?_
 refine bR (vs := [aH r.name, .int .i64 r.kind, .int .i64 r.ttl, aH r.data]) rfl rfl ?_
 intro p w1 x1 hp
 refine aA ?_
 refine_lift NS fun _ _ => ?_
 refine aE (enters_of Tryz.func100 rfl rfl) rfl rfl (PJ r _) ?_; intro w2 x2; refine aA ?_
 refine_lift eP ?_
 go_ret
 exact ⟨rfl, x1.trans x2⟩
theorem qZ (v : Value) (l : List Rec) (w : World) (hv : Sl 4 w v (aT l)) : Calls Tryz.prog 51 #[v] w (bO w (.bool (gE l))) := by
 have hlen := bA l
 go_enter Tryz.func51, Tryz.ntmps51
 refine_lift PU (fun hc => ?_) (fun _ _ hc => ?_)
 ·have h2 : decide (l.length ≤ 200) = true := decide_eq_true (by omega)
  refine aE (enters_of Tryz.func102 rfl rfl) rfl rfl (sG v l _ (fun r => !decide (bI r = 0)) _ hv (enters_of Tryz.func103 rfl rfl) (fun r _ w' => KN r w')) ?_; intro w1 x1; refine aA ?_
  refine_lift eP ?_
  go_ret
  refine ⟨?_, x1⟩
  rw [gE, h2]
  rfl
 ·have h2 : decide (l.length ≤ 200) = false := decide_eq_false (by omega)
  go_ret
  refine ⟨?_, Ext.refl _⟩
  rw [gE, h2]
  rfl
set_option maxHeartbeats 1000000 in
theorem xM (q : mD) (w : World) : Calls Tryz.prog 50 #[.agg #[aH q.1, .int .i64 q.2]] w (bO w (.bool (!uV q))) := by
 go_enter Tryz.func50, Tryz.ntmps50
 refine_lift yA fun _ _ => ?_
 refine bR (vs := [aH q.1, .int .i64 q.2]) rfl rfl ?_
 intro p w1 x1 hp
 refine aA ?_
 refine_lift NS fun _ _ => ?_
 refine aE (enters_of Tryz.func46 rfl rfl) rfl rfl (uW q _) ?_; intro w2 x2; refine aA ?_
 refine_lift eP ?_
 go_ret
 exact ⟨rfl, x1.trans x2⟩
def LT (f : FuncId) (l : List mD) (p : mD → Bool) : Prop := ∀ r ∈ l, ∀ w', Calls Tryz.prog f #[.agg #[aH r.1, .int .i64 r.2]] w' (bO w' (.bool (p r)))
theorem gQ {l : List mD} {k : Nat} (h : k < l.length) : (bQ l)[k]? = some [aH l[k].1, .int .i64 l[k].2] := by
 simp [bQ, List.getElem?_eq_getElem h]
set_option maxHeartbeats 3000000 in
theorem yP (v : Value) (l : List mD) (f : FuncId) (p : mD → Bool) (w : World) (hv : Sl 2 w v (bQ l)) (he : Enters Tryz.prog f) (hf : LT f l p) : Calls Tryz.prog 101 #[v, .func (.func f) #[] #[]] w (bO w (.int .i64 (lZ p l))) := by
 have hle := hv.le
 have hlen := bP l
 go_enter Tryz.func101, Tryz.ntmps101
 refine_lift NS fun _ _ => ?_
 go_loopw [5, 8] (fun _ i wr => ∃ k : Nat, k ≤ l.length ∧ i = .int .i64 k ∧ Ext w wr ∧ (l.take k).any p = false) (fun _ i _ => l.length - (intOf i).toNat)
 case atStart => exact ⟨0, Nat.zero_le _, rfl, Ext.refl _, rfl⟩
 case round =>
  obtain ⟨k, hk, rfl, hx, hall⟩ := hrel
  have hv2 := hv.ext hx
  by_cases hlt : k < l.length
  ·have hpe := hv2.elem (gQ hlt)
   refine_lift RJ ?_; intro _ _ _ _ _ _
   refine eK he rfl rfl rfl (hf _ (List.getElem_mem hlt) _) ?_
   rintro e w2 ⟨rfl, x2⟩
   refine ⟨_, rfl, ?_⟩
   refine aA ?_
   cases hp : p l[k] with
   | true =>
    refine_lift eP ?_
    go_ret
    exact ⟨by rw [yI hlt hall hp]; rfl, hx.trans x2⟩
   | false =>
    refine_lift eP ?_
    exact ⟨⟨k + 1, by omega, by go_num, hx.trans x2, pO hlt hall hp⟩, by simp [intOf]; omega⟩
  ·have : k = l.length := by omega
   subst this
   rw [List.take_length] at hall
   refine_lift RY fun _ => ?_
   go_ret
   exact ⟨by rw [yJ hall]; rfl, hx⟩
theorem lV (v : Value) (l : List mD) (f : FuncId) (p : mD → Bool) (w : World) (hv : Sl 2 w v (bQ l)) (he : Enters Tryz.prog f) (hf : LT f l p) : Calls Tryz.prog 49 #[v, .func (.func f) #[] #[]] w (bO w (.bool (l.any p))) := by
 go_enter Tryz.func49, Tryz.ntmps49
 refine_lift NS fun _ _ => ?_
 refine aE (enters_of Tryz.func101 rfl rfl) rfl rfl (yP v l f p _ hv he hf) ?_; intro w1 x1; refine aA ?_
 refine_lift eP ?_
 go_ret
 exact ⟨by rw [← sN]; rfl, x1⟩
theorem gT {l : List mD} {b : Bool} (h : l.any (fun r => !uV r) = b) : l.all uV = !b := by
 rw [← h, List.all_eq_not_any_not]
set_option maxHeartbeats 3000000 in
theorem mW (m : MsgR) (q a u e : Value) (w : World) (hm : MsgV w m q a u e) : Calls Tryz.prog 21 #[.agg (aU m q a u e).toArray] w (bO w (.int .i64 (cC m))) := by
 go_enter Tryz.func21, Tryz.ntmps21
 refine_lift yA fun _ _ => ?_
 refine bR (vs := aU m q a u e) rfl rfl ?_
 intro p w1 x1 hp
 refine aA ?_
 unfold aU at hp
 have hm0 := hm
 obtain ⟨hq0, ha0, hu0, he0⟩ := hm
 have hq1 := hq0.ext x1
 have hm := hm0
 refine_lift NS fun _ _ => ?_
 all_goals first
  | (exfalso; contradiction)
  | (exfalso; omega)
  | skip
 refine aE (enters_of Tryz.func48 rfl rfl) rfl rfl (mV m.id 0 65535 _) ?_; intro w2 x2; refine aA ?_
 have hx2 := (Ext.refl w1).trans x2
 have hp2 := hp.ext hx2
 cases h2 : fQ m.id 0 65535 with
 | false =>
  refine_lift eP ?_
  all_goals first
   | (exfalso; contradiction)
   | (exfalso; omega)
   | skip
  go_ret
  refine ⟨?_, x1.trans hx2⟩
  simp [cC, h2]
 | true =>
  refine_lift eP ?_
  all_goals first
   | (exfalso; contradiction)
   | (exfalso; omega)
   | skip
  refine aE (enters_of Tryz.func48 rfl rfl) rfl rfl (mV m.op 0 15 _) ?_; intro w3 x3; refine aA ?_
  have hx3 := hx2.trans x3
  have hp3 := hp.ext hx3
  cases h3 : fQ m.op 0 15 with
  | false =>
   refine_lift eP ?_
   all_goals first
    | (exfalso; contradiction)
    | (exfalso; omega)
    | skip
   go_ret
   refine ⟨?_, x1.trans hx3⟩
   simp [cC, h2, h3]
  | true =>
   refine_lift eP ?_
   all_goals first
    | (exfalso; contradiction)
    | (exfalso; omega)
    | skip
   refine aE (enters_of Tryz.func48 rfl rfl) rfl rfl (mV m.rcode 0 15 _) ?_; intro w4 x4; refine aA ?_
   have hx4 := hx3.trans x4
   have hp4 := hp.ext hx4
   cases h4 : fQ m.rcode 0 15 with
   | false =>
    refine_lift eP ?_
    all_goals first
     | (exfalso; contradiction)
     | (exfalso; omega)
     | skip
    go_ret
    refine ⟨?_, x1.trans hx4⟩
    simp [cC, h2, h3, h4]
   | true =>
    by_cases hz : m.size = 0
    ·clear hm0
     by_cases hl : m.qs.length ≤ 10
     ·have hl0 : ((bQ m.qs).length : Int) ≤ 10 := by rw [bP]; omega
      refine_lift GO (fun hc _ _ hc => ?_) (fun hc hc _ _ => ?_) (fun hc => ?_)
      all_goals first
       | (exfalso; contradiction)
       | (exfalso; omega)
       | skip
      refine aE (enters_of Tryz.func49 rfl rfl) rfl rfl (lV q m.qs _ (fun r => !uV r) _ ((hm.qs.ext x1).ext hx4) (enters_of Tryz.func50 rfl rfl) (fun r _ w' => xM r w')) ?_; intro w7 x7; refine aA ?_
      have hx7 := hx4.trans x7
      have hp7 := hp.ext hx7
      cases h7 : m.qs.any (fun r => !uV r) with
      | true =>
       refine_lift eP ?_
       all_goals first
        | (exfalso; contradiction)
        | (exfalso; omega)
        | skip
       go_ret
       refine ⟨?_, x1.trans hx7⟩
       simp [cC, h2, h3, h4, hz, hl, gT h7]
      | false =>
       refine_lift RI fun _ _ _ _ => ?_
       all_goals first
        | (exfalso; contradiction)
        | (exfalso; omega)
        | skip
       refine aE (enters_of Tryz.func51 rfl rfl) rfl rfl (qZ a m.an _ ((hm.an.ext x1).ext hx7)) ?_; intro w8 x8; refine aA ?_
       have hx8 := hx7.trans x8
       have hp8 := hp.ext hx8
       cases h8 : gE m.an with
       | false =>
        refine_lift eP ?_
        all_goals first
         | (exfalso; contradiction)
         | (exfalso; omega)
         | skip
        go_ret
        refine ⟨?_, x1.trans hx8⟩
        simp [cC, h2, h3, h4, hz, hl, gT h7, h8]
       | true =>
        refine_lift eP ?_
        all_goals first
         | (exfalso; contradiction)
         | (exfalso; omega)
         | skip
        refine aE (enters_of Tryz.func51 rfl rfl) rfl rfl (qZ u m.au _ ((hm.au.ext x1).ext hx8)) ?_; intro w9 x9; refine aA ?_
        have hx9 := hx8.trans x9
        have hp9 := hp.ext hx9
        cases h9 : gE m.au with
        | false =>
         refine_lift eP ?_
         all_goals first
          | (exfalso; contradiction)
          | (exfalso; omega)
          | skip
         go_ret
         refine ⟨?_, x1.trans hx9⟩
         simp [cC, h2, h3, h4, hz, hl, gT h7, h8, h9]
        | true =>
         refine_lift eP ?_
         all_goals first
          | (exfalso; contradiction)
          | (exfalso; omega)
          | skip
         refine aE (enters_of Tryz.func51 rfl rfl) rfl rfl (qZ e m.ex _ ((hm.ex.ext x1).ext hx9)) ?_; intro w10 x10; refine aA ?_
         have hx10 := hx9.trans x10
         have hp10 := hp.ext hx10
         cases h10 : gE m.ex with
         | false =>
          refine_lift eP ?_
          all_goals first
           | (exfalso; contradiction)
           | (exfalso; omega)
           | skip
          go_ret
          refine ⟨?_, x1.trans hx10⟩
          simp [cC, h2, h3, h4, hz, hl, gT h7, h8, h9, h10]
         | true =>
          refine_lift eP ?_
          all_goals first
           | (exfalso; contradiction)
           | (exfalso; omega)
           | skip
          go_ret
          refine ⟨?_, x1.trans hx10⟩
          simp [cC, h2, h3, h4, hz, hl, gT h7, h8, h9, h10]
     ·have hl0 : ¬ ((bQ m.qs).length : Int) ≤ 10 := by rw [bP]; omega
      refine_lift GO (fun hc _ _ hc => ?_) (fun hc hc _ _ => ?_) (fun hc => ?_)
      all_goals first
       | (exfalso; contradiction)
       | (exfalso; omega)
       | skip
      go_ret
      refine ⟨?_, x1.trans hx4⟩
      simp [cC, h2, h3, h4, hz, hl]
    ·clear hm0
     refine_lift GO (fun hc _ _ hc => ?_) (fun hc hc _ _ => ?_) (fun hc => ?_)
     all_goals first
      | (exfalso; contradiction)
      | (exfalso; omega)
      | skip
     refine aE (enters_of Tryz.func48 rfl rfl) rfl rfl (mV m.size 512 65535 _) ?_; intro w6 x6; refine aA ?_
     have hx6 := hx4.trans x6
     have hp6 := hp.ext hx6
     cases h6 : fQ m.size 512 65535 with
     | false =>
      refine_lift eP ?_
      all_goals first
       | (exfalso; contradiction)
       | (exfalso; omega)
       | skip
      go_ret
      refine ⟨?_, x1.trans hx6⟩
      simp [cC, h2, h3, h4, hz, h6]
     | true =>
      by_cases hl : m.qs.length ≤ 10
      ·have hl0 : ((bQ m.qs).length : Int) ≤ 10 := by rw [bP]; omega
       refine_lift OF (fun hc _ _ => ?_) (fun _ _ hc => ?_)
       all_goals first
        | (exfalso; contradiction)
        | (exfalso; omega)
        | skip
       refine aE (enters_of Tryz.func49 rfl rfl) rfl rfl (lV q m.qs _ (fun r => !uV r) _ ((hm.qs.ext x1).ext hx6) (enters_of Tryz.func50 rfl rfl) (fun r _ w' => xM r w')) ?_; intro w8 x8; refine aA ?_
       have hx8 := hx6.trans x8
       have hp8 := hp.ext hx8
       cases h8 : m.qs.any (fun r => !uV r) with
       | true =>
        refine_lift eP ?_
        all_goals first
         | (exfalso; contradiction)
         | (exfalso; omega)
         | skip
        go_ret
        refine ⟨?_, x1.trans hx8⟩
        simp [cC, h2, h3, h4, hz, h6, hl, gT h8]
       | false =>
        refine_lift RI fun _ _ _ _ => ?_
        all_goals first
         | (exfalso; contradiction)
         | (exfalso; omega)
         | skip
        refine aE (enters_of Tryz.func51 rfl rfl) rfl rfl (qZ a m.an _ ((hm.an.ext x1).ext hx8)) ?_; intro w9 x9; refine aA ?_
        have hx9 := hx8.trans x9
        have hp9 := hp.ext hx9
        cases h9 : gE m.an with
        | false =>
         refine_lift eP ?_
         all_goals first
          | (exfalso; contradiction)
          | (exfalso; omega)
          | skip
         go_ret
         refine ⟨?_, x1.trans hx9⟩
         simp [cC, h2, h3, h4, hz, h6, hl, gT h8, h9]
        | true =>
         refine_lift eP ?_
         all_goals first
          | (exfalso; contradiction)
          | (exfalso; omega)
          | skip
         refine aE (enters_of Tryz.func51 rfl rfl) rfl rfl (qZ u m.au _ ((hm.au.ext x1).ext hx9)) ?_; intro w10 x10; refine aA ?_
         have hx10 := hx9.trans x10
         have hp10 := hp.ext hx10
         cases h10 : gE m.au with
         | false =>
          refine_lift eP ?_
          all_goals first
           | (exfalso; contradiction)
           | (exfalso; omega)
           | skip
          go_ret
          refine ⟨?_, x1.trans hx10⟩
          simp [cC, h2, h3, h4, hz, h6, hl, gT h8, h9, h10]
         | true =>
          refine_lift eP ?_
          all_goals first
           | (exfalso; contradiction)
           | (exfalso; omega)
           | skip
          refine aE (enters_of Tryz.func51 rfl rfl) rfl rfl (qZ e m.ex _ ((hm.ex.ext x1).ext hx10)) ?_; intro w11 x11; refine aA ?_
          have hx11 := hx10.trans x11
          have hp11 := hp.ext hx11
          cases h11 : gE m.ex with
          | false =>
           refine_lift eP ?_
           all_goals first
            | (exfalso; contradiction)
            | (exfalso; omega)
            | skip
           go_ret
           refine ⟨?_, x1.trans hx11⟩
           simp [cC, h2, h3, h4, hz, h6, hl, gT h8, h9, h10, h11]
          | true =>
           refine_lift eP ?_
           all_goals first
            | (exfalso; contradiction)
            | (exfalso; omega)
            | skip
           go_ret
           refine ⟨?_, x1.trans hx11⟩
           simp [cC, h2, h3, h4, hz, h6, hl, gT h8, h9, h10, h11]
      ·have hl0 : ¬ ((bQ m.qs).length : Int) ≤ 10 := by rw [bP]; omega
       refine_lift OF (fun hc _ _ => ?_) (fun _ _ hc => ?_)
       all_goals first
        | (exfalso; contradiction)
        | (exfalso; omega)
        | skip
       go_ret
       refine ⟨?_, x1.trans hx6⟩
       simp [cC, h2, h3, h4, hz, h6, hl]
structure MsgsV (B : Nat) (w : World) (v : Value) (ms : List MsgR) : Prop where
 out : ∃ css, Own B 13 26 w v css ∧ css.length = ms.length ∧ ∀ (i : Nat) (m : MsgR), ms[i]? = some m → ∃ q a, css[i]? = some (aU m q a (.slice none 0 0) (.slice none 0 0)) ∧ Own B 2 54 w q (bQ m.qs) ∧ Own B 4 106 w a (aT m.an) ∧ m.au = [] ∧ m.ex = []
theorem MsgsV.nil (B : Nat) (w : World) : MsgsV B w (.slice none 0 0) [] := ⟨[], Own.nil _ _ _ _, rfl, by simp⟩
theorem MsgsV.ext {B : Nat} {w w' : World} {v : Value} {ms : List MsgR} (h : MsgsV B w v ms) (hx : Ext w w') : MsgsV B w' v ms := by
 obtain ⟨css, h1, h2, h3⟩ := h
 exact ⟨css, h1.ext hx, h2, fun i m hi => let ⟨q, a, b, c, d, e, f⟩ := h3 i m hi; ⟨q, a, b, c.ext hx, d.ext hx, e, f⟩⟩
theorem MsgsV.weaken {B C : Nat} {w : World} {v : Value} {ms : List MsgR} (h : MsgsV B w v ms) (hc : C ≤ B) : MsgsV C w v ms := by
 obtain ⟨css, h1, h2, h3⟩ := h
 exact ⟨css, h1.weaken hc, h2, fun i m hi => let ⟨q, a, b, c, d, e, f⟩ := h3 i m hi; ⟨q, a, b, c.weaken hc, d.weaken hc, e, f⟩⟩
theorem MsgsV.put {B b t : Nat} {w w' : World} {v : Value} {ms : List MsgR} {cs : Array Value} {fz : Nat × Nat} {o : Obj} (h : MsgsV B w v ms) (hb : w.heap[b]? = some (.cells cs t fz)) (h1 : t ≠ 26) (h2 : t ≠ 54) (h3 : t ≠ 106) (hp : Put w w' b o) : MsgsV B w' v ms := by
 obtain ⟨css, a, c, e⟩ := h
 exact ⟨css, a.mv hp.mv (.inr (a.neBlock hb h1)), c, fun i d hi => let ⟨g, n, x, y, z, u⟩ := e i d hi; ⟨g, n, x, y.mv hp.mv (.inr (y.neBlock hb h2)), z.mv hp.mv (.inr (z.neBlock hb h3)), u⟩⟩
theorem MsgsV.add {B : Nat} {w w' : World} {v v' q a : Value} {ms : List MsgR} {m : MsgR} {css : List (List Value)} (h1 : Own B 13 26 w v css) (h2 : css.length = ms.length)
 (h3 : ∀ (i : Nat) (m : MsgR), ms[i]? = some m → ∃ q a, css[i]? = some (aU m q a (.slice none 0 0) (.slice none 0 0)) ∧ Own B 2 54 w q (bQ m.qs) ∧ Own B 4 106 w a (aT m.an) ∧ m.au = [] ∧ m.ex = []) (hm : Mv v.ownBlock w w')
 (o : Own B 13 26 w' v' (css ++ [aU m q a (.slice none 0 0) (.slice none 0 0)])) (hq : Own B 2 54 w q (bQ m.qs)) (ha : Own B 4 106 w a (aT m.an)) (hu : m.au = []) (he : m.ex = []) : MsgsV B w' v' (ms ++ [m]) := by
 refine ⟨_, o, by simp [h2], fun i x hi => ?_⟩
 by_cases hlt : i < ms.length
 ·rw [List.getElem?_append_left hlt] at hi
  obtain ⟨q', a', b, c, d, e⟩ := h3 i x hi
  exact ⟨q', a', by rw [List.getElem?_append_left (by omega)]; exact b, c.mv hm (c.ne h1 (by decide)), d.mv hm (d.ne h1 (by decide)), e⟩
 ·rw [List.getElem?_append_right (by omega)] at hi
  have hi0 : i - ms.length = 0 := by
   have := (List.getElem?_eq_some_iff.1 hi).1
   simp only [List.length_cons, List.length_nil] at this
   omega
  rw [hi0] at hi
  have hx : m = x := by simpa using hi
  subst hx
  have : i = css.length := by omega
  subst this
  exact ⟨q, a, by rw [List.getElem?_append_right (Nat.le_refl _)]; simp, hq.mv hm (hq.ne h1 (by decide)), ha.mv hm (ha.ne h1 (by decide)), hu, he⟩
theorem CT {l : List mD} : ∀ f ∈ bQ l, ∀ u ∈ f, u.oneCell' = true := by
 intro f hf u hu
 simp only [bQ, List.mem_map] at hf
 obtain ⟨q, _, rfl⟩ := hf
 simp only [List.mem_cons, List.not_mem_nil, or_false] at hu
 rcases hu with rfl | rfl <;> rfl
def KO (l : List Rec) (z : List UInt8) : List Rec := l.filter fun r => decide (bI r = 0) && bS r.name z
structure ActR where
 kind : Int
 to : Int
 qn : List UInt8
 qt : Int
 code : Int
 ans : List Rec
 auth : List Rec
 deriving DecidableEq
structure TaskR where
 qn : List UInt8
 qt : Int
 roots : List Int
 zone : List UInt8
 servers : List Int
 got : List Rec
 chain : Int
 left : Int
 stop : Option ActR
def TaskR.done (t : TaskR) (code : Int) (ans auth : List Rec) : TaskR × ActR := ({ t with stop := some ⟨2, 0, [], 0, code, ans, auth⟩ }, ⟨2, 0, [], 0, code, ans, auth⟩)
def TaskR.on (t : TaskR) : TaskR × ActR := match t.servers with
 | [] => t.done 2 [] []
 | s :: rest => if t.left = 0 then t.done 2 [] [] else ({ t with servers := rest, left := t.left - 1 }, ⟨1, s, t.qn, t.qt, 0, [], []⟩)
def PB (r : Rec) : Rec := { r with name := fold r.name }
def TaskR.of (t : TaskR) (l : List Rec) (n : List UInt8) (k : Int) : List Rec :=
 ((KO l t.zone).map PB).filter fun r => decide (r.name = fold n) && (decide (r.kind = k) || decide (k = 255))
def LU : List Value := [aH [], .int .i64 0, .int .i64 0, aH []]
def RecFnC (w : World) (f : FuncId) (caps : Array Value) (l : List Rec) (p : Rec → Bool) : Prop := ∀ r ∈ l, ∀ w', Ext w w' → Calls Tryz.prog f ([Value.agg #[aH r.name, .int .i64 r.kind, .int .i64 r.ttl, aH r.data]].toArray ++ caps) w' (bO w' (.bool (p r)))
theorem RecFnC.ext {w w1 : World} {f : FuncId} {caps : Array Value} {l : List Rec} {p : Rec → Bool} (h : RecFnC w f caps l p) (hx : Ext w w1) : RecFnC w1 f caps l p :=
 fun r hr w' hx' => h r hr w' (hx.trans hx')
def MW (a : ActR) (v1 v2 : Value) : List Value := [.int .i64 a.kind, .int .i64 a.to, aH a.qn, .int .i64 a.qt, .int .i64 a.code, v1, v2]
theorem KP {a : ActR} {v1 v2 : Value} (h1 : v1.oneCell' = true) (h2 : v2.oneCell' = true) : (Value.agg (MW a v1 v2).toArray).cells.all (·.oneCell') = true := by
 have k1 : ∀ s, (aH s).oneCell' = true := fun _ => rfl
 have k2 : ∀ n, (Value.int .i64 n).oneCell' = true := fun _ => rfl
 simp [MW, Value.cells, h1, h2, k1, k2]
structure ActV (w : World) (v : Value) (a : ActR) : Prop where
 out : ∃ v1 v2, v = .agg (MW a v1 v2).toArray ∧ Own 0 4 106 w v1 (aT a.ans) ∧ Own 0 4 106 w v2 (aT a.auth)
theorem ActV.ext {w w' : World} {v : Value} {a : ActR} (h : ActV w v a) (hx : Ext w w') : ActV w' v a := by
 obtain ⟨v1, v2, h1, h2, h3⟩ := h.out
 exact ⟨v1, v2, h1, h2.ext hx, h3.ext hx⟩
theorem Mv.fresh {row : Option Nat} {w w1 w2 : World} {c : Nat} (h : Mv row w w1) (k : Mv (some c) w1 w2) (hc : w.heap.size ≤ c) : Mv row w w2 :=
 ⟨k.os.trans h.os, k.tape.trans h.tape, k.output.trans h.output, Nat.le_trans h.size k.size,
  fun j hj hn => by rw [k.block j (Nat.lt_of_lt_of_le hj h.size) (by intro e; have := Option.some.inj e; omega), h.block j hj hn], Nat.le_trans h.drawn k.drawn⟩
theorem ActV.one {w : World} {v : Value} {a : ActR} (h : ActV w v a) : v.cells.all (·.oneCell') = true := by
 obtain ⟨v1, v2, rfl, h2, h3⟩ := h.out
 exact KP h2.one h3.one
theorem ActV.size {w : World} {v : Value} {a : ActR} (h : ActV w v a) : v.cells.size = 7 := by
 obtain ⟨v1, v2, rfl, h2, h3⟩ := h.out
 rfl
theorem ActV.put {w w' : World} {v : Value} {a : ActR} {c t : Nat} {cs : Array Value} {fz : Nat × Nat} {o : Obj} (h : ActV w v a) (hp : Put w w' c o) (hc : w.heap[c]? = some (.cells cs t fz)) (ht : t ≠ 106) : ActV w' v a := by
 obtain ⟨v1, v2, h1, h2, h3⟩ := h.out
 exact ⟨v1, v2, h1, h2.mv hp.mv (.inr (h2.neBlock hc ht)), h3.mv hp.mv (.inr (h3.neBlock hc ht))⟩
theorem DR : WideMaps.KeyLaw Tryz.prog 47 := WideMaps.string_law Tryz.underlying47
theorem KQ (n : List UInt8) (hn : n.length ≤ 1000000) : ∃ l, keyOf Tryz.prog 47 (aH n) = some l :=
 ⟨_, WideMaps.keyOf_string_mk Tryz.underlying47 (by rw [eE]; unfold maxLen; omega)⟩
structure TaskB (t : TaskR) (n : Nat) : Prop where
 l0 : 0 ≤ t.left
 l1 : t.left ≤ 1000
 c0 : 0 ≤ t.chain
 c1 : t.chain ≤ 8
 got : t.got.length ≤ n
 stop : ∀ a, t.stop = some a → a.ans.length ≤ n ∧ a.auth.length ≤ 1
theorem TaskB.weaken {t : TaskR} {n n' : Nat} (h : TaskB t n) (hn : n ≤ n') : TaskB t n' := ⟨h.l0, h.l1, h.c0, h.c1, Nat.le_trans h.got hn, fun a ha => ⟨Nat.le_trans (h.stop a ha).1 hn, (h.stop a ha).2⟩⟩
theorem TaskB.fin {t : TaskR} {n : Nat} (h : TaskB t n) (c : Int) {x y : List Rec} (hx : x.length ≤ n) (hy : y.length ≤ 1) : TaskB (t.done c x y).1 n :=
 ⟨h.l0, h.l1, h.c0, h.c1, h.got, fun a ha => by cases ha; exact ⟨hx, hy⟩⟩
theorem TaskB.on {t : TaskR} {n : Nat} (h : TaskB t n) (hs : t.stop = none) : TaskB t.on.1 n := by
 unfold TaskR.on
 split
 ·exact h.fin 2 (Nat.zero_le _) (Nat.zero_le _)
 ·split
  ·exact h.fin 2 (Nat.zero_le _) (Nat.zero_le _)
  ·rename_i c
   have := h.l0
   have := h.l1
   exact ⟨by dsimp only; omega, by dsimp only; omega, h.c0, h.c1, h.got, fun a ha => h.stop a ha⟩
end Go.Proofs.X
set_option linter.unusedSimpArgs false
set_option linter.unusedVariables false
namespace Go.Proofs.X
open Go.RowKit
theorem IK {B k e : Nat} {w : World} {v : Value} {es : List (List Value)} (h : Own B k e w v es) (c : Nat) (hc : w.heap.size ≤ c) : v.ownBlock = none ∨ v.ownBlock ≠ some c := by
 by_cases e : v.ownBlock = some c
 ·have := (h.block c e).2; omega
 ·exact .inr e
theorem Mv.fresh' {row row2 : Option Nat} {w w1 w2 : World} (h : Mv row w w1) (k : Mv row2 w1 w2) (hc : ∀ c, row2 = some c → w.heap.size ≤ c) : Mv row w w2 :=
 ⟨k.os.trans h.os, k.tape.trans h.tape, k.output.trans h.output, Nat.le_trans h.size k.size,
  fun j hj hn => by rw [k.block j (Nat.lt_of_lt_of_le hj h.size) (by intro e; have := hc j e.symm; omega), h.block j hj hn], Nat.le_trans h.drawn k.drawn⟩
theorem MapAt.mvr {P : Program} {kt : TypeId} {w w' : World} {m : Nat} {ents : List (Value × Value)} {row : Option Nat} {B k e : Nat} {v : Value} {es : List (List Value)} (h : MapAt P kt w m ents) (hm : Mv row w w') (ho : Own B k e w v es) (hr : row = v.ownBlock) : MapAt P kt w' m ents := by
 obtain ⟨es', ck, h1, _⟩ := h.out
 exact h.at fun o hh => hm.at hh (by rw [hr]; exact fun e => ho.neMap h1 e.symm)
end Go.Proofs.X
set_option linter.unusedSimpArgs false
set_option linter.unusedVariables false
namespace Go.Proofs.X
open Go.RowKit
end Go.Proofs.X
set_option linter.unusedSimpArgs false
set_option linter.unusedVariables false
namespace Go.Proofs.X
open Go.RowKit
end Go.Proofs.X
set_option linter.unusedSimpArgs false
set_option linter.unusedVariables false
namespace Go.Proofs.X
open Go.RowKit
set_option maxRecDepth 100000
end Go.Proofs.X
