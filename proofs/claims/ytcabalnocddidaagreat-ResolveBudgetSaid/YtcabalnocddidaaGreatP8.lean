/- Laws and walks that the proof of the statement is made of (part 8). -/
import Derived.Test.YtcabalnocddidaaGreatRows
import Derived.Test.YtcabalnocddidaaGreatP7
set_option linter.unusedSimpArgs false
set_option linter.unusedVariables false
namespace Go.Proofs.X
open Go.RowKit
set_option maxRecDepth 100000
end Go.Proofs.X
set_option linter.unusedSimpArgs false
set_option linter.unusedVariables false
namespace Go.Proofs.X
open Go.RowKit
section
variable {retry n now : Int} (h1 : 1 ≤ retry) (h2 : retry ≤ 100000) (h3 : 0 ≤ n) (h4 : n ≤ 4294967295) (h5 : 0 ≤ now) (h6 : now ≤ 1000000)
include h5 h6
end
end Go.Proofs.X
set_option linter.unusedSimpArgs false
set_option linter.unusedVariables false
namespace Go.Proofs.X
open Go.RowKit
set_option maxRecDepth 100000
section
variable {now : Int} (h5 : 0 ≤ now) (h6 : now ≤ 1000000)
include h5 h6
end
section
variable {n now : Int} (h5 : 0 ≤ now) (h6 : now ≤ 1000000)
include h5 h6
end
structure OpsAt (w : World) (v : Value) (ps : List OpR) : Prop where
 out : ∃ css, Sl 4 w v css ∧ css.length = ps.length ∧ ∀ (i : Nat) (p : OpR), ps[i]? = some p → ∃ u, css[i]? = some [.int .i64 p.op, .int .i64 p.n, .int .i64 p.now, u] ∧ Sl 4 w u (aI p.l)
theorem OpsAt.ext {w w' : World} {v : Value} {ps : List OpR} (h : OpsAt w v ps) (hx : Ext w w') : OpsAt w' v ps := by
 obtain ⟨css, h1, h2, h3⟩ := h
 exact ⟨css, h1.ext hx, h2, fun i z hi => let ⟨u, a, b⟩ := h3 i z hi; ⟨u, a, b.ext hx⟩⟩
section
variable {P : Program} {w : World} {ts : List Value} {df : List Deferred} {d : Option Nat} {ty : TypeId} {ps : String} {af : Array Edge} {g : Option (Nat × Bool)}
end
structure MsgsAt (w : World) (v : Value) (ms : List MsgR) : Prop where
 out : ∃ css, Sl 13 w v css ∧ css.length = ms.length ∧ ∀ (i : Nat) (m : MsgR), ms[i]? = some m → ∃ q a u e, css[i]? = some (dF m q a u e) ∧ MsgV w m q a u e
theorem MsgsAt.ext {w w' : World} {v : Value} {ms : List MsgR} (h : MsgsAt w v ms) (hx : Ext w w') : MsgsAt w' v ms := by
 obtain ⟨css, h1, h2, h3⟩ := h
 exact ⟨css, h1.ext hx, h2, fun i m hi => let ⟨q, a, u, e, b, c⟩ := h3 i m hi; ⟨q, a, u, e, b, c.ext hx⟩⟩
open Go.ChangeShapes Go.WideShapes Go.ChangeAt Go.RowKit
theorem eR {H : Type} {enc : TypeId × Value → H} {P : Program} {w : World} {base : Nat} {spare : Nat → Bool} {held : Bool} {t : TypeId} {fuel : Nat} {c : Value} {x : DataW H × List MemPlace} (ht : P.underlying t = some .bool) (h : DataW.trod enc P w base spare held fuel t [c] = some x) : ∃ b : Bool, c = .bool b := by
 obtain ⟨b, h1, _⟩ := DataW.trod_bool ht h
 exact ⟨b, by simpa using h1⟩
theorem sT {H : Type} {enc : TypeId × Value → H} {w : World} {base : Nat} {spare : Nat → Bool} {held : Bool} {fuel : Nat} {v : Value} {x : DataW H × List MemPlace} (h : DataW.trod enc Tryz.prog w base spare held fuel 22 [v] = some x) : ∃ qs : List CP, Sl 2 w v (lO qs) := by
 obtain ⟨es, hs, he⟩ := iL Tryz.underlying22 (show Tryz.prog.cellsOf 31 = 2 by kernel_rfl) (by omega) h
 obtain ⟨l, rfl⟩ : ∃ l : List CP, es = l.map fun q => [aF q.1, .int .i64 q.2] := by
  refine kF fun c hc => ?_
  obtain ⟨n, y, hy⟩ := he c hc
  obtain ⟨xs, n', _, _, hl, hxl, hf⟩ := DataW.trod_struct Tryz.underlying31 hy
  have c3 : Tryz.prog.cellsOf 3 = 1 := by kernel_rfl
  have c22 : Tryz.prog.cellsOf 29 = 1 := by kernel_rfl
  have c65 : Tryz.prog.cellsOf 31 = 2 := by kernel_rfl
  rw [c65] at hl
  match c, hl, xs, hxl with
  | [a, b], _, [y0, y1], _ =>
   have g0 := hf 0 _ rfl
   have g1 := hf 1 _ rfl
   simp [c3, c22] at g0 g1
   obtain ⟨s0, rfl, _⟩ := kE Tryz.underlying29 g0
   obtain ⟨n1, rfl, _⟩ := dH Tryz.underlying3 g1
   exact ⟨(s0, n1), rfl⟩
 exact ⟨l, hs⟩
theorem yP {H : Type} {enc : TypeId × Value → H} {w : World} {base : Nat} {spare : Nat → Bool} {held : Bool} {fuel : Nat} {cl : List Value} {x : DataW H × List MemPlace} (h : DataW.trod enc Tryz.prog w base spare held fuel 25 cl = some x) :
 ∃ (m : MsgR) (q a u e : Value), cl = dF m q a u e ∧ MsgV w m q a u e := by
 obtain ⟨xs, n', _, _, hl, hxl, hf⟩ := DataW.trod_struct Tryz.underlying25 h
 have c3 : Tryz.prog.cellsOf 3 = 1 := by kernel_rfl
 have c4 : Tryz.prog.cellsOf 4 = 1 := by kernel_rfl
 have c5 : Tryz.prog.cellsOf 22 = 1 := by kernel_rfl
 have c6 : Tryz.prog.cellsOf 23 = 1 := by kernel_rfl
 have c7 : Tryz.prog.cellsOf 25 = 13 := by kernel_rfl
 rw [c7] at hl
 match cl, hl, xs, hxl with
 | [a0, a1, a2, a3, a4, a5, a6, a7, a8, a9, a10, a11, a12], _, [y0, y1, y2, y3, y4, y5, y6, y7, y8, y9, y10, y11, y12], _ =>
  have g0 := hf 0 _ rfl
  have g1 := hf 1 _ rfl
  have g2 := hf 2 _ rfl
  have g3 := hf 3 _ rfl
  have g4 := hf 4 _ rfl
  have g5 := hf 5 _ rfl
  have g6 := hf 6 _ rfl
  have g7 := hf 7 _ rfl
  have g8 := hf 8 _ rfl
  have g9 := hf 9 _ rfl
  have g10 := hf 10 _ rfl
  have g11 := hf 11 _ rfl
  have g12 := hf 12 _ rfl
  simp [c3, c4, c5, c6] at g0 g1 g2 g3 g4 g5 g6 g7 g8 g9 g10 g11 g12
  obtain ⟨n0, rfl, _⟩ := dH Tryz.underlying3 g0
  obtain ⟨n1, rfl⟩ := eR Tryz.underlying4 g1
  obtain ⟨n2, rfl, _⟩ := dH Tryz.underlying3 g2
  obtain ⟨n3, rfl⟩ := eR Tryz.underlying4 g3
  obtain ⟨n4, rfl⟩ := eR Tryz.underlying4 g4
  obtain ⟨n5, rfl⟩ := eR Tryz.underlying4 g5
  obtain ⟨n6, rfl⟩ := eR Tryz.underlying4 g6
  obtain ⟨n7, rfl, _⟩ := dH Tryz.underlying3 g7
  obtain ⟨qs, h8⟩ := sT g8
  obtain ⟨l9, h9⟩ := lP g9
  obtain ⟨l10, h10⟩ := lP g10
  obtain ⟨l11, h11⟩ := lP g11
  obtain ⟨n12, rfl, _⟩ := dH Tryz.underlying3 g12
  exact ⟨⟨n0, n1, n2, n3, n4, n5, n6, n7, qs, l9, l10, l11, n12⟩, a8, a9, a10, a11, rfl, ⟨h8, h9, h10, h11⟩⟩
def jQ (P : Program) (s n off : Nat) : Bool := match P.underlying s with | some (.struct fs) => (match fs[n]? with | some f => f.offset == off && dU P f.type | none => false) | _ => false
theorem mU {P : Program} {s n off : Nat} (h : jQ P s n off = true) : ∃ fs f, P.underlying s = some (.struct fs) ∧ fs[n]? = some f ∧ f.offset = off ∧ dU P f.type = true := by
 unfold jQ at h
 split at h
 ·rename_i fs hfs
  split at h
  ·rename_i f hf
   simp only [Bool.and_eq_true, beq_iff_eq] at h
   exact ⟨fs, f, hfs, hf, h.1, h.2⟩
  ·cases h
 ·cases h
section
variable {P : Program} {a : Act} {w : World} {d : Option Nat} {ty : TypeId} {ps : String} {af : Array Edge} {g : Option (Nat × Bool)}
theorem Runs.fieldV {s : TypeId} {x : Operand} {n off : Nat} {cs : Array Value} {v : Value} (hx : a.eval x = .agg cs) (hc : cs[off]? = some v) (hf : jQ P s n off = true) : Runs P (Oper.mk d (.field s x n) ty ps af g) a w v := by
 obtain ⟨fs, f, ht, hf, ho, hp⟩ := mU hf
 obtain ⟨u, hu, hn⟩ := eN hp
 constructor
 simp [execOp, hx, Instr.field, run_underlying ht, hf, ho, asAgg, part, Sem.run_bind, jT hu hn, hc]
end
section
variable {P : Program} {w : World} {ts : List Value} {df : List Deferred} {d : Option Nat} {ty : TypeId} {ps : String} {af : Array Edge} {g : Option (Nat × Bool)}
end
end Go.Proofs.X
set_option linter.unusedSimpArgs false
set_option linter.unusedVariables false
namespace Go.Proofs.X
open Go.RowKit
end Go.Proofs.X
set_option linter.unusedSimpArgs false
set_option linter.unusedVariables false
namespace Go.Proofs.X
open Go.RowKit
end Go.Proofs.X
set_option linter.unusedSimpArgs false
set_option linter.unusedVariables false
namespace Go.Proofs.X
open Go.RowKit
end Go.Proofs.X
set_option linter.unusedSimpArgs false
set_option linter.unusedVariables false
namespace Go.Proofs.X
open Go.RowKit
set_option maxRecDepth 100000
end Go.Proofs.X
set_option linter.unusedSimpArgs false
set_option linter.unusedVariables false
namespace Go.Proofs.X
open Go.RowKit
end Go.Proofs.X
set_option linter.unusedSimpArgs false
set_option linter.unusedVariables false
namespace Go.Proofs.X
open Go.RowKit
set_option maxRecDepth 100000
end Go.Proofs.X
set_option linter.unusedSimpArgs false
set_option linter.unusedVariables false
namespace Go.Proofs.X
open Go.RowKit
end Go.Proofs.X
set_option linter.unusedSimpArgs false
set_option linter.unusedVariables false
namespace Go.Proofs.X
open Go.RowKit
set_option maxRecDepth 100000
section
variable {P : Program} {a : Act} {w : World} {d : Option Nat} {ty : TypeId} {ps : String} {af : Array Edge} {g : Option (Nat × Bool)}
end
section
variable {P : Program} {ts : List Value} {df : List Deferred} {w : World} {d : Option Nat} {ty : TypeId} {ps : String} {af : Array Edge} {g : Option (Nat × Bool)}
end
theorem wR {l : List CP} {k : Nat} (h : k < l.length) : (lO l)[k]? = some [aF l[k].1, .int .i64 l[k].2] := by
 simp [lO, List.getElem?_eq_getElem h]
def kU (m : MsgR) : Bool := decide (m.qs.length ≤ 12) && m.qs.all (fun q => decide (q.1.length ≤ 300)) && (dG m.an && dG m.au && dG m.ex)
set_option maxHeartbeats 4000000 in
theorem CA (m : MsgR) (q a u e : Value) (w : World) (hm : MsgV w m q a u e) : Calls Tryz.prog 14 #[.agg (dF m q a u e).toArray] w (bU w (.bool (kU m))) := by
 have hql := pD m.qs
 have hqle := hm.qs.le
 go_enter Tryz.func14, Tryz.ntmps14
 refine_lift BP fun _ _ => ?_
 refine dB (vs := dF m q a u e) rfl rfl ?_
 intro p w1 x1 hp
 refine aA ?_
 unfold dF at hp
 have hq1 := hm.qs.ext x1
 refine_lift EG (fun _ _ _ => ?_) (fun _ => ?_)
 ·go_ret
  refine ⟨?_, x1⟩
  have : decide (m.qs.length ≤ 12) = false := decide_eq_false (by omega)
  rw [kU, this]
  rfl
 ·have hB : decide (m.qs.length ≤ 12) = true := decide_eq_true (by omega)
  have hC : kU m = (m.qs.all (fun q => decide (q.1.length ≤ 300)) && (dG m.an && dG m.au && dG m.ex)) := by
   rw [kU, hB, Bool.true_and]
  go_loopw [3] (fun i wr => ∃ k : Nat, k ≤ m.qs.length ∧ i = .int .i64 k ∧ Ext w1 wr ∧ (m.qs.take k).all (fun q => decide (q.1.length ≤ 300)) = true) (fun i _ => m.qs.length - (intOf i).toNat)
  case atStart => exact ⟨0, Nat.zero_le _, rfl, Ext.refl _, rfl⟩
  case round =>
   obtain ⟨k, hk, rfl, hx, hall⟩ := hrel
   have hq2 := hq1.ext hx
   have hp2 := hp.ext hx
   by_cases hlt : k < m.qs.length
   ·have h1 := hq2.elem (wR hlt)
    refine_lift EH (fun _ _ => ?_) (fun _ _ _ _ => ?_)
    ·go_ret
     refine ⟨?_, x1.trans hx⟩
     rw [hC, oE hlt (decide_eq_false (by omega))]
     rfl
    ·exact ⟨⟨k + 1, by omega, rfl, hx, iF hlt hall (decide_eq_true (by omega))⟩, by simp [intOf]; omega⟩
   ·have hk2 : k = m.qs.length := by omega
    subst hk2
    rw [List.take_length] at hall
    rw [hall, Bool.true_and] at hC
    refine_lift FX fun _ _ _ => ?_
    refine aB (enters_of Tryz.func42 rfl rfl) rfl rfl (t7 a m.an _ ((hm.an.ext x1).ext hx)) ?_; intro w4 x4; refine aA ?_
    have hx4 := hx.trans x4
    have hp4 := hp.ext hx4
    cases h4 : dG m.an with
    | false =>
     refine_lift CW ?_
     go_ret
     refine ⟨?_, x1.trans hx4⟩
     rw [hC, h4]
     rfl
    | true =>
     refine_lift CW ?_
     refine aB (enters_of Tryz.func42 rfl rfl) rfl rfl (t7 u m.au _ ((hm.au.ext x1).ext hx4)) ?_; intro w5 x5; refine aA ?_
     have hx5 := hx4.trans x5
     have hp5 := hp.ext hx5
     cases h5 : dG m.au with
     | false =>
      refine_lift CW ?_
      go_ret
      refine ⟨?_, x1.trans hx5⟩
      rw [hC, h4, h5]
      rfl
     | true =>
      refine_lift CW ?_
      refine aB (enters_of Tryz.func42 rfl rfl) rfl rfl (t7 e m.ex _ ((hm.ex.ext x1).ext hx5)) ?_; intro w6 x6; refine aA ?_
      have hx6 := hx5.trans x6
      refine_lift CW ?_
      go_ret
      refine ⟨?_, x1.trans hx6⟩
      rw [hC, h4, h5]
      cases dG m.ex <;> rfl
section
variable {P : Program} {ts : List Value} {df : List Deferred} {w : World} {d : Option Nat} {ty : TypeId} {ps : String} {af : Array Edge} {g : Option (Nat × Bool)}
end
theorem qH (n : List UInt8) : fold (fold n) = fold n := by
 cases h : aP n with
 | none =>
  have : fold n = n := by unfold fold; rw [h]
  rw [this, this]
 | some ls => exact (jN h).2.2
theorem sU (n : List UInt8) : bP (fold n) = bP n := by unfold bP; rw [qH]
section
variable {P : Program} {a : Act} {w : World} {d : Option Nat} {ty : TypeId} {ps : String} {af : Array Edge} {g : Option (Nat × Bool)}
end
theorem yQ (nm : List UInt8) (w : World) : Calls Tryz.prog 114 #[aF nm] w (tG w fun v w' => Own w.heap.size 1 9 w' v (aK ((aP nm).getD []))) := by
 go_enter Tryz.func114, Tryz.ntmps114
 (repeat' first | ((with_reducible refine aG ?_); go_step) | ((with_reducible refine aE ?_); first | refine gI ?_ | (refine aJ ?_ ?_ <;> intro hc)) | fail)
 refine aM (enters_of Tryz.func104 rfl rfl) rfl rfl (DS nm _) ?_
 intro v w1 x1 hv
 cases hl : aP nm with
 | none =>
  rw [hl] at hv
  subst hv
  (repeat' first | ((with_reducible refine aG ?_); go_step) | ((with_reducible refine aE ?_); first | refine gI ?_ | (refine aJ ?_ ?_ <;> intro hc)) | fail)
  go_ret
  exact ⟨_, rfl, x1, by rw [hl]; exact Own.nil _ _ _ _⟩
 | some ls =>
  rw [hl] at hv
  obtain ⟨s, rfl, hs⟩ := hv
  (repeat' first | ((with_reducible refine aG ?_); go_step) | ((with_reducible refine aE ?_); first | refine gI ?_ | (refine aJ ?_ ?_ <;> intro hc)) | fail)
  go_ret
  exact ⟨_, rfl, x1, by rw [hl]; exact hs⟩
def aT (l : List Rec) (z : List UInt8) : List Rec := l.filter fun r => decide (bH r = 0) && bB r.name z
structure JudR where
 qn : List UInt8
 qt : Int
 zone : List UInt8
 code : Int
 an : List Rec
 au : List Rec
def kV (a b : List UInt8) : Bool := decide (fold a = fold b)
def JudR.ansP (j : JudR) (r : Rec) : Bool := kV r.name j.qn && (decide (r.kind = j.qt) || decide (j.qt = 255))
def JudR.aliP (j : JudR) (r : Rec) : Bool := kV r.name j.qn && decide (r.kind = 5)
def JudR.denP (j : JudR) (r : Rec) : Bool := decide (r.kind = 6) && bB j.qn r.name
def JudR.answer (j : JudR) : Int × List UInt8 := if j.an.any j.ansP = true then (1, fold j.qn) else (0, [])
def JudR.alias (j : JudR) : Int × List UInt8 := match j.an.find? j.aliP with
 | none => (0, [])
 | some r => (5, fold (bQ 5 r.data).1)
def JudR.denial (j : JudR) : Int × List UInt8 := match j.au.find? j.denP with
 | none => (0, [])
 | some r => if j.code = 3 then (3, fold r.name) else (2, fold r.name)
def yR (n : List UInt8) : Int := (((aP n).getD []).length : Nat)
def JudR.step (j : JudR) (s : List UInt8 × Int) (r : Rec) : List UInt8 × Int :=
 if r.kind = 2 ∧ bB j.qn (fold r.name) = true ∧ kV (fold r.name) j.zone = false ∧ s.2 < yR (fold r.name) then (fold r.name, yR (fold r.name)) else s
def JudR.best (j : JudR) : List UInt8 × Int := j.au.foldl j.step ([], -1)
def JudR.referral (j : JudR) : Int × List UInt8 := if j.best.2 < 0 ∨ j.code ≠ 0 then (6, []) else (4, j.best.1)
def bX (qn : List UInt8) (qt : Int) (m : MsgR) (zone : List UInt8) : Int × List UInt8 :=
 if bB qn zone = false ∨ m.trunc = true ∨ (m.rcode ≠ 0 ∧ m.rcode ≠ 3) then (0, []) else
 let j : JudR := ⟨qn, qt, zone, m.rcode, aT m.an zone, aT m.au zone⟩
 if j.answer.1 ≠ 0 then j.answer else if j.alias.1 ≠ 0 then j.alias else if j.denial.1 ≠ 0 then j.denial else j.referral
structure ActR where
 kind : Int
 to : Int
 qn : List UInt8
 qt : Int
 code : Int
 ans : List Rec
 auth : List Rec
 deriving DecidableEq
structure TaskR where
 qn : List UInt8
 qt : Int
 roots : List Int
 zone : List UInt8
 servers : List Int
 got : List Rec
 chain : Int
 left : Int
 stop : Option ActR
structure LrnR where
 set : RSet
 rank : Int
def TaskR.done (t : TaskR) (code : Int) (ans auth : List Rec) : TaskR × ActR := ({ t with stop := some ⟨2, 0, [], 0, code, ans, auth⟩ }, ⟨2, 0, [], 0, code, ans, auth⟩)
def TaskR.on (t : TaskR) : TaskR × ActR := match t.servers with
 | [] => t.done 2 [] []
 | s :: rest => if t.left = 0 then t.done 2 [] [] else ({ t with servers := rest, left := t.left - 1 }, ⟨1, s, t.qn, t.qt, 0, [], []⟩)
def TaskR.timeout (t : TaskR) : TaskR × ActR := match t.stop with
 | some a => (t, a)
 | none => t.on
def dY (r : Rec) : Rec := { r with name := fold r.name }
def TaskR.of (t : TaskR) (l : List Rec) (n : List UInt8) (k : Int) : List Rec :=
 ((aT l t.zone).map dY).filter fun r => decide (r.name = fold n) && (decide (r.kind = k) || decide (k = 255))
def cJ (l : List Rec) (rank : Int) : List LrnR := if kO l = 0 then (bM l).map fun s => ⟨s, rank⟩ else []
def gX (d : List UInt8) : Option Int := if d.take 3 = [10, 0, 0] then match d.drop 3 with | [x] => if 99 < x.toNat then none else some (x.toNat : Nat) | _ => none else none
def dX (s : List Int) (l : List Rec) : List Int := l.foldl (fun s a => match gX a.data with | none => s | some n => if n ∈ s then s else s ++ [n]) s
structure RfrR where
 seen : List (List UInt8)
 servers : List Int
 learnt : List LrnR
def TaskR.refStep (t : TaskR) (ex : List Rec) (s : RfrR) (r : Rec) : RfrR :=
 let h := fold (bQ 2 r.data).1
 if h ∈ s.seen then s else
 let a := t.of ex h 1
 ⟨s.seen ++ [h], dX s.servers a, s.learnt ++ cJ a 1⟩
def TaskR.refer (t : TaskR) (m : MsgR) (z : List UInt8) : TaskR × List LrnR :=
 let ns := t.of m.au z 2
 let s := ns.foldl (t.refStep m.ex) ⟨[], [], cJ ns 2⟩
 ({ t with servers := s.servers, zone := z }, s.learnt)
def TaskR.follow (t : TaskR) (n : List UInt8) : TaskR × ActR :=
 if t.chain = 8 then t.done 2 [] [] else { t with chain := t.chain + 1, qn := n, zone := [], servers := t.roots }.on
def sV (m : MsgR) : Int := if m.auth = true then 4 else 3
def TaskR.reply (t : TaskR) (m : MsgR) : TaskR × ActR × List LrnR := match t.stop with
 | some a => (t, a, [])
 | none =>
  let j := bX t.qn t.qt m t.zone
  if j.1 = 1 then
   let l := t.of m.an t.qn t.qt
   let d := { t with got := t.got ++ l }.done 0 (t.got ++ l) []
   (d.1, d.2, cJ l (sV m))
  else if j.1 = 5 then
   let l := (t.of m.an t.qn 5).take 1
   let d := { t with got := t.got ++ l }.follow j.2
   (d.1, d.2, cJ l (sV m))
  else if j.1 = 3 then
   let d := t.done 3 t.got ((t.of m.au j.2 6).take 1)
   (d.1, d.2, [])
  else if j.1 = 2 then
   let d := t.done 0 t.got ((t.of m.au j.2 6).take 1)
   (d.1, d.2, [])
  else if j.1 = 4 then
   let d := (t.refer m j.2).1.on
   (d.1, d.2, (t.refer m j.2).2)
  else (t.on.1, t.on.2, [])
def dL (qn : List UInt8) (qt : Int) (roots : List Int) (budget : Int) : Int :=
 if fL qn = 0 ∧ (1 ≤ qt ∧ qt ≤ 65535) ∧ (1 ≤ roots.length ∧ roots.length ≤ 20) ∧ (1 ≤ budget ∧ budget ≤ 100) ∧ roots.any (fun n => !(decide (0 ≤ n) && decide (n ≤ 99))) = false then 0 else 1
def dO (qn : List UInt8) (qt : Int) (roots : List Int) (budget : Int) : TaskR := ⟨fold qn, qt, roots, [], roots, [], 0, budget, none⟩
structure TaskOk (t : TaskR) : Prop where
 left : 0 ≤ t.left
 zone : t.zone = [] ∨ bB t.zone t.zone = true
 stop : ∀ a, t.stop = some a → a.kind = 2
theorem TaskR.on_stop (t : TaskR) : (t.on.2.kind = 1 ∧ t.on.1.stop = t.stop ∧ t.on.1.left = t.left - 1 ∧ t.left ≠ 0) ∨ (t.on.2.kind = 2 ∧ t.on.1.stop = some t.on.2 ∧ t.on.1.left = t.left) := by
 unfold TaskR.on
 split
 ·exact .inr ⟨rfl, rfl, rfl⟩
 ·split
  ·exact .inr ⟨rfl, rfl, rfl⟩
  ·exact .inl ⟨rfl, rfl, rfl, by assumption⟩
theorem TaskR.on_zone (t : TaskR) : t.on.1.zone = t.zone := by
 unfold TaskR.on
 split
 ·rfl
 ·split <;> rfl
theorem qI (j : JudR) : ∀ (l : List Rec) (s : List UInt8 × Int), l.foldl j.step s = s ∨ ∃ r ∈ l, r.kind = 2 ∧ (l.foldl j.step s).1 = fold r.name
 | [], s => .inl rfl
 | r :: l, s => by
   rw [List.foldl_cons]
   rcases qI j l (j.step s r) with h | ⟨q, hq, h⟩
   ·rw [h]
    unfold JudR.step
    split
    ·rename_i c; exact .inr ⟨r, List.mem_cons_self .., c.1, rfl⟩
    ·exact .inl rfl
   ·exact .inr ⟨q, List.mem_cons_of_mem _ hq, h⟩
theorem sX {qn : List UInt8} {qt : Int} {m : MsgR} {z : List UInt8} (h : (bX qn qt m z).1 = 4) : ∃ r ∈ aT m.au z, (bX qn qt m z).2 = fold r.name := by
 unfold bX at h ⊢
 split at h
 ·cases h
 ·rename_i c
  rw [if_neg c]
  dsimp only at h ⊢
  generalize hj : (⟨qn, qt, z, m.rcode, aT m.an z, aT m.au z⟩ : JudR) = j at *
  have hau : j.au = aT m.au z := by rw [← hj]
  rw [← hau]
  split at h
  ·exfalso; unfold JudR.answer at h; split at h <;> cases h
  ·rename_i c1; rw [if_neg c1]
   split at h
   ·exfalso; unfold JudR.alias at h; split at h <;> cases h
   ·rename_i c2; rw [if_neg c2]
    split at h
    ·exfalso
     unfold JudR.denial at h
     split at h
     ·cases h
     ·split at h <;> cases h
    ·rename_i c3; rw [if_neg c3]
     unfold JudR.referral at h ⊢
     split at h
     ·cases h
     ·rename_i c4; rw [if_neg c4]
      have hb : ¬ j.best.2 < 0 := fun e => c4 (.inl e)
      rcases qI j j.au ([], -1) with e | ⟨r, hr, _, e⟩
      ·exfalso; apply hb; unfold JudR.best; rw [e]; decide
      ·exact ⟨r, hr, e⟩
theorem qV {l : List Rec} {z : List UInt8} {r : Rec} (h : r ∈ aT l z) : bB (fold r.name) z = true ∧ bB (fold r.name) (fold r.name) = true ∧ bH r = 0 := by
 unfold aT at h
 have := (List.mem_filter.1 h).2
 simp only [Bool.and_eq_true, decide_eq_true_eq] at this
 have hu : bB (fold r.name) z = true := by unfold bB; rw [sU]; exact this.2
 refine ⟨hu, jO ?_, this.1⟩
 exact (gS hu).1
theorem uB {t : TaskR} (ht : TaskOk t) (m : MsgR) : (t.reply m).1.zone = [] ∨ bB (t.reply m).1.zone t.zone = true := by
 have hz : t.zone = [] ∨ bB t.zone t.zone = true := ht.zone
 unfold TaskR.reply
 split
 ·exact hz
 ·dsimp only
  split
  ·exact hz
  ·split
   ·unfold TaskR.follow
    split
    ·exact hz
    ·rw [TaskR.on_zone]; exact .inl rfl
   ·split
    ·exact hz
    ·split
     ·exact hz
     ·split
      ·rename_i h4
       rw [TaskR.on_zone]
       obtain ⟨r, hr, e⟩ := sX h4
       show (bX t.qn t.qt m t.zone).2 = [] ∨ _
       rw [e]
       exact .inr (qV hr).1
      ·rw [TaskR.on_zone]; exact hz
def lQ (t t' : TaskR) (a : ActR) : Prop := (a.kind = 1 ∧ t.stop = none ∧ t'.stop = none ∧ t'.left = t.left - 1 ∧ 1 ≤ t.left) ∨ (a.kind = 2 ∧ t'.stop = some a ∧ t'.left = t.left)
theorem vK {t u : TaskR} (hl : 0 ≤ t.left) (h1 : u.left = t.left) (h2 : u.stop = none) (h3 : t.stop = none) : lQ t u.on.1 u.on.2 := by
 rcases u.on_stop with ⟨a, b, c, d⟩ | ⟨a, b, c⟩
 ·exact .inl ⟨a, h3, by rw [b, h2], by rw [c, h1], by omega⟩
 ·exact .inr ⟨a, b, by rw [c, h1]⟩
theorem nC {t u : TaskR} (h1 : u.left = t.left) (c : Int) (x y : List Rec) : lQ t (u.done c x y).1 (u.done c x y).2 := .inr ⟨rfl, rfl, h1⟩
theorem uC {t : TaskR} (ht : TaskOk t) : lQ t t.timeout.1 t.timeout.2 := by
 unfold TaskR.timeout
 split
 ·rename_i a h; exact .inr ⟨ht.stop a h, h, rfl⟩
 ·rename_i h; exact vK ht.left rfl h h
theorem yS {t : TaskR} (ht : TaskOk t) (m : MsgR) : lQ t (t.reply m).1 (t.reply m).2.1 := by
 unfold TaskR.reply
 split
 ·rename_i a h; exact .inr ⟨ht.stop a h, h, rfl⟩
 ·rename_i h
  dsimp only
  split
  ·exact nC rfl _ _ _
  ·split
   ·unfold TaskR.follow
    split
    ·exact nC rfl _ _ _
    ·exact vK ht.left rfl h h
   ·split
    ·exact nC rfl _ _ _
    ·split
     ·exact nC rfl _ _ _
     ·split
      ·exact vK ht.left rfl h h
      ·exact vK ht.left rfl h h
theorem TaskOk.step {t t' : TaskR} {a : ActR} (ht : TaskOk t) (h : lQ t t' a) (hz : t'.zone = [] ∨ bB t'.zone t.zone = true) : TaskOk t' := by
 refine ⟨?_, ?_, ?_⟩
 ·have := ht.left
  rcases h with ⟨_, _, _, h, k⟩ | ⟨_, _, h⟩ <;> omega
 ·rcases hz with hz | hz
  ·exact .inl hz
  ·exact .inr (jO (gS hz).1)
 ·intro b hb
  rcases h with ⟨_, _, h, _⟩ | ⟨h1, h2, _⟩
  ·rw [h] at hb; cases hb
  ·rw [h2] at hb; cases hb; exact h1
theorem qW (t : TaskR) : t.timeout.1.zone = t.zone := by
 unfold TaskR.timeout
 split
 ·rfl
 ·exact t.on_zone
def wS (qn : List UInt8) (qt : Int) (roots : List Int) (budget : Int) (i : Nat) : TaskR := ⟨fold qn, qt, roots, [], roots.drop i, [], 0, budget - i, none⟩
theorem AJ {qn : List UInt8} {qt : Int} {roots : List Int} {budget : Int} {i : Nat} (h1 : i < roots.length) (h2 : (i : Int) < budget) : (wS qn qt roots budget i).on = (wS qn qt roots budget (i + 1), ⟨1, roots[i], fold qn, qt, 0, [], []⟩) := by
 unfold TaskR.on wS
 have : roots.drop i = roots[i] :: roots.drop (i + 1) := List.drop_eq_getElem_cons h1
 simp only [this]
 rw [if_neg (by show ¬ budget - (i : Int) = 0; omega)]
 simp only [Prod.mk.injEq, TaskR.mk.injEq, and_true, true_and]
 omega
def dZ : List Value := [aF [], .int .i64 0, .int .i64 0, aF []]
theorem lR {ts : List Value} {df : List Deferred} {x : Operand} {r : Rec} (h : (Act.mk ts.toArray df).eval x = .agg #[aF r.name, .int .i64 r.kind, .int .i64 r.ttl, aF r.data]) : ElemIs (Act.mk ts.toArray df) x 4 [aF r.name, .int .i64 r.kind, .int .i64 r.ttl, aF r.data] :=
 ElemIs.mk h rfl rfl (by simp [aF, Value.oneCell'])
theorem qX (a b : List UInt8) (w : World) : Calls Tryz.prog 149 #[aF a, aF b] w (bU w (.bool (kV a b))) := by
 go_enter Tryz.func149, Tryz.ntmps149
 (repeat' first | ((with_reducible refine aG ?_); go_step) | ((with_reducible refine aE ?_); first | refine aL ?_ | (refine aJ ?_ ?_ <;> intro hc)) | fail)
 refine aB (enters_of Tryz.func57 rfl rfl) rfl rfl (uY a _) ?_; intro w1 x1; refine aA ?_
 (repeat' first | ((with_reducible refine aG ?_); go_step) | ((with_reducible refine aE ?_); first | refine aL ?_ | (refine aJ ?_ ?_ <;> intro hc)) | fail)
 refine aB (enters_of Tryz.func57 rfl rfl) rfl rfl (uY b _) ?_; intro w2 x2; refine aA ?_
 (repeat' first | ((with_reducible refine aG ?_); go_step) | ((with_reducible refine aE ?_); first | refine aL ?_ | (refine aJ ?_ ?_ <;> intro hc)) | fail)
 go_ret
 exact ⟨rfl, x1.trans x2⟩
theorem BG (n a b : Int) (w : World) : Calls Tryz.prog 54 #[.int .i64 n, .int .i64 a, .int .i64 b] w (bU w (.bool (decide (a ≤ n) && decide (n ≤ b)))) := by
 go_enter Tryz.func54, Tryz.ntmps54
 (repeat' first | ((with_reducible refine aG ?_); go_step) | ((with_reducible refine aE ?_); first | refine aL ?_ | (refine aJ ?_ ?_ <;> intro hc)) | fail)
 ·have hc := ‹a ≤ n›
  go_ret
  exact ⟨by rw [decide_eq_true hc]; rfl, Ext.refl _⟩
 ·have hc := ‹¬ a ≤ n›
  go_ret
  exact ⟨by rw [decide_eq_false hc]; rfl, Ext.refl _⟩
theorem sY {l : List Rec} {z : List UInt8} {k : Nat} (h : k < l.length) : aT (l.take (k + 1)) z = aT (l.take k) z ++ if (decide (bH l[k] = 0) && bB l[k].name z) = true then [l[k]] else [] := by
 unfold aT
 rw [List.take_succ_eq_append_getElem h, List.filter_append]
 congr 1
 simp [List.filter_cons]
theorem jR (l : List Rec) (z : List UInt8) : (aT l z).length ≤ l.length := List.length_filter_le _ _
set_option maxHeartbeats 3000000 in
theorem oV (v : Value) (l : List Rec) (z : List UInt8) (w : World) (hv : Sl 4 w v (aI l)) (hl : l.length ≤ 100000) : Calls Tryz.prog 26 #[v, aF z] w (tG w fun r w' => Own w.heap.size 4 64 w' r (aI (aT l z))) := by
 have hlen := aU l
 go_enter Tryz.func26, Tryz.ntmps26
 (repeat' first | ((with_reducible refine aG ?_); go_step) | ((with_reducible refine aE ?_); first | refine aL ?_ | (refine aJ ?_ ?_ <;> intro hc)) | fail)
 go_loopw [5, 10] (fun o i wr => ∃ k : Nat, k ≤ l.length ∧ i = .int .i64 k ∧ Ext w wr ∧ Own w.heap.size 4 64 wr o (aI (aT (l.take k) z))) (fun _ i _ => l.length - (intOf i).toNat)
 case atStart => exact ⟨0, Nat.zero_le _, rfl, Ext.refl _, by simpa [aT, aI] using Own.nil _ _ _ _⟩
 case round =>
  obtain ⟨k, hk, rfl, hx, ho⟩ := hrel
  have hu2 := hv.ext hx
  by_cases hlt : k < l.length
  ·have hpe := hu2.elem (dE hlt)
   have hst := sY (z := z) hlt
   have hll := jR (l.take k) z
   rw [List.length_take] at hll
   have hcl := aU (aT (l.take k) z)
   (repeat' first | ((with_reducible refine aG ?_); go_step) | ((with_reducible refine aE ?_); first | refine aL ?_ | (refine aJ ?_ ?_ <;> intro hc)) | fail)
   refine aH (z := dZ) rfl (by decide +kernel) ?_
   intro w2 x2 s2 h2
   refine aA ?_
   refine aD (v := .agg #[aF l[k].name, .int .i64 l[k].kind, .int .i64 l[k].ttl, aF l[k].data]) rfl rfl rfl h2 (show aN Tryz.prog 64 4 = true by decide +kernel) rfl (nN rfl rfl rfl rfl) ?_
   intro w3 p3
   have x3 : Ext wr w3 := x2.move p3.mv (by rintro k ⟨⟩; exact Nat.le_refl _)
   have hp3 := aC (cs := [aF l[k].name, .int .i64 l[k].kind, .int .i64 l[k].ttl, aF l[k].data]) p3.this
   have hx3 := hx.trans x3
   have ho3 := ho.ext x3
   clear p3 h2 x2
   (repeat' first | ((with_reducible refine aG ?_); go_step) | ((with_reducible refine aE ?_); first | refine aL ?_ | (refine aJ ?_ ?_ <;> intro hc)) | fail)
   refine aB (enters_of Tryz.func61 rfl rfl) rfl rfl (FH l[k] _) ?_; intro w4 x4; refine aA ?_
   have hx4 := hx3.trans x4
   have ho4 := ho3.ext x4
   have hp4 := hp3.ext x4
   by_cases hm : bH l[k] = 0
   ·rw [decide_eq_true hm, Bool.true_and] at hst
    rw [hm]
    (repeat' first | ((with_reducible refine aG ?_); go_step) | ((with_reducible refine aE ?_); first | refine aL ?_ | (refine aJ ?_ ?_ <;> intro hc)) | fail)
    refine aB (enters_of Tryz.func62 rfl rfl) rfl rfl (nA l[k].name z _) ?_; intro w5 x5; refine aA ?_
    have hx5 := hx4.trans x5
    have ho5 := ho4.ext x5
    have hp5 := hp4.ext x5
    clear hp4 hp3 hpe hu2
    cases hu : bB l[k].name z with
    | false =>
     rw [hu, if_neg (by decide), List.append_nil] at hst
     (repeat' first | ((with_reducible refine aG ?_); go_step) | ((with_reducible refine aE ?_); first | refine aL ?_ | (refine aJ ?_ ?_ <;> intro hc)) | fail)
     exact ⟨⟨k + 1, by omega, by go_num, hx5, by rw [hst]; exact ho5⟩, by simp [intOf]; omega⟩
    | true =>
     rw [hu, if_pos rfl] at hst
     (repeat' first | ((with_reducible refine aG ?_); go_step) | ((with_reducible refine aE ?_); first | refine aL ?_ | (refine aJ ?_ ?_ <;> intro hc)) | fail)
     refine CS [aF l[k].name, .int .i64 l[k].kind, .int .i64 l[k].ttl, aF l[k].data] hx5 ho5 (by omega) ?_ (lR rfl)
     intro s5 v5 w5 w6 x5 m6 x6 o6
     refine aA ?_
     (repeat' first | ((with_reducible refine aG ?_); go_step) | ((with_reducible refine aE ?_); first | refine aL ?_ | (refine aJ ?_ ?_ <;> intro hc)) | fail)
     refine ⟨⟨k + 1, by omega, by go_num, x6, ?_⟩, by simp [intOf]; omega⟩
     rw [hst]
     simpa [aI, Rec.cells] using o6
   ·rw [decide_eq_false hm, Bool.false_and, if_neg (by decide), List.append_nil] at hst
    (repeat' first | ((with_reducible refine aG ?_); go_step) | ((with_reducible refine aE ?_); first | refine aL ?_ | (refine aJ ?_ ?_ <;> intro hc)) | fail)
    all_goals first
     | exact absurd ‹bH l[k] = 0› hm
     | skip
    exact ⟨⟨k + 1, by omega, by go_num, hx4, by rw [hst]; exact ho4⟩, by simp [intOf]; omega⟩
  ·have : k = l.length := by omega
   subst this
   rw [List.take_length] at ho
   (repeat' first | ((with_reducible refine aG ?_); go_step) | ((with_reducible refine aE ?_); first | refine aL ?_ | (refine aJ ?_ ?_ <;> intro hc)) | fail)
   go_ret
   exact ⟨_, rfl, hx, ho⟩
def RecFnC (w : World) (f : FuncId) (caps : Array Value) (l : List Rec) (p : Rec → Bool) : Prop := ∀ r ∈ l, ∀ w', Ext w w' → Calls Tryz.prog f ([Value.agg #[aF r.name, .int .i64 r.kind, .int .i64 r.ttl, aF r.data]].toArray ++ caps) w' (bU w' (.bool (p r)))
theorem RecFnC.ext {w w1 : World} {f : FuncId} {caps : Array Value} {l : List Rec} {p : Rec → Bool} (h : RecFnC w f caps l p) (hx : Ext w w1) : RecFnC w1 f caps l p :=
 fun r hr w' hx' => h r hr w' (hx.trans hx')
set_option maxHeartbeats 3000000 in
theorem qY (v : Value) (l : List Rec) (f : FuncId) (caps : Array Value) (p : Rec → Bool) (w : World) (hv : Sl 4 w v (aI l)) (he : Enters Tryz.prog f) (hf : RecFnC w f caps l p) : Calls Tryz.prog 197 #[v, .func (.func f) #[] caps] w (bU w (.int .i64 (pA p l))) := by
 have hle := hv.le
 have hlen := aU l
 go_enter Tryz.func197, Tryz.ntmps197
 (repeat' first | ((with_reducible refine aG ?_); go_step) | ((with_reducible refine aE ?_); first | refine aL ?_ | (refine aJ ?_ ?_ <;> intro hc)) | fail)
 go_loopw [5, 8] (fun _ i wr => ∃ k : Nat, k ≤ l.length ∧ i = .int .i64 k ∧ Ext w wr ∧ (l.take k).any p = false) (fun _ i _ => l.length - (intOf i).toNat)
 case atStart => exact ⟨0, Nat.zero_le _, rfl, Ext.refl _, rfl⟩
 case round =>
  obtain ⟨k, hk, rfl, hx, hall⟩ := hrel
  have hv2 := hv.ext hx
  by_cases hlt : k < l.length
  ·have hpe := hv2.elem (dE hlt)
   (repeat' first | ((with_reducible refine aG ?_); go_step) | ((with_reducible refine aE ?_); first | refine aL ?_ | (refine aJ ?_ ?_ <;> intro hc)) | fail)
   refine cR he rfl rfl rfl (hf _ (List.getElem_mem hlt) _ hx) ?_
   rintro e w2 ⟨rfl, x2⟩
   refine ⟨_, rfl, ?_⟩
   refine aA ?_
   cases hp : p l[k] with
   | true =>
    (repeat' first | ((with_reducible refine aG ?_); go_step) | ((with_reducible refine aE ?_); first | refine aL ?_ | (refine aJ ?_ ?_ <;> intro hc)) | fail)
    go_ret
    exact ⟨by rw [yH hlt hall hp]; rfl, hx.trans x2⟩
   | false =>
    (repeat' first | ((with_reducible refine aG ?_); go_step) | ((with_reducible refine aE ?_); first | refine aL ?_ | (refine aJ ?_ ?_ <;> intro hc)) | fail)
    exact ⟨⟨k + 1, by omega, by go_num, hx.trans x2, sC hlt hall hp⟩, by simp [intOf]; omega⟩
  ·have : k = l.length := by omega
   subst this
   rw [List.take_length] at hall
   (repeat' first | ((with_reducible refine aG ?_); go_step) | ((with_reducible refine aE ?_); first | refine aL ?_ | (refine aJ ?_ ?_ <;> intro hc)) | fail)
   go_ret
   exact ⟨by rw [yI hall]; rfl, hx⟩
def EP (r : Rec) : Value := .agg #[aF r.name, .int .i64 r.kind, .int .i64 r.ttl, aF r.data]
def CB (o : Option Rec) : Value := .tuple #[EP (o.getD ⟨[], 0, 0, []⟩), .bool o.isSome]
set_option maxHeartbeats 3000000 in
theorem qZ (v : Value) (l : List Rec) (f : FuncId) (caps : Array Value) (p : Rec → Bool) (w : World) (hv : Sl 4 w v (aI l)) (he : Enters Tryz.prog f) (hf : RecFnC w f caps l p) : Calls Tryz.prog 147 #[v, .func (.func f) #[] caps] w (bU w (CB (l.find? p))) := by
 have hle := hv.le
 have hlen := aU l
 go_enter Tryz.func147, Tryz.ntmps147
 repeat' (first | ((with_reducible refine aG ?_); go_step) | fail)
 refine aH (z := dZ) rfl (by decide +kernel) ?_
 intro w1 x1 s1 h1
 refine aA ?_
 (repeat' first | ((with_reducible refine aG ?_); go_step) | ((with_reducible refine aE ?_); first | refine aL ?_ | (refine aJ ?_ ?_ <;> intro hc)) | fail)
 refine aB (enters_of Tryz.func197 rfl rfl) rfl rfl (qY v l f caps p _ (hv.ext x1) he (hf.ext x1)) ?_; intro w2 x2; refine aA ?_
 have hx2 := x1.trans x2
 have h2 := x2.at h1
 have hv2 := hv.ext hx2
 rcases pZ p l with ⟨k, hk, e1, _, e3⟩ | ⟨e1, e2⟩
 ·rw [e1]
  have hpe := hv2.elem (dE hk)
  have hkr : k < (aI l).length := by omega
  (repeat' first | ((with_reducible refine aG ?_); go_step) | ((with_reducible refine aE ?_); first | refine aL ?_ | (refine aJ ?_ ?_ <;> intro hc)) | fail)
  refine aD (v := .agg #[aF l[k].name, .int .i64 l[k].kind, .int .i64 l[k].ttl, aF l[k].data]) rfl rfl rfl h2 (show aN Tryz.prog 64 4 = true by decide +kernel) rfl (nN rfl rfl rfl rfl) ?_
  intro w3 p3
  have x3 : Ext w w3 := hx2.move p3.mv (by rintro k ⟨⟩; exact Nat.le_refl _)
  (repeat' first | ((with_reducible refine aG ?_); go_step) | ((with_reducible refine aE ?_); first | refine aL ?_ | (refine aJ ?_ ?_ <;> intro hc)) | fail)
  refine bodyPost_ret (bE (cs := [aF l[k].name, .int .i64 l[k].kind, .int .i64 l[k].ttl, aF l[k].data]) rfl rfl p3.this (show bK Tryz.prog 64 4 = true by decide +kernel)) rfl ⟨by rw [e3]; rfl, x3⟩
 ·rw [e1]
  (repeat' first | ((with_reducible refine aG ?_); go_step) | ((with_reducible refine aE ?_); first | refine aL ?_ | (refine aJ ?_ ?_ <;> intro hc)) | fail)
  refine bY (v := .agg dZ.toArray) rfl (Runs.build0 (by kernel_rfl)) ?_
  refine aA ?_
  refine aD (v := .agg dZ.toArray) rfl rfl rfl h2 (show aN Tryz.prog 64 4 = true by decide +kernel) rfl (by decide +kernel) ?_
  intro w3 p3
  have x3 : Ext w w3 := hx2.move p3.mv (by rintro k ⟨⟩; exact Nat.le_refl _)
  (repeat' first | ((with_reducible refine aG ?_); go_step) | ((with_reducible refine aE ?_); first | refine aL ?_ | (refine aJ ?_ ?_ <;> intro hc)) | fail)
  refine bodyPost_ret (bE (cs := dZ) rfl rfl p3.this (show bK Tryz.prog 64 4 = true by decide +kernel)) rfl ⟨by rw [e2.2]; rfl, x3⟩
def fB (j : JudR) (an au : Value) : List Value := [aF j.qn, .int .i64 j.qt, aF j.zone, .int .i64 j.code, an, au]
set_option maxHeartbeats 2000000 in
theorem CC (j : JudR) (r : Rec) (pq : Value) (w : World) (hq : Pts w pq [aF j.qn, .int .i64 j.qt]) : Calls Tryz.prog 148 #[.agg #[aF r.name, .int .i64 r.kind, .int .i64 r.ttl, aF r.data], pq] w (bU w (.bool (j.ansP r))) := by
 go_enter Tryz.func148, Tryz.ntmps148
 repeat' (first | ((with_reducible refine aG ?_); go_step) | fail)
 refine dB (vs := [aF r.name, .int .i64 r.kind, .int .i64 r.ttl, aF r.data]) rfl rfl ?_
 intro p w1 x1 hp
 refine aA ?_
 have hq1 := hq.ext x1
 (repeat' first | ((with_reducible refine aG ?_); go_step) | ((with_reducible refine aE ?_); first | refine aL ?_ | (refine aJ ?_ ?_ <;> intro hc)) | fail)
 refine aB (enters_of Tryz.func149 rfl rfl) rfl rfl (qX r.name j.qn _) ?_; intro w2 x2; refine aA ?_
 have hp2 := hp.ext x2
 have hq2 := hq1.ext x2
 have hx2 := x1.trans x2
 cases hs : kV r.name j.qn with
 | false =>
  (repeat' first | ((with_reducible refine aG ?_); go_step) | ((with_reducible refine aE ?_); first | refine aL ?_ | (refine aJ ?_ ?_ <;> intro hc)) | fail)
  go_ret
  exact ⟨by rw [show j.ansP r = false by simp [JudR.ansP, hs]]; rfl, hx2⟩
 | true =>
  by_cases hk : r.kind = j.qt
  ·(repeat' first | ((with_reducible refine aG ?_); go_step) | ((with_reducible refine aE ?_); first | refine aL ?_ | (refine aJ ?_ ?_ <;> intro hc)) | fail)
   all_goals first
    | exact absurd hk ‹_›
    | skip
   go_ret
   exact ⟨by rw [show j.ansP r = true by simp [JudR.ansP, hs, hk]]; rfl, hx2⟩
  ·(repeat' first | ((with_reducible refine aG ?_); go_step) | ((with_reducible refine aE ?_); first | refine aL ?_ | (refine aJ ?_ ?_ <;> intro hc)) | fail)
   all_goals first
    | exact absurd ‹r.kind = j.qt› hk
    | skip
   go_ret
   exact ⟨by rw [show j.ansP r = decide (j.qt = 255) by simp [JudR.ansP, hs, hk]]; rfl, hx2⟩
set_option maxHeartbeats 2000000 in
theorem CD (j : JudR) (an au : Value) (r : Rec) (pj : Value) (w : World) (hj : Pts w pj (fB j an au)) : Calls Tryz.prog 150 #[.agg #[aF r.name, .int .i64 r.kind, .int .i64 r.ttl, aF r.data], pj] w (bU w (.bool (j.aliP r))) := by
 go_enter Tryz.func150, Tryz.ntmps150
 repeat' (first | ((with_reducible refine aG ?_); go_step) | fail)
 refine dB (vs := [aF r.name, .int .i64 r.kind, .int .i64 r.ttl, aF r.data]) rfl rfl ?_
 intro p w1 x1 hp
 refine aA ?_
 have hj1 := hj.ext x1
 have hj0 : Pts w1 (bA pj 0) [aF j.qn, .int .i64 j.qt] := (hj1.part 0).front 2
 (repeat' first | ((with_reducible refine aG ?_); go_step) | ((with_reducible refine aE ?_); first | refine aL ?_ | (refine aJ ?_ ?_ <;> intro hc)) | fail)
 refine aB (enters_of Tryz.func149 rfl rfl) rfl rfl (qX r.name j.qn _) ?_; intro w2 x2; refine aA ?_
 have hp2 := hp.ext x2
 have hx2 := x1.trans x2
 cases hs : kV r.name j.qn with
 | false =>
  (repeat' first | ((with_reducible refine aG ?_); go_step) | ((with_reducible refine aE ?_); first | refine aL ?_ | (refine aJ ?_ ?_ <;> intro hc)) | fail)
  go_ret
  exact ⟨by rw [show j.aliP r = false by simp [JudR.aliP, hs]]; rfl, hx2⟩
 | true =>
  (repeat' first | ((with_reducible refine aG ?_); go_step) | ((with_reducible refine aE ?_); first | refine aL ?_ | (refine aJ ?_ ?_ <;> intro hc)) | fail)
  go_ret
  exact ⟨by rw [show j.aliP r = decide (r.kind = 5) by simp [JudR.aliP, hs]]; rfl, hx2⟩
set_option maxHeartbeats 2000000 in
theorem CE (j : JudR) (an au : Value) (r : Rec) (pj : Value) (w : World) (hj : Pts w pj (fB j an au)) : Calls Tryz.prog 151 #[.agg #[aF r.name, .int .i64 r.kind, .int .i64 r.ttl, aF r.data], pj] w (bU w (.bool (j.denP r))) := by
 go_enter Tryz.func151, Tryz.ntmps151
 repeat' (first | ((with_reducible refine aG ?_); go_step) | fail)
 refine dB (vs := [aF r.name, .int .i64 r.kind, .int .i64 r.ttl, aF r.data]) rfl rfl ?_
 intro p w1 x1 hp
 refine aA ?_
 have hj1 := hj.ext x1
 have hj0 : Pts w1 (bA pj 0) [aF j.qn, .int .i64 j.qt] := (hj1.part 0).front 2
 (repeat' first | ((with_reducible refine aG ?_); go_step) | ((with_reducible refine aE ?_); first | refine aL ?_ | (refine aJ ?_ ?_ <;> intro hc)) | fail)
 ·have hc := ‹r.kind = 6›
  refine aB (enters_of Tryz.func62 rfl rfl) rfl rfl (nA j.qn r.name _) ?_; intro w2 x2; refine aA ?_
  (repeat' first | ((with_reducible refine aG ?_); go_step) | ((with_reducible refine aE ?_); first | refine aL ?_ | (refine aJ ?_ ?_ <;> intro hc)) | fail)
  go_ret
  exact ⟨by rw [show j.denP r = bB j.qn r.name by simp [JudR.denP, hc]]; rfl, x1.trans x2⟩
 ·have hc := ‹¬ r.kind = 6›
  go_ret
  exact ⟨by rw [show j.denP r = false by simp [JudR.denP, hc]]; rfl, x1⟩
theorem yT {α : Type} (p : α → Bool) (l : List α) : (l.find? p).isSome = l.any p := by
 rw [Bool.eq_iff_iff, List.find?_isSome, List.any_eq_true]
theorem wT (n : List UInt8) (k : Int) : (Value.agg #[aF n, .int .i64 k]).cells.all (·.oneCell') = true := by simp [Value.cells, aF, Value.oneCell']
set_option maxHeartbeats 3000000 in
theorem yU (j : JudR) (an au : Value) (w : World) (ha : Sl 4 w an (aI j.an)) (hu : Sl 4 w au (aI j.au)) : Calls Tryz.prog 95 #[.agg (fB j an au).toArray] w (bU w (.tuple #[.int .i64 j.answer.1, aF j.answer.2])) := by
 go_enter Tryz.func95, Tryz.ntmps95
 repeat' (first | ((with_reducible refine aG ?_); go_step) | fail)
 refine cQ (vs := fB j an au) rfl rfl ?_
 intro w1 x1 s1 h1
 refine aA ?_
 have hp := aC (cs := fB j an au) h1
 have hj0 : Pts w1 (bA (.pointer (some ⟨w.heap.size, 0, none⟩)) 0) [aF j.qn, .int .i64 j.qt] := (hp.part 0).front 2
 have hj2 : Pts w1 (bA (.pointer (some ⟨w.heap.size, 0, none⟩)) 2) [aF j.zone] := (hp.part 2).front 1
 have hj3 : Pts w1 (bA (.pointer (some ⟨w.heap.size, 0, none⟩)) 3) [.int .i64 j.code] := (hp.part 3).front 1
 have hj4 : Pts w1 (bA (.pointer (some ⟨w.heap.size, 0, none⟩)) 4) [an] := (hp.part 4).front 1
 have hj5 : Pts w1 (bA (.pointer (some ⟨w.heap.size, 0, none⟩)) 5) [au] := hp.part 5
 (repeat' first | ((with_reducible refine aG ?_); go_step) | ((with_reducible refine aE ?_); first | refine aL ?_ | (refine aJ ?_ ?_ <;> intro hc)) | fail)
 refine aH (z := [aF [], .int .i64 0]) rfl (by decide +kernel) ?_
 intro w2 x2 s2 h2
 refine aA ?_
 refine aD (v := .agg #[aF j.qn, .int .i64 j.qt]) rfl rfl rfl h2 (show aN Tryz.prog 31 2 = true by decide +kernel) rfl (wT _ _) ?_
 intro w3 p3
 have x3 : Ext w1 w3 := x2.move p3.mv (by rintro k ⟨⟩; exact Nat.le_refl _)
 have hq3 := aC (cs := [aF j.qn, .int .i64 j.qt]) p3.this
 have hx3 := x1.trans x3
 have hj43 := hj4.ext x3
 clear p3 h2 x2 s2 hj0 hj2 hj3 hj5 hp h1
 generalize w1.heap.size = bq at *
 have hF := qZ an j.an 148 #[.pointer (some ⟨bq, 0, none⟩)] j.ansP w3 (ha.ext hx3) (enters_of Tryz.func148 rfl rfl) (fun r _ w' c => CC j r _ w' (hq3.ext c))
 have hA := yT j.ansP j.an
 cases hf : j.an.find? j.ansP with
 | none =>
  rw [hf] at hF hA
  have hE : j.answer = (0, []) := by rw [JudR.answer, if_neg (by rw [← hA]; simp)]
  (repeat' first | ((with_reducible refine aG ?_); go_step) | ((with_reducible refine aE ?_); first | refine aL ?_ | (refine aJ ?_ ?_ <;> intro hc)) | fail)
  refine aB (enters_of Tryz.func147 rfl rfl) rfl rfl (hF) ?_; intro w4 x4; refine aA ?_
  (repeat' first | ((with_reducible refine aG ?_); go_step) | ((with_reducible refine aE ?_); first | refine aL ?_ | (refine aJ ?_ ?_ <;> intro hc)) | fail)
  refine aH (z := dZ) rfl (by decide +kernel) ?_
  intro w5 x5 s5 h5
  refine aA ?_
  refine aD (v := .agg dZ.toArray) rfl rfl rfl h5 (show aN Tryz.prog 64 4 = true by decide +kernel) rfl (by decide +kernel) ?_
  intro w6 p6
  have x6 : Ext w4 w6 := x5.move p6.mv (by rintro k ⟨⟩; exact Nat.le_refl _)
  clear h5 x5 s5
  have hx6 := hx3.trans (x4.trans x6)
  clear p6
  (repeat' first | ((with_reducible refine aG ?_); go_step) | ((with_reducible refine aE ?_); first | refine aL ?_ | (refine aJ ?_ ?_ <;> intro hc)) | fail)
  go_ret2
  exact ⟨by rw [hE]; rfl, hx6⟩
 | some r =>
  rw [hf] at hF hA
  have hE : j.answer = (1, fold j.qn) := by rw [JudR.answer, if_pos (by rw [← hA]; rfl)]
  (repeat' first | ((with_reducible refine aG ?_); go_step) | ((with_reducible refine aE ?_); first | refine aL ?_ | (refine aJ ?_ ?_ <;> intro hc)) | fail)
  refine aB (enters_of Tryz.func147 rfl rfl) rfl rfl (hF) ?_; intro w4 x4; refine aA ?_
  (repeat' first | ((with_reducible refine aG ?_); go_step) | ((with_reducible refine aE ?_); first | refine aL ?_ | (refine aJ ?_ ?_ <;> intro hc)) | fail)
  refine aH (z := dZ) rfl (by decide +kernel) ?_
  intro w5 x5 s5 h5
  refine aA ?_
  refine aD (v := .agg #[aF r.name, .int .i64 r.kind, .int .i64 r.ttl, aF r.data]) rfl rfl rfl h5 (show aN Tryz.prog 64 4 = true by decide +kernel) rfl (nN rfl rfl rfl rfl) ?_
  intro w6 p6
  have x6 : Ext w4 w6 := x5.move p6.mv (by rintro k ⟨⟩; exact Nat.le_refl _)
  clear h5 x5 s5
  have hx6 := hx3.trans (x4.trans x6)
  have hq6 := hq3.ext (x4.trans x6)
  clear p6
  (repeat' first | ((with_reducible refine aG ?_); go_step) | ((with_reducible refine aE ?_); first | refine aL ?_ | (refine aJ ?_ ?_ <;> intro hc)) | fail)
  refine aB (enters_of Tryz.func57 rfl rfl) rfl rfl (uY j.qn _) ?_; intro w7 x7; refine aA ?_
  (repeat' first | ((with_reducible refine aG ?_); go_step) | ((with_reducible refine aE ?_); first | refine aL ?_ | (refine aJ ?_ ?_ <;> intro hc)) | fail)
  go_ret2
  exact ⟨by rw [hE]; rfl, hx6.trans x7⟩
set_option maxHeartbeats 3000000 in
theorem AK (j : JudR) (an au : Value) (w : World) (ha : Sl 4 w an (aI j.an)) (hu : Sl 4 w au (aI j.au)) (hd : ∀ r ∈ j.an, r.data.length ≤ 4000) : Calls Tryz.prog 96 #[.agg (fB j an au).toArray] w (bU w (.tuple #[.int .i64 j.alias.1, aF j.alias.2])) := by
 go_enter Tryz.func96, Tryz.ntmps96
 repeat' (first | ((with_reducible refine aG ?_); go_step) | fail)
 refine cQ (vs := fB j an au) rfl rfl ?_
 intro w1 x1 s1 h1
 refine aA ?_
 have hp := aC (cs := fB j an au) h1
 have hj0 : Pts w1 (bA (.pointer (some ⟨w.heap.size, 0, none⟩)) 0) [aF j.qn, .int .i64 j.qt] := (hp.part 0).front 2
 have hj2 : Pts w1 (bA (.pointer (some ⟨w.heap.size, 0, none⟩)) 2) [aF j.zone] := (hp.part 2).front 1
 have hj3 : Pts w1 (bA (.pointer (some ⟨w.heap.size, 0, none⟩)) 3) [.int .i64 j.code] := (hp.part 3).front 1
 have hj4 : Pts w1 (bA (.pointer (some ⟨w.heap.size, 0, none⟩)) 4) [an] := (hp.part 4).front 1
 have hj5 : Pts w1 (bA (.pointer (some ⟨w.heap.size, 0, none⟩)) 5) [au] := hp.part 5
 have hF := qZ an j.an 150 #[.pointer (some ⟨w.heap.size, 0, none⟩)] j.aliP w1 (ha.ext x1) (enters_of Tryz.func150 rfl rfl) (fun r _ w' c => CD j an au r _ w' (hp.ext c))
 cases hf : j.an.find? j.aliP with
 | none =>
  rw [hf] at hF
  have hE : j.alias = (0, []) := by rw [JudR.alias, hf]
  (repeat' first | ((with_reducible refine aG ?_); go_step) | ((with_reducible refine aE ?_); first | refine aL ?_ | (refine aJ ?_ ?_ <;> intro hc)) | fail)
  refine aB (enters_of Tryz.func147 rfl rfl) rfl rfl (hF) ?_; intro w4 x4; refine aA ?_
  (repeat' first | ((with_reducible refine aG ?_); go_step) | ((with_reducible refine aE ?_); first | refine aL ?_ | (refine aJ ?_ ?_ <;> intro hc)) | fail)
  refine aH (z := dZ) rfl (by decide +kernel) ?_
  intro w5 x5 s5 h5
  refine aA ?_
  refine aD (v := .agg dZ.toArray) rfl rfl rfl h5 (show aN Tryz.prog 64 4 = true by decide +kernel) rfl (by decide +kernel) ?_
  intro w6 p6
  have x6 : Ext w4 w6 := x5.move p6.mv (by rintro k ⟨⟩; exact Nat.le_refl _)
  clear h5 x5 s5
  have hx6 := x1.trans (x4.trans x6)
  clear p6
  (repeat' first | ((with_reducible refine aG ?_); go_step) | ((with_reducible refine aE ?_); first | refine aL ?_ | (refine aJ ?_ ?_ <;> intro hc)) | fail)
  go_ret2
  exact ⟨by rw [hE]; rfl, hx6⟩
 | some r =>
  rw [hf] at hF
  have hE : j.alias = (5, fold (bQ 5 r.data).1) := by rw [JudR.alias, hf]
  (repeat' first | ((with_reducible refine aG ?_); go_step) | ((with_reducible refine aE ?_); first | refine aL ?_ | (refine aJ ?_ ?_ <;> intro hc)) | fail)
  refine aB (enters_of Tryz.func147 rfl rfl) rfl rfl (hF) ?_; intro w4 x4; refine aA ?_
  (repeat' first | ((with_reducible refine aG ?_); go_step) | ((with_reducible refine aE ?_); first | refine aL ?_ | (refine aJ ?_ ?_ <;> intro hc)) | fail)
  refine aH (z := dZ) rfl (by decide +kernel) ?_
  intro w5 x5 s5 h5
  refine aA ?_
  refine aD (v := .agg #[aF r.name, .int .i64 r.kind, .int .i64 r.ttl, aF r.data]) rfl rfl rfl h5 (show aN Tryz.prog 64 4 = true by decide +kernel) rfl (nN rfl rfl rfl rfl) ?_
  intro w6 p6
  have x6 : Ext w4 w6 := x5.move p6.mv (by rintro k ⟨⟩; exact Nat.le_refl _)
  clear h5 x5 s5
  have hpr := aC (cs := [aF r.name, .int .i64 r.kind, .int .i64 r.ttl, aF r.data]) p6.this
  have hx6 := x1.trans (x4.trans x6)
  have hdr := hd r (List.mem_of_find?_eq_some hf)
  clear p6
  (repeat' first | ((with_reducible refine aG ?_); go_step) | ((with_reducible refine aE ?_); first | refine aL ?_ | (refine aJ ?_ ?_ <;> intro hc)) | fail)
  refine aB (enters_of Tryz.func101 rfl rfl) rfl rfl (EI 5 r.data _ (by omega)) ?_; intro w7 x7; refine aA ?_
  (repeat' first | ((with_reducible refine aG ?_); go_step) | ((with_reducible refine aE ?_); first | refine aL ?_ | (refine aJ ?_ ?_ <;> intro hc)) | fail)
  refine aB (enters_of Tryz.func57 rfl rfl) rfl rfl (uY (bQ 5 r.data).1 _) ?_; intro w8 x8; refine aA ?_
  (repeat' first | ((with_reducible refine aG ?_); go_step) | ((with_reducible refine aE ?_); first | refine aL ?_ | (refine aJ ?_ ?_ <;> intro hc)) | fail)
  go_ret2
  exact ⟨by rw [hE]; rfl, hx6.trans (x7.trans x8)⟩
set_option maxHeartbeats 3000000 in
theorem yV (j : JudR) (an au : Value) (w : World) (ha : Sl 4 w an (aI j.an)) (hu : Sl 4 w au (aI j.au)) : Calls Tryz.prog 97 #[.agg (fB j an au).toArray] w (bU w (.tuple #[.int .i64 j.denial.1, aF j.denial.2])) := by
 go_enter Tryz.func97, Tryz.ntmps97
 repeat' (first | ((with_reducible refine aG ?_); go_step) | fail)
 refine cQ (vs := fB j an au) rfl rfl ?_
 intro w1 x1 s1 h1
 refine aA ?_
 have hp := aC (cs := fB j an au) h1
 have hj0 : Pts w1 (bA (.pointer (some ⟨w.heap.size, 0, none⟩)) 0) [aF j.qn, .int .i64 j.qt] := (hp.part 0).front 2
 have hj2 : Pts w1 (bA (.pointer (some ⟨w.heap.size, 0, none⟩)) 2) [aF j.zone] := (hp.part 2).front 1
 have hj3 : Pts w1 (bA (.pointer (some ⟨w.heap.size, 0, none⟩)) 3) [.int .i64 j.code] := (hp.part 3).front 1
 have hj4 : Pts w1 (bA (.pointer (some ⟨w.heap.size, 0, none⟩)) 4) [an] := (hp.part 4).front 1
 have hj5 : Pts w1 (bA (.pointer (some ⟨w.heap.size, 0, none⟩)) 5) [au] := hp.part 5
 have hF := qZ au j.au 151 #[.pointer (some ⟨w.heap.size, 0, none⟩)] j.denP w1 (hu.ext x1) (enters_of Tryz.func151 rfl rfl) (fun r _ w' c => CE j an au r _ w' (hp.ext c))
 cases hf : j.au.find? j.denP with
 | none =>
  rw [hf] at hF
  have hE : j.denial = (0, []) := by rw [JudR.denial, hf]
  (repeat' first | ((with_reducible refine aG ?_); go_step) | ((with_reducible refine aE ?_); first | refine aL ?_ | (refine aJ ?_ ?_ <;> intro hc)) | fail)
  refine aB (enters_of Tryz.func147 rfl rfl) rfl rfl (hF) ?_; intro w4 x4; refine aA ?_
  (repeat' first | ((with_reducible refine aG ?_); go_step) | ((with_reducible refine aE ?_); first | refine aL ?_ | (refine aJ ?_ ?_ <;> intro hc)) | fail)
  refine aH (z := dZ) rfl (by decide +kernel) ?_
  intro w5 x5 s5 h5
  refine aA ?_
  refine aD (v := .agg dZ.toArray) rfl rfl rfl h5 (show aN Tryz.prog 64 4 = true by decide +kernel) rfl (by decide +kernel) ?_
  intro w6 p6
  have x6 : Ext w4 w6 := x5.move p6.mv (by rintro k ⟨⟩; exact Nat.le_refl _)
  clear h5 x5 s5
  have hx6 := x1.trans (x4.trans x6)
  clear p6
  (repeat' first | ((with_reducible refine aG ?_); go_step) | ((with_reducible refine aE ?_); first | refine aL ?_ | (refine aJ ?_ ?_ <;> intro hc)) | fail)
  go_ret2
  exact ⟨by rw [hE]; rfl, hx6⟩
 | some r =>
  rw [hf] at hF
  have hE : j.denial = if j.code = 3 then (3, fold r.name) else (2, fold r.name) := by rw [JudR.denial, hf]
  (repeat' first | ((with_reducible refine aG ?_); go_step) | ((with_reducible refine aE ?_); first | refine aL ?_ | (refine aJ ?_ ?_ <;> intro hc)) | fail)
  refine aB (enters_of Tryz.func147 rfl rfl) rfl rfl (hF) ?_; intro w4 x4; refine aA ?_
  (repeat' first | ((with_reducible refine aG ?_); go_step) | ((with_reducible refine aE ?_); first | refine aL ?_ | (refine aJ ?_ ?_ <;> intro hc)) | fail)
  refine aH (z := dZ) rfl (by decide +kernel) ?_
  intro w5 x5 s5 h5
  refine aA ?_
  refine aD (v := .agg #[aF r.name, .int .i64 r.kind, .int .i64 r.ttl, aF r.data]) rfl rfl rfl h5 (show aN Tryz.prog 64 4 = true by decide +kernel) rfl (nN rfl rfl rfl rfl) ?_
  intro w6 p6
  have x6 : Ext w4 w6 := x5.move p6.mv (by rintro k ⟨⟩; exact Nat.le_refl _)
  clear h5 x5 s5
  have hpr := aC (cs := [aF r.name, .int .i64 r.kind, .int .i64 r.ttl, aF r.data]) p6.this
  have hx6 := x1.trans (x4.trans x6)
  have hj6 := hj3.ext (x4.trans x6)
  clear p6
  by_cases hk : j.code = 3
  ·rw [if_pos hk] at hE
   (repeat' first | ((with_reducible refine aG ?_); go_step) | ((with_reducible refine aE ?_); first | refine aL ?_ | (refine aJ ?_ ?_ <;> intro hc)) | fail)
   all_goals first
    | exact absurd hk ‹_›
    | skip
   refine aB (enters_of Tryz.func57 rfl rfl) rfl rfl (uY r.name _) ?_; intro w7 x7; refine aA ?_
   (repeat' first | ((with_reducible refine aG ?_); go_step) | ((with_reducible refine aE ?_); first | refine aL ?_ | (refine aJ ?_ ?_ <;> intro hc)) | fail)
   go_ret2
   exact ⟨by rw [hE]; rfl, hx6.trans x7⟩
  ·rw [if_neg hk] at hE
   (repeat' first | ((with_reducible refine aG ?_); go_step) | ((with_reducible refine aE ?_); first | refine aL ?_ | (refine aJ ?_ ?_ <;> intro hc)) | fail)
   all_goals first
    | exact absurd ‹j.code = 3› hk
    | skip
   refine aB (enters_of Tryz.func57 rfl rfl) rfl rfl (uY r.name _) ?_; intro w7 x7; refine aA ?_
   (repeat' first | ((with_reducible refine aG ?_); go_step) | ((with_reducible refine aE ?_); first | refine aL ?_ | (refine aJ ?_ ?_ <;> intro hc)) | fail)
   go_ret2
   exact ⟨by rw [hE]; rfl, hx6.trans x7⟩
end Go.Proofs.X
