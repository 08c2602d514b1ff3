/- Laws and walks that the proof of the statement is made of (part 8). -/
import Derived.Test.YtcabalnocddidaaGreatRows
import Derived.Test.YtcabalnocddidaaGreatP7
set_option linter.unusedSimpArgs false
set_option linter.unusedVariables false
namespace Go.Proofs.X
open Go.RowKit
set_option maxRecDepth 100000
section
variable {now : Int} (h5 : 0 ≤ now) (h6 : now ≤ 1000000)
include h5 h6
end
section
variable {n now : Int} (h5 : 0 ≤ now) (h6 : now ≤ 1000000)
include h5 h6
end
structure OpsAt (w : World) (v : Value) (ps : List OpR) : Prop where
 out : ∃ css, Sl 4 w v css ∧ css.length = ps.length ∧ ∀ (i : Nat) (p : OpR), ps[i]? = some p → ∃ u, css[i]? = some [.int .i64 p.op, .int .i64 p.n, .int .i64 p.now, u] ∧ Sl 4 w u (aE p.l)
theorem OpsAt.ext {w w' : World} {v : Value} {ps : List OpR} (h : OpsAt w v ps) (hx : Ext w w') : OpsAt w' v ps := by
 obtain ⟨css, h1, h2, h3⟩ := h
 exact ⟨css, h1.ext hx, h2, fun i z hi => let ⟨u, a, b⟩ := h3 i z hi; ⟨u, a, b.ext hx⟩⟩
section
variable {P : Program} {w : World} {ts : List Value} {df : List Deferred} {d : Option Nat} {ty : TypeId} {ps : String} {af : Array Edge} {g : Option (Nat × Bool)}
end
structure MsgsAt (w : World) (v : Value) (ms : List MsgR) : Prop where
 out : ∃ css, Sl 13 w v css ∧ css.length = ms.length ∧ ∀ (i : Nat) (m : MsgR), ms[i]? = some m → ∃ q a u e, css[i]? = some (cY m q a u e) ∧ MsgV w m q a u e
theorem MsgsAt.ext {w w' : World} {v : Value} {ms : List MsgR} (h : MsgsAt w v ms) (hx : Ext w w') : MsgsAt w' v ms := by
 obtain ⟨css, h1, h2, h3⟩ := h
 exact ⟨css, h1.ext hx, h2, fun i m hi => let ⟨q, a, u, e, b, c⟩ := h3 i m hi; ⟨q, a, u, e, b, c.ext hx⟩⟩
open Go.ChangeShapes Go.WideShapes Go.ChangeAt Go.RowKit
theorem eR {H : Type} {enc : TypeId × Value → H} {P : Program} {w : World} {base : Nat} {spare : Nat → Bool} {held : Bool} {t : TypeId} {fuel : Nat} {c : Value} {x : DataW H × List MemPlace} (ht : P.underlying t = some .bool) (h : DataW.trod enc P w base spare held fuel t [c] = some x) : ∃ b : Bool, c = .bool b := by
 obtain ⟨b, h1, _⟩ := DataW.trod_bool ht h
 exact ⟨b, by simpa using h1⟩
theorem sM {H : Type} {enc : TypeId × Value → H} {w : World} {base : Nat} {spare : Nat → Bool} {held : Bool} {fuel : Nat} {v : Value} {x : DataW H × List MemPlace} (h : DataW.trod enc Tryz.prog w base spare held fuel 22 [v] = some x) : ∃ qs : List BZ, Sl 2 w v (lG qs) := by
 obtain ⟨es, hs, he⟩ := iH Tryz.underlying22 (show Tryz.prog.cellsOf 31 = 2 by kernel_rfl) (by omega) h
 obtain ⟨l, rfl⟩ : ∃ l : List BZ, es = l.map fun q => [aF q.1, .int .i64 q.2] := by
  refine jZ fun c hc => ?_
  obtain ⟨n, y, hy⟩ := he c hc
  obtain ⟨xs, n', _, _, hl, hxl, hf⟩ := DataW.trod_struct Tryz.underlying31 hy
  have c3 : Tryz.prog.cellsOf 3 = 1 := by kernel_rfl
  have c22 : Tryz.prog.cellsOf 29 = 1 := by kernel_rfl
  have c65 : Tryz.prog.cellsOf 31 = 2 := by kernel_rfl
  rw [c65] at hl
  match c, hl, xs, hxl with
  | [a, b], _, [y0, y1], _ =>
   have g0 := hf 0 _ rfl
   have g1 := hf 1 _ rfl
   simp [c3, c22] at g0 g1
   obtain ⟨s0, rfl, _⟩ := jY Tryz.underlying29 g0
   obtain ⟨n1, rfl, _⟩ := dF Tryz.underlying3 g1
   exact ⟨(s0, n1), rfl⟩
 exact ⟨l, hs⟩
theorem xX {H : Type} {enc : TypeId × Value → H} {w : World} {base : Nat} {spare : Nat → Bool} {held : Bool} {fuel : Nat} {cl : List Value} {x : DataW H × List MemPlace} (h : DataW.trod enc Tryz.prog w base spare held fuel 25 cl = some x) :
 ∃ (m : MsgR) (q a u e : Value), cl = cY m q a u e ∧ MsgV w m q a u e := by
 obtain ⟨xs, n', _, _, hl, hxl, hf⟩ := DataW.trod_struct Tryz.underlying25 h
 have c3 : Tryz.prog.cellsOf 3 = 1 := by kernel_rfl
 have c4 : Tryz.prog.cellsOf 4 = 1 := by kernel_rfl
 have c5 : Tryz.prog.cellsOf 22 = 1 := by kernel_rfl
 have c6 : Tryz.prog.cellsOf 23 = 1 := by kernel_rfl
 have c7 : Tryz.prog.cellsOf 25 = 13 := by kernel_rfl
 rw [c7] at hl
 match cl, hl, xs, hxl with
 | [a0, a1, a2, a3, a4, a5, a6, a7, a8, a9, a10, a11, a12], _, [y0, y1, y2, y3, y4, y5, y6, y7, y8, y9, y10, y11, y12], _ =>
  have g0 := hf 0 _ rfl
  have g1 := hf 1 _ rfl
  have g2 := hf 2 _ rfl
  have g3 := hf 3 _ rfl
  have g4 := hf 4 _ rfl
  have g5 := hf 5 _ rfl
  have g6 := hf 6 _ rfl
  have g7 := hf 7 _ rfl
  have g8 := hf 8 _ rfl
  have g9 := hf 9 _ rfl
  have g10 := hf 10 _ rfl
  have g11 := hf 11 _ rfl
  have g12 := hf 12 _ rfl
  simp [c3, c4, c5, c6] at g0 g1 g2 g3 g4 g5 g6 g7 g8 g9 g10 g11 g12
  obtain ⟨n0, rfl, _⟩ := dF Tryz.underlying3 g0
  obtain ⟨n1, rfl⟩ := eR Tryz.underlying4 g1
  obtain ⟨n2, rfl, _⟩ := dF Tryz.underlying3 g2
  obtain ⟨n3, rfl⟩ := eR Tryz.underlying4 g3
  obtain ⟨n4, rfl⟩ := eR Tryz.underlying4 g4
  obtain ⟨n5, rfl⟩ := eR Tryz.underlying4 g5
  obtain ⟨n6, rfl⟩ := eR Tryz.underlying4 g6
  obtain ⟨n7, rfl, _⟩ := dF Tryz.underlying3 g7
  obtain ⟨qs, h8⟩ := sM g8
  obtain ⟨l9, h9⟩ := lH g9
  obtain ⟨l10, h10⟩ := lH g10
  obtain ⟨l11, h11⟩ := lH g11
  obtain ⟨n12, rfl, _⟩ := dF Tryz.underlying3 g12
  exact ⟨⟨n0, n1, n2, n3, n4, n5, n6, n7, qs, l9, l10, l11, n12⟩, a8, a9, a10, a11, rfl, ⟨h8, h9, h10, h11⟩⟩
def jP (P : Program) (s n off : Nat) : Bool := match P.underlying s with | some (.struct fs) => (match fs[n]? with | some f => f.offset == off && dR P f.type | none => false) | _ => false
theorem mN {P : Program} {s n off : Nat} (h : jP P s n off = true) : ∃ fs f, P.underlying s = some (.struct fs) ∧ fs[n]? = some f ∧ f.offset = off ∧ dR P f.type = true := by
 unfold jP at h
 split at h
 ·rename_i fs hfs
  split at h
  ·rename_i f hf
   simp only [Bool.and_eq_true, beq_iff_eq] at h
   exact ⟨fs, f, hfs, hf, h.1, h.2⟩
  ·cases h
 ·cases h
section
variable {P : Program} {a : Act} {w : World} {d : Option Nat} {ty : TypeId} {ps : String} {af : Array Edge} {g : Option (Nat × Bool)}
theorem Runs.fieldV {s : TypeId} {x : Operand} {n off : Nat} {cs : Array Value} {v : Value} (hx : a.eval x = .agg cs) (hc : cs[off]? = some v) (hf : jP P s n off = true) : Runs P (Oper.mk d (.field s x n) ty ps af g) a w v := by
 obtain ⟨fs, f, ht, hf, ho, hp⟩ := mN hf
 obtain ⟨u, hu, hn⟩ := eM hp
 constructor
 simp [execOp, hx, Instr.field, run_underlying ht, hf, ho, asAgg, part, Sem.run_bind, jR hu hn, hc]
end
section
variable {P : Program} {w : World} {ts : List Value} {df : List Deferred} {d : Option Nat} {ty : TypeId} {ps : String} {af : Array Edge} {g : Option (Nat × Bool)}
end
end Go.Proofs.X
set_option linter.unusedSimpArgs false
set_option linter.unusedVariables false
namespace Go.Proofs.X
open Go.RowKit
end Go.Proofs.X
set_option linter.unusedSimpArgs false
set_option linter.unusedVariables false
namespace Go.Proofs.X
open Go.RowKit
end Go.Proofs.X
set_option linter.unusedSimpArgs false
set_option linter.unusedVariables false
namespace Go.Proofs.X
open Go.RowKit
end Go.Proofs.X
set_option linter.unusedSimpArgs false
set_option linter.unusedVariables false
namespace Go.Proofs.X
open Go.RowKit
set_option maxRecDepth 100000
end Go.Proofs.X
set_option linter.unusedSimpArgs false
set_option linter.unusedVariables false
namespace Go.Proofs.X
open Go.RowKit
end Go.Proofs.X
set_option linter.unusedSimpArgs false
set_option linter.unusedVariables false
namespace Go.Proofs.X
open Go.RowKit
set_option maxRecDepth 100000
end Go.Proofs.X
set_option linter.unusedSimpArgs false
set_option linter.unusedVariables false
namespace Go.Proofs.X
open Go.RowKit
end Go.Proofs.X
set_option linter.unusedSimpArgs false
set_option linter.unusedVariables false
namespace Go.Proofs.X
open Go.RowKit
set_option maxRecDepth 100000
section
variable {P : Program} {a : Act} {w : World} {d : Option Nat} {ty : TypeId} {ps : String} {af : Array Edge} {g : Option (Nat × Bool)}
end
section
variable {P : Program} {ts : List Value} {df : List Deferred} {w : World} {d : Option Nat} {ty : TypeId} {ps : String} {af : Array Edge} {g : Option (Nat × Bool)}
end
theorem vX {l : List BZ} {k : Nat} (h : k < l.length) : (lG l)[k]? = some [aF l[k].1, .int .i64 l[k].2] := by
 simp [lG, List.getElem?_eq_getElem h]
def mO (m : MsgR) : Bool := decide (m.qs.length ≤ 12) && m.qs.all (fun q => decide (q.1.length ≤ 300)) && (dM m.an && dM m.au && dM m.ex)
set_option maxHeartbeats 4000000 in
theorem BK (m : MsgR) (q a u e : Value) (w : World) (hm : MsgV w m q a u e) : Calls Tryz.prog 14 #[.agg (cY m q a u e).toArray] w (bS w (.bool (mO m))) := by
 have hql := oW m.qs
 have hqle := hm.qs.le
 go_enter Tryz.func14, Tryz.ntmps14
 refine_lift AY fun _ _ => ?_
 refine dB (vs := cY m q a u e) rfl rfl ?_
 intro p w1 x1 hp
 refine aA ?_
 unfold cY at hp
 have hq1 := hm.qs.ext x1
 refine_lift DS (fun _ _ _ => ?_) (fun _ => ?_)
 ·go_ret
  refine ⟨?_, x1⟩
  have : decide (m.qs.length ≤ 12) = false := decide_eq_false (by omega)
  rw [mO, this]
  rfl
 ·have hB : decide (m.qs.length ≤ 12) = true := decide_eq_true (by omega)
  have hC : mO m = (m.qs.all (fun q => decide (q.1.length ≤ 300)) && (dM m.an && dM m.au && dM m.ex)) := by
   rw [mO, hB, Bool.true_and]
  go_loopw [3] (fun i wr => ∃ k : Nat, k ≤ m.qs.length ∧ i = .int .i64 k ∧ Ext w1 wr ∧ (m.qs.take k).all (fun q => decide (q.1.length ≤ 300)) = true) (fun i _ => m.qs.length - (intOf i).toNat)
  case atStart => exact ⟨0, Nat.zero_le _, rfl, Ext.refl _, rfl⟩
  case round =>
   obtain ⟨k, hk, rfl, hx, hall⟩ := hrel
   have hq2 := hq1.ext hx
   have hp2 := hp.ext hx
   by_cases hlt : k < m.qs.length
   ·have h1 := hq2.elem (vX hlt)
    refine_lift DT (fun _ _ => ?_) (fun _ _ _ _ => ?_)
    ·go_ret
     refine ⟨?_, x1.trans hx⟩
     rw [hC, nY hlt (decide_eq_false (by omega))]
     rfl
    ·exact ⟨⟨k + 1, by omega, rfl, hx, iB hlt hall (decide_eq_true (by omega))⟩, by simp [intOf]; omega⟩
   ·have hk2 : k = m.qs.length := by omega
    subst hk2
    rw [List.take_length] at hall
    rw [hall, Bool.true_and] at hC
    refine_lift FF fun _ _ _ => ?_
    refine aB (enters_of Tryz.func42 rfl rfl) rfl rfl (t7 a m.an _ ((hm.an.ext x1).ext hx)) ?_; intro w4 x4; refine aA ?_
    have hx4 := hx.trans x4
    have hp4 := hp.ext hx4
    cases h4 : dM m.an with
    | false =>
     refine_lift CI ?_
     go_ret
     refine ⟨?_, x1.trans hx4⟩
     rw [hC, h4]
     rfl
    | true =>
     refine_lift CI ?_
     refine aB (enters_of Tryz.func42 rfl rfl) rfl rfl (t7 u m.au _ ((hm.au.ext x1).ext hx4)) ?_; intro w5 x5; refine aA ?_
     have hx5 := hx4.trans x5
     have hp5 := hp.ext hx5
     cases h5 : dM m.au with
     | false =>
      refine_lift CI ?_
      go_ret
      refine ⟨?_, x1.trans hx5⟩
      rw [hC, h4, h5]
      rfl
     | true =>
      refine_lift CI ?_
      refine aB (enters_of Tryz.func42 rfl rfl) rfl rfl (t7 e m.ex _ ((hm.ex.ext x1).ext hx5)) ?_; intro w6 x6; refine aA ?_
      have hx6 := hx5.trans x6
      refine_lift CI ?_
      go_ret
      refine ⟨?_, x1.trans hx6⟩
      rw [hC, h4, h5]
      cases dM m.ex <;> rfl
section
variable {P : Program} {ts : List Value} {df : List Deferred} {w : World} {d : Option Nat} {ty : TypeId} {ps : String} {af : Array Edge} {g : Option (Nat × Bool)}
end
theorem qC (n : List UInt8) : fold (fold n) = fold n := by
 cases h : aU n with
 | none =>
  have : fold n = n := by unfold fold; rw [h]
  rw [this, this]
 | some ls => exact (jL h).2.2
section
variable {P : Program} {a : Act} {w : World} {d : Option Nat} {ty : TypeId} {ps : String} {af : Array Edge} {g : Option (Nat × Bool)}
end
theorem xY (nm : List UInt8) (w : World) : Calls Tryz.prog 114 #[aF nm] w (uT w fun v w' => Own w.heap.size 1 9 w' v (aI ((aU nm).getD []))) := by
 go_enter Tryz.func114, Tryz.ntmps114
 (repeat' first | ((with_reducible refine aJ ?_); go_step) | ((with_reducible refine aG ?_); first | refine gE ?_ | (refine aK ?_ ?_ <;> intro hc)) | fail)
 refine aO (enters_of Tryz.func104 rfl rfl) rfl rfl (DF nm _) ?_
 intro v w1 x1 hv
 cases hl : aU nm with
 | none =>
  rw [hl] at hv
  subst hv
  (repeat' first | ((with_reducible refine aJ ?_); go_step) | ((with_reducible refine aG ?_); first | refine gE ?_ | (refine aK ?_ ?_ <;> intro hc)) | fail)
  go_ret
  exact ⟨_, rfl, x1, by rw [hl]; exact Own.nil _ _ _ _⟩
 | some ls =>
  rw [hl] at hv
  obtain ⟨s, rfl, hs⟩ := hv
  (repeat' first | ((with_reducible refine aJ ?_); go_step) | ((with_reducible refine aG ?_); first | refine gE ?_ | (refine aK ?_ ?_ <;> intro hc)) | fail)
  go_ret
  exact ⟨_, rfl, x1, by rw [hl]; exact hs⟩
def aN (l : List Rec) (z : List UInt8) : List Rec := l.filter fun r => decide (bF r = 0) && bO r.name z
structure JudR where
 qn : List UInt8
 qt : Int
 zone : List UInt8
 code : Int
 an : List Rec
 au : List Rec
def kR (a b : List UInt8) : Bool := decide (fold a = fold b)
def JudR.ansP (j : JudR) (r : Rec) : Bool := kR r.name j.qn && (decide (r.kind = j.qt) || decide (j.qt = 255))
def JudR.aliP (j : JudR) (r : Rec) : Bool := kR r.name j.qn && decide (r.kind = 5)
def JudR.denP (j : JudR) (r : Rec) : Bool := decide (r.kind = 6) && bO j.qn r.name
def JudR.answer (j : JudR) : Int × List UInt8 := if j.an.any j.ansP = true then (1, fold j.qn) else (0, [])
def JudR.alias (j : JudR) : Int × List UInt8 := match j.an.find? j.aliP with
 | none => (0, [])
 | some r => (5, fold (bN 5 r.data).1)
def JudR.denial (j : JudR) : Int × List UInt8 := match j.au.find? j.denP with
 | none => (0, [])
 | some r => if j.code = 3 then (3, fold r.name) else (2, fold r.name)
def xZ (n : List UInt8) : Int := (((aU n).getD []).length : Nat)
def JudR.step (j : JudR) (s : List UInt8 × Int) (r : Rec) : List UInt8 × Int :=
 if r.kind = 2 ∧ bO j.qn (fold r.name) = true ∧ kR (fold r.name) j.zone = false ∧ s.2 < xZ (fold r.name) then (fold r.name, xZ (fold r.name)) else s
def JudR.best (j : JudR) : List UInt8 × Int := j.au.foldl j.step ([], -1)
def JudR.referral (j : JudR) : Int × List UInt8 := if j.best.2 < 0 ∨ j.code ≠ 0 then (6, []) else (4, j.best.1)
def cF (qn : List UInt8) (qt : Int) (m : MsgR) (zone : List UInt8) : Int × List UInt8 :=
 if bO qn zone = false ∨ m.trunc = true ∨ (m.rcode ≠ 0 ∧ m.rcode ≠ 3) then (0, []) else
 let j : JudR := ⟨qn, qt, zone, m.rcode, aN m.an zone, aN m.au zone⟩
 if j.answer.1 ≠ 0 then j.answer else if j.alias.1 ≠ 0 then j.alias else if j.denial.1 ≠ 0 then j.denial else j.referral
structure ActR where
 kind : Int
 to : Int
 qn : List UInt8
 qt : Int
 code : Int
 ans : List Rec
 auth : List Rec
 deriving DecidableEq
structure TaskR where
 qn : List UInt8
 qt : Int
 roots : List Int
 zone : List UInt8
 servers : List Int
 got : List Rec
 chain : Int
 left : Int
 stop : Option ActR
structure LrnR where
 set : RSet
 rank : Int
def TaskR.done (t : TaskR) (code : Int) (ans auth : List Rec) : TaskR × ActR := ({ t with stop := some ⟨2, 0, [], 0, code, ans, auth⟩ }, ⟨2, 0, [], 0, code, ans, auth⟩)
def TaskR.on (t : TaskR) : TaskR × ActR := match t.servers with
 | [] => t.done 2 [] []
 | s :: rest => if t.left = 0 then t.done 2 [] [] else ({ t with servers := rest, left := t.left - 1 }, ⟨1, s, t.qn, t.qt, 0, [], []⟩)
def TaskR.timeout (t : TaskR) : TaskR × ActR := match t.stop with
 | some a => (t, a)
 | none => t.on
def dU (r : Rec) : Rec := { r with name := fold r.name }
def TaskR.of (t : TaskR) (l : List Rec) (n : List UInt8) (k : Int) : List Rec :=
 ((aN l t.zone).map dU).filter fun r => decide (r.name = fold n) && (decide (r.kind = k) || decide (k = 255))
def cD (l : List Rec) (rank : Int) : List LrnR := if jM l = 0 then (bJ l).map fun s => ⟨s, rank⟩ else []
def gW (d : List UInt8) : Option Int := if d.take 3 = [10, 0, 0] then match d.drop 3 with | [x] => if 99 < x.toNat then none else some (x.toNat : Nat) | _ => none else none
def dV (s : List Int) (l : List Rec) : List Int := l.foldl (fun s a => match gW a.data with | none => s | some n => if n ∈ s then s else s ++ [n]) s
structure RfrR where
 seen : List (List UInt8)
 servers : List Int
 learnt : List LrnR
def TaskR.refStep (t : TaskR) (ex : List Rec) (s : RfrR) (r : Rec) : RfrR :=
 let h := fold (bN 2 r.data).1
 if h ∈ s.seen then s else
 let a := t.of ex h 1
 ⟨s.seen ++ [h], dV s.servers a, s.learnt ++ cD a 1⟩
def TaskR.refer (t : TaskR) (m : MsgR) (z : List UInt8) : TaskR × List LrnR :=
 let ns := t.of m.au z 2
 let s := ns.foldl (t.refStep m.ex) ⟨[], [], cD ns 2⟩
 ({ t with servers := s.servers, zone := z }, s.learnt)
def TaskR.follow (t : TaskR) (n : List UInt8) : TaskR × ActR :=
 if t.chain = 8 then t.done 2 [] [] else { t with chain := t.chain + 1, qn := n, zone := [], servers := t.roots }.on
def sN (m : MsgR) : Int := if m.auth = true then 4 else 3
def TaskR.reply (t : TaskR) (m : MsgR) : TaskR × ActR × List LrnR := match t.stop with
 | some a => (t, a, [])
 | none =>
  let j := cF t.qn t.qt m t.zone
  if j.1 = 1 then
   let l := t.of m.an t.qn t.qt
   let d := { t with got := t.got ++ l }.done 0 (t.got ++ l) []
   (d.1, d.2, cD l (sN m))
  else if j.1 = 5 then
   let l := (t.of m.an t.qn 5).take 1
   let d := { t with got := t.got ++ l }.follow j.2
   (d.1, d.2, cD l (sN m))
  else if j.1 = 3 then
   let d := t.done 3 t.got ((t.of m.au j.2 6).take 1)
   (d.1, d.2, [])
  else if j.1 = 2 then
   let d := t.done 0 t.got ((t.of m.au j.2 6).take 1)
   (d.1, d.2, [])
  else if j.1 = 4 then
   let d := (t.refer m j.2).1.on
   (d.1, d.2, (t.refer m j.2).2)
  else (t.on.1, t.on.2, [])
def dJ (qn : List UInt8) (qt : Int) (roots : List Int) (budget : Int) : Int :=
 if fO qn = 0 ∧ (1 ≤ qt ∧ qt ≤ 65535) ∧ (1 ≤ roots.length ∧ roots.length ≤ 20) ∧ (1 ≤ budget ∧ budget ≤ 100) ∧ roots.any (fun n => !(decide (0 ≤ n) && decide (n ≤ 99))) = false then 0 else 1
def dL (qn : List UInt8) (qt : Int) (roots : List Int) (budget : Int) : TaskR := ⟨fold qn, qt, roots, [], roots, [], 0, budget, none⟩
structure TaskOk (t : TaskR) : Prop where
 left : 0 ≤ t.left
 zone : t.zone = [] ∨ bO t.zone t.zone = true
 stop : ∀ a, t.stop = some a → a.kind = 2
def BL (t t' : TaskR) (a : ActR) : Prop := (a.kind = 1 ∧ t.stop = none ∧ t'.stop = none ∧ t'.left = t.left - 1 ∧ 1 ≤ t.left) ∨ (a.kind = 2 ∧ t'.stop = some a ∧ t'.left = t.left)
theorem TaskOk.step {t t' : TaskR} {a : ActR} (ht : TaskOk t) (h : BL t t' a) (hz : t'.zone = [] ∨ bO t'.zone t.zone = true) : TaskOk t' := by
 refine ⟨?_, ?_, ?_⟩
 ·have := ht.left
  rcases h with ⟨_, _, _, h, k⟩ | ⟨_, _, h⟩ <;> omega
 ·rcases hz with hz | hz
  ·exact .inl hz
  ·exact .inr (oG (kL hz).1)
 ·intro b hb
  rcases h with ⟨_, _, h, _⟩ | ⟨h1, h2, _⟩
  ·rw [h] at hb; cases hb
  ·rw [h2] at hb; cases hb; exact h1
def vY (qn : List UInt8) (qt : Int) (roots : List Int) (budget : Int) (i : Nat) : TaskR := ⟨fold qn, qt, roots, [], roots.drop i, [], 0, budget - i, none⟩
theorem zS {qn : List UInt8} {qt : Int} {roots : List Int} {budget : Int} {i : Nat} (h1 : i < roots.length) (h2 : (i : Int) < budget) : (vY qn qt roots budget i).on = (vY qn qt roots budget (i + 1), ⟨1, roots[i], fold qn, qt, 0, [], []⟩) := by
 unfold TaskR.on vY
 have : roots.drop i = roots[i] :: roots.drop (i + 1) := List.drop_eq_getElem_cons h1
 simp only [this]
 rw [if_neg (by show ¬ budget - (i : Int) = 0; omega)]
 simp only [Prod.mk.injEq, TaskR.mk.injEq, and_true, true_and]
 omega
def dX : List Value := [aF [], .int .i64 0, .int .i64 0, aF []]
theorem lI {ts : List Value} {df : List Deferred} {x : Operand} {r : Rec} (h : (Act.mk ts.toArray df).eval x = .agg #[aF r.name, .int .i64 r.kind, .int .i64 r.ttl, aF r.data]) : ElemIs (Act.mk ts.toArray df) x 4 [aF r.name, .int .i64 r.kind, .int .i64 r.ttl, aF r.data] :=
 ElemIs.mk h rfl rfl (by simp [aF, Value.oneCell'])
theorem qS (a b : List UInt8) (w : World) : Calls Tryz.prog 149 #[aF a, aF b] w (bS w (.bool (kR a b))) := by
 go_enter Tryz.func149, Tryz.ntmps149
 (repeat' first | ((with_reducible refine aJ ?_); go_step) | ((with_reducible refine aG ?_); first | refine aL ?_ | (refine aK ?_ ?_ <;> intro hc)) | fail)
 refine aB (enters_of Tryz.func57 rfl rfl) rfl rfl (uI a _) ?_; intro w1 x1; refine aA ?_
 (repeat' first | ((with_reducible refine aJ ?_); go_step) | ((with_reducible refine aG ?_); first | refine aL ?_ | (refine aK ?_ ?_ <;> intro hc)) | fail)
 refine aB (enters_of Tryz.func57 rfl rfl) rfl rfl (uI b _) ?_; intro w2 x2; refine aA ?_
 (repeat' first | ((with_reducible refine aJ ?_); go_step) | ((with_reducible refine aG ?_); first | refine aL ?_ | (refine aK ?_ ?_ <;> intro hc)) | fail)
 go_ret
 exact ⟨rfl, x1.trans x2⟩
theorem AP (n a b : Int) (w : World) : Calls Tryz.prog 54 #[.int .i64 n, .int .i64 a, .int .i64 b] w (bS w (.bool (decide (a ≤ n) && decide (n ≤ b)))) := by
 go_enter Tryz.func54, Tryz.ntmps54
 (repeat' first | ((with_reducible refine aJ ?_); go_step) | ((with_reducible refine aG ?_); first | refine aL ?_ | (refine aK ?_ ?_ <;> intro hc)) | fail)
 ·have hc := ‹a ≤ n›
  go_ret
  exact ⟨by rw [decide_eq_true hc]; rfl, Ext.refl _⟩
 ·have hc := ‹¬ a ≤ n›
  go_ret
  exact ⟨by rw [decide_eq_false hc]; rfl, Ext.refl _⟩
theorem sO {l : List Rec} {z : List UInt8} {k : Nat} (h : k < l.length) : aN (l.take (k + 1)) z = aN (l.take k) z ++ if (decide (bF l[k] = 0) && bO l[k].name z) = true then [l[k]] else [] := by
 unfold aN
 rw [List.take_succ_eq_append_getElem h, List.filter_append]
 congr 1
 simp [List.filter_cons]
theorem eC (l : List Rec) (z : List UInt8) : (aN l z).length ≤ l.length := List.length_filter_le _ _
set_option maxHeartbeats 3000000 in
theorem gD (v : Value) (l : List Rec) (z : List UInt8) (w : World) (hv : Sl 4 w v (aE l)) (hl : l.length ≤ 100000) : Calls Tryz.prog 26 #[v, aF z] w (uT w fun r w' => Own w.heap.size 4 64 w' r (aE (aN l z))) := by
 have hlen := aM l
 go_enter Tryz.func26, Tryz.ntmps26
 (repeat' first | ((with_reducible refine aJ ?_); go_step) | ((with_reducible refine aG ?_); first | refine aL ?_ | (refine aK ?_ ?_ <;> intro hc)) | fail)
 go_loopw [5, 10] (fun o i wr => ∃ k : Nat, k ≤ l.length ∧ i = .int .i64 k ∧ Ext w wr ∧ Own w.heap.size 4 64 wr o (aE (aN (l.take k) z))) (fun _ i _ => l.length - (intOf i).toNat)
 case atStart => exact ⟨0, Nat.zero_le _, rfl, Ext.refl _, by simpa [aN, aE] using Own.nil _ _ _ _⟩
 case round =>
  obtain ⟨k, hk, rfl, hx, ho⟩ := hrel
  have hu2 := hv.ext hx
  by_cases hlt : k < l.length
  ·have hpe := hu2.elem (cX hlt)
   have hst := sO (z := z) hlt
   have hll := eC (l.take k) z
   rw [List.length_take] at hll
   have hcl := aM (aN (l.take k) z)
   (repeat' first | ((with_reducible refine aJ ?_); go_step) | ((with_reducible refine aG ?_); first | refine aL ?_ | (refine aK ?_ ?_ <;> intro hc)) | fail)
   refine aH (z := dX) rfl (by decide +kernel) ?_
   intro w2 x2 s2 h2
   refine aA ?_
   refine aD (v := .agg #[aF l[k].name, .int .i64 l[k].kind, .int .i64 l[k].ttl, aF l[k].data]) rfl rfl rfl h2 (show aP Tryz.prog 64 4 = true by decide +kernel) rfl (nG rfl rfl rfl rfl) ?_
   intro w3 p3
   have x3 : Ext wr w3 := x2.move p3.mv (by rintro k ⟨⟩; exact Nat.le_refl _)
   have hp3 := aC (cs := [aF l[k].name, .int .i64 l[k].kind, .int .i64 l[k].ttl, aF l[k].data]) p3.this
   have hx3 := hx.trans x3
   have ho3 := ho.ext x3
   clear p3 h2 x2
   (repeat' first | ((with_reducible refine aJ ?_); go_step) | ((with_reducible refine aG ?_); first | refine aL ?_ | (refine aK ?_ ?_ <;> intro hc)) | fail)
   refine aB (enters_of Tryz.func61 rfl rfl) rfl rfl (ET l[k] _) ?_; intro w4 x4; refine aA ?_
   have hx4 := hx3.trans x4
   have ho4 := ho3.ext x4
   have hp4 := hp3.ext x4
   by_cases hm : bF l[k] = 0
   ·rw [decide_eq_true hm, Bool.true_and] at hst
    rw [hm]
    (repeat' first | ((with_reducible refine aJ ?_); go_step) | ((with_reducible refine aG ?_); first | refine aL ?_ | (refine aK ?_ ?_ <;> intro hc)) | fail)
    refine aB (enters_of Tryz.func62 rfl rfl) rfl rfl (mV l[k].name z _) ?_; intro w5 x5; refine aA ?_
    have hx5 := hx4.trans x5
    have ho5 := ho4.ext x5
    have hp5 := hp4.ext x5
    clear hp4 hp3 hpe hu2
    cases hu : bO l[k].name z with
    | false =>
     rw [hu, if_neg (by decide), List.append_nil] at hst
     (repeat' first | ((with_reducible refine aJ ?_); go_step) | ((with_reducible refine aG ?_); first | refine aL ?_ | (refine aK ?_ ?_ <;> intro hc)) | fail)
     exact ⟨⟨k + 1, by omega, by go_num, hx5, by rw [hst]; exact ho5⟩, by simp [intOf]; omega⟩
    | true =>
     rw [hu, if_pos rfl] at hst
     (repeat' first | ((with_reducible refine aJ ?_); go_step) | ((with_reducible refine aG ?_); first | refine aL ?_ | (refine aK ?_ ?_ <;> intro hc)) | fail)
     refine CC [aF l[k].name, .int .i64 l[k].kind, .int .i64 l[k].ttl, aF l[k].data] hx5 ho5 (by omega) ?_ (lI rfl)
     intro s5 v5 w5 w6 x5 m6 x6 o6
     refine aA ?_
     (repeat' first | ((with_reducible refine aJ ?_); go_step) | ((with_reducible refine aG ?_); first | refine aL ?_ | (refine aK ?_ ?_ <;> intro hc)) | fail)
     refine ⟨⟨k + 1, by omega, by go_num, x6, ?_⟩, by simp [intOf]; omega⟩
     rw [hst]
     simpa [aE, Rec.cells] using o6
   ·rw [decide_eq_false hm, Bool.false_and, if_neg (by decide), List.append_nil] at hst
    (repeat' first | ((with_reducible refine aJ ?_); go_step) | ((with_reducible refine aG ?_); first | refine aL ?_ | (refine aK ?_ ?_ <;> intro hc)) | fail)
    all_goals first
     | exact absurd ‹bF l[k] = 0› hm
     | skip
    exact ⟨⟨k + 1, by omega, by go_num, hx4, by rw [hst]; exact ho4⟩, by simp [intOf]; omega⟩
  ·have : k = l.length := by omega
   subst this
   rw [List.take_length] at ho
   (repeat' first | ((with_reducible refine aJ ?_); go_step) | ((with_reducible refine aG ?_); first | refine aL ?_ | (refine aK ?_ ?_ <;> intro hc)) | fail)
   go_ret
   exact ⟨_, rfl, hx, ho⟩
def RecFnC (w : World) (f : FuncId) (caps : Array Value) (l : List Rec) (p : Rec → Bool) : Prop := ∀ r ∈ l, ∀ w', Ext w w' → Calls Tryz.prog f ([Value.agg #[aF r.name, .int .i64 r.kind, .int .i64 r.ttl, aF r.data]].toArray ++ caps) w' (bS w' (.bool (p r)))
theorem RecFnC.ext {w w1 : World} {f : FuncId} {caps : Array Value} {l : List Rec} {p : Rec → Bool} (h : RecFnC w f caps l p) (hx : Ext w w1) : RecFnC w1 f caps l p :=
 fun r hr w' hx' => h r hr w' (hx.trans hx')
set_option maxHeartbeats 3000000 in
theorem qT (v : Value) (l : List Rec) (f : FuncId) (caps : Array Value) (p : Rec → Bool) (w : World) (hv : Sl 4 w v (aE l)) (he : Enters Tryz.prog f) (hf : RecFnC w f caps l p) : Calls Tryz.prog 197 #[v, .func (.func f) #[] caps] w (bS w (.int .i64 (oT p l))) := by
 have hle := hv.le
 have hlen := aM l
 go_enter Tryz.func197, Tryz.ntmps197
 (repeat' first | ((with_reducible refine aJ ?_); go_step) | ((with_reducible refine aG ?_); first | refine aL ?_ | (refine aK ?_ ?_ <;> intro hc)) | fail)
 go_loopw [5, 8] (fun _ i wr => ∃ k : Nat, k ≤ l.length ∧ i = .int .i64 k ∧ Ext w wr ∧ (l.take k).any p = false) (fun _ i _ => l.length - (intOf i).toNat)
 case atStart => exact ⟨0, Nat.zero_le _, rfl, Ext.refl _, rfl⟩
 case round =>
  obtain ⟨k, hk, rfl, hx, hall⟩ := hrel
  have hv2 := hv.ext hx
  by_cases hlt : k < l.length
  ·have hpe := hv2.elem (cX hlt)
   (repeat' first | ((with_reducible refine aJ ?_); go_step) | ((with_reducible refine aG ?_); first | refine aL ?_ | (refine aK ?_ ?_ <;> intro hc)) | fail)
   refine cS he rfl rfl rfl (hf _ (List.getElem_mem hlt) _ hx) ?_
   rintro e w2 ⟨rfl, x2⟩
   refine ⟨_, rfl, ?_⟩
   refine aA ?_
   cases hp : p l[k] with
   | true =>
    (repeat' first | ((with_reducible refine aJ ?_); go_step) | ((with_reducible refine aG ?_); first | refine aL ?_ | (refine aK ?_ ?_ <;> intro hc)) | fail)
    go_ret
    exact ⟨by rw [xO hlt hall hp]; rfl, hx.trans x2⟩
   | false =>
    (repeat' first | ((with_reducible refine aJ ?_); go_step) | ((with_reducible refine aG ?_); first | refine aL ?_ | (refine aK ?_ ?_ <;> intro hc)) | fail)
    exact ⟨⟨k + 1, by omega, by go_num, hx.trans x2, rV hlt hall hp⟩, by simp [intOf]; omega⟩
  ·have : k = l.length := by omega
   subst this
   rw [List.take_length] at hall
   (repeat' first | ((with_reducible refine aJ ?_); go_step) | ((with_reducible refine aG ?_); first | refine aL ?_ | (refine aK ?_ ?_ <;> intro hc)) | fail)
   go_ret
   exact ⟨by rw [xP hall]; rfl, hx⟩
def EB (r : Rec) : Value := .agg #[aF r.name, .int .i64 r.kind, .int .i64 r.ttl, aF r.data]
def BM (o : Option Rec) : Value := .tuple #[EB (o.getD ⟨[], 0, 0, []⟩), .bool o.isSome]
set_option maxHeartbeats 3000000 in
theorem qU (v : Value) (l : List Rec) (f : FuncId) (caps : Array Value) (p : Rec → Bool) (w : World) (hv : Sl 4 w v (aE l)) (he : Enters Tryz.prog f) (hf : RecFnC w f caps l p) : Calls Tryz.prog 147 #[v, .func (.func f) #[] caps] w (bS w (BM (l.find? p))) := by
 have hle := hv.le
 have hlen := aM l
 go_enter Tryz.func147, Tryz.ntmps147
 repeat' (first | ((with_reducible refine aJ ?_); go_step) | fail)
 refine aH (z := dX) rfl (by decide +kernel) ?_
 intro w1 x1 s1 h1
 refine aA ?_
 (repeat' first | ((with_reducible refine aJ ?_); go_step) | ((with_reducible refine aG ?_); first | refine aL ?_ | (refine aK ?_ ?_ <;> intro hc)) | fail)
 refine aB (enters_of Tryz.func197 rfl rfl) rfl rfl (qT v l f caps p _ (hv.ext x1) he (hf.ext x1)) ?_; intro w2 x2; refine aA ?_
 have hx2 := x1.trans x2
 have h2 := x2.at h1
 have hv2 := hv.ext hx2
 rcases pU p l with ⟨k, hk, e1, _, e3⟩ | ⟨e1, e2⟩
 ·rw [e1]
  have hpe := hv2.elem (cX hk)
  have hkr : k < (aE l).length := by omega
  (repeat' first | ((with_reducible refine aJ ?_); go_step) | ((with_reducible refine aG ?_); first | refine aL ?_ | (refine aK ?_ ?_ <;> intro hc)) | fail)
  refine aD (v := .agg #[aF l[k].name, .int .i64 l[k].kind, .int .i64 l[k].ttl, aF l[k].data]) rfl rfl rfl h2 (show aP Tryz.prog 64 4 = true by decide +kernel) rfl (nG rfl rfl rfl rfl) ?_
  intro w3 p3
  have x3 : Ext w w3 := hx2.move p3.mv (by rintro k ⟨⟩; exact Nat.le_refl _)
  (repeat' first | ((with_reducible refine aJ ?_); go_step) | ((with_reducible refine aG ?_); first | refine aL ?_ | (refine aK ?_ ?_ <;> intro hc)) | fail)
  refine bodyPost_ret (bD (cs := [aF l[k].name, .int .i64 l[k].kind, .int .i64 l[k].ttl, aF l[k].data]) rfl rfl p3.this (show bH Tryz.prog 64 4 = true by decide +kernel)) rfl ⟨by rw [e3]; rfl, x3⟩
 ·rw [e1]
  (repeat' first | ((with_reducible refine aJ ?_); go_step) | ((with_reducible refine aG ?_); first | refine aL ?_ | (refine aK ?_ ?_ <;> intro hc)) | fail)
  refine bW (v := .agg dX.toArray) rfl (Runs.build0 (by kernel_rfl)) ?_
  refine aA ?_
  refine aD (v := .agg dX.toArray) rfl rfl rfl h2 (show aP Tryz.prog 64 4 = true by decide +kernel) rfl (by decide +kernel) ?_
  intro w3 p3
  have x3 : Ext w w3 := hx2.move p3.mv (by rintro k ⟨⟩; exact Nat.le_refl _)
  (repeat' first | ((with_reducible refine aJ ?_); go_step) | ((with_reducible refine aG ?_); first | refine aL ?_ | (refine aK ?_ ?_ <;> intro hc)) | fail)
  refine bodyPost_ret (bD (cs := dX) rfl rfl p3.this (show bH Tryz.prog 64 4 = true by decide +kernel)) rfl ⟨by rw [e2.2]; rfl, x3⟩
def fC (j : JudR) (an au : Value) : List Value := [aF j.qn, .int .i64 j.qt, aF j.zone, .int .i64 j.code, an, au]
set_option maxHeartbeats 2000000 in
theorem BN (j : JudR) (r : Rec) (pq : Value) (w : World) (hq : Pts w pq [aF j.qn, .int .i64 j.qt]) : Calls Tryz.prog 148 #[.agg #[aF r.name, .int .i64 r.kind, .int .i64 r.ttl, aF r.data], pq] w (bS w (.bool (j.ansP r))) := by
 go_enter Tryz.func148, Tryz.ntmps148
 repeat' (first | ((with_reducible refine aJ ?_); go_step) | fail)
 refine dB (vs := [aF r.name, .int .i64 r.kind, .int .i64 r.ttl, aF r.data]) rfl rfl ?_
 intro p w1 x1 hp
 refine aA ?_
 have hq1 := hq.ext x1
 (repeat' first | ((with_reducible refine aJ ?_); go_step) | ((with_reducible refine aG ?_); first | refine aL ?_ | (refine aK ?_ ?_ <;> intro hc)) | fail)
 refine aB (enters_of Tryz.func149 rfl rfl) rfl rfl (qS r.name j.qn _) ?_; intro w2 x2; refine aA ?_
 have hp2 := hp.ext x2
 have hq2 := hq1.ext x2
 have hx2 := x1.trans x2
 cases hs : kR r.name j.qn with
 | false =>
  (repeat' first | ((with_reducible refine aJ ?_); go_step) | ((with_reducible refine aG ?_); first | refine aL ?_ | (refine aK ?_ ?_ <;> intro hc)) | fail)
  go_ret
  exact ⟨by rw [show j.ansP r = false by simp [JudR.ansP, hs]]; rfl, hx2⟩
 | true =>
  by_cases hk : r.kind = j.qt
  ·(repeat' first | ((with_reducible refine aJ ?_); go_step) | ((with_reducible refine aG ?_); first | refine aL ?_ | (refine aK ?_ ?_ <;> intro hc)) | fail)
   all_goals first
    | exact absurd hk ‹_›
    | skip
   go_ret
   exact ⟨by rw [show j.ansP r = true by simp [JudR.ansP, hs, hk]]; rfl, hx2⟩
  ·(repeat' first | ((with_reducible refine aJ ?_); go_step) | ((with_reducible refine aG ?_); first | refine aL ?_ | (refine aK ?_ ?_ <;> intro hc)) | fail)
   all_goals first
    | exact absurd ‹r.kind = j.qt› hk
    | skip
   go_ret
   exact ⟨by rw [show j.ansP r = decide (j.qt = 255) by simp [JudR.ansP, hs, hk]]; rfl, hx2⟩
set_option maxHeartbeats 2000000 in
theorem BO (j : JudR) (an au : Value) (r : Rec) (pj : Value) (w : World) (hj : Pts w pj (fC j an au)) : Calls Tryz.prog 150 #[.agg #[aF r.name, .int .i64 r.kind, .int .i64 r.ttl, aF r.data], pj] w (bS w (.bool (j.aliP r))) := by
 go_enter Tryz.func150, Tryz.ntmps150
 repeat' (first | ((with_reducible refine aJ ?_); go_step) | fail)
 refine dB (vs := [aF r.name, .int .i64 r.kind, .int .i64 r.ttl, aF r.data]) rfl rfl ?_
 intro p w1 x1 hp
 refine aA ?_
 have hj1 := hj.ext x1
 have hj0 : Pts w1 (aW pj 0) [aF j.qn, .int .i64 j.qt] := (hj1.part 0).front 2
 (repeat' first | ((with_reducible refine aJ ?_); go_step) | ((with_reducible refine aG ?_); first | refine aL ?_ | (refine aK ?_ ?_ <;> intro hc)) | fail)
 refine aB (enters_of Tryz.func149 rfl rfl) rfl rfl (qS r.name j.qn _) ?_; intro w2 x2; refine aA ?_
 have hp2 := hp.ext x2
 have hx2 := x1.trans x2
 cases hs : kR r.name j.qn with
 | false =>
  (repeat' first | ((with_reducible refine aJ ?_); go_step) | ((with_reducible refine aG ?_); first | refine aL ?_ | (refine aK ?_ ?_ <;> intro hc)) | fail)
  go_ret
  exact ⟨by rw [show j.aliP r = false by simp [JudR.aliP, hs]]; rfl, hx2⟩
 | true =>
  (repeat' first | ((with_reducible refine aJ ?_); go_step) | ((with_reducible refine aG ?_); first | refine aL ?_ | (refine aK ?_ ?_ <;> intro hc)) | fail)
  go_ret
  exact ⟨by rw [show j.aliP r = decide (r.kind = 5) by simp [JudR.aliP, hs]]; rfl, hx2⟩
set_option maxHeartbeats 2000000 in
theorem BP (j : JudR) (an au : Value) (r : Rec) (pj : Value) (w : World) (hj : Pts w pj (fC j an au)) : Calls Tryz.prog 151 #[.agg #[aF r.name, .int .i64 r.kind, .int .i64 r.ttl, aF r.data], pj] w (bS w (.bool (j.denP r))) := by
 go_enter Tryz.func151, Tryz.ntmps151
 repeat' (first | ((with_reducible refine aJ ?_); go_step) | fail)
 refine dB (vs := [aF r.name, .int .i64 r.kind, .int .i64 r.ttl, aF r.data]) rfl rfl ?_
 intro p w1 x1 hp
 refine aA ?_
 have hj1 := hj.ext x1
 have hj0 : Pts w1 (aW pj 0) [aF j.qn, .int .i64 j.qt] := (hj1.part 0).front 2
 (repeat' first | ((with_reducible refine aJ ?_); go_step) | ((with_reducible refine aG ?_); first | refine aL ?_ | (refine aK ?_ ?_ <;> intro hc)) | fail)
 ·have hc := ‹r.kind = 6›
  refine aB (enters_of Tryz.func62 rfl rfl) rfl rfl (mV j.qn r.name _) ?_; intro w2 x2; refine aA ?_
  (repeat' first | ((with_reducible refine aJ ?_); go_step) | ((with_reducible refine aG ?_); first | refine aL ?_ | (refine aK ?_ ?_ <;> intro hc)) | fail)
  go_ret
  exact ⟨by rw [show j.denP r = bO j.qn r.name by simp [JudR.denP, hc]]; rfl, x1.trans x2⟩
 ·have hc := ‹¬ r.kind = 6›
  go_ret
  exact ⟨by rw [show j.denP r = false by simp [JudR.denP, hc]]; rfl, x1⟩
theorem yA {α : Type} (p : α → Bool) (l : List α) : (l.find? p).isSome = l.any p := by
 rw [Bool.eq_iff_iff, List.find?_isSome, List.any_eq_true]
theorem vZ (n : List UInt8) (k : Int) : (Value.agg #[aF n, .int .i64 k]).cells.all (·.oneCell') = true := by simp [Value.cells, aF, Value.oneCell']
set_option maxHeartbeats 3000000 in
theorem yB (j : JudR) (an au : Value) (w : World) (ha : Sl 4 w an (aE j.an)) (hu : Sl 4 w au (aE j.au)) : Calls Tryz.prog 95 #[.agg (fC j an au).toArray] w (bS w (.tuple #[.int .i64 j.answer.1, aF j.answer.2])) := by
 go_enter Tryz.func95, Tryz.ntmps95
 repeat' (first | ((with_reducible refine aJ ?_); go_step) | fail)
 refine cW (vs := fC j an au) rfl rfl ?_
 intro w1 x1 s1 h1
 refine aA ?_
 have hp := aC (cs := fC j an au) h1
 have hj0 : Pts w1 (aW (.pointer (some ⟨w.heap.size, 0, none⟩)) 0) [aF j.qn, .int .i64 j.qt] := (hp.part 0).front 2
 have hj2 : Pts w1 (aW (.pointer (some ⟨w.heap.size, 0, none⟩)) 2) [aF j.zone] := (hp.part 2).front 1
 have hj3 : Pts w1 (aW (.pointer (some ⟨w.heap.size, 0, none⟩)) 3) [.int .i64 j.code] := (hp.part 3).front 1
 have hj4 : Pts w1 (aW (.pointer (some ⟨w.heap.size, 0, none⟩)) 4) [an] := (hp.part 4).front 1
 have hj5 : Pts w1 (aW (.pointer (some ⟨w.heap.size, 0, none⟩)) 5) [au] := hp.part 5
 (repeat' first | ((with_reducible refine aJ ?_); go_step) | ((with_reducible refine aG ?_); first | refine aL ?_ | (refine aK ?_ ?_ <;> intro hc)) | fail)
 refine aH (z := [aF [], .int .i64 0]) rfl (by decide +kernel) ?_
 intro w2 x2 s2 h2
 refine aA ?_
 refine aD (v := .agg #[aF j.qn, .int .i64 j.qt]) rfl rfl rfl h2 (show aP Tryz.prog 31 2 = true by decide +kernel) rfl (vZ _ _) ?_
 intro w3 p3
 have x3 : Ext w1 w3 := x2.move p3.mv (by rintro k ⟨⟩; exact Nat.le_refl _)
 have hq3 := aC (cs := [aF j.qn, .int .i64 j.qt]) p3.this
 have hx3 := x1.trans x3
 have hj43 := hj4.ext x3
 clear p3 h2 x2 s2 hj0 hj2 hj3 hj5 hp h1
 generalize w1.heap.size = bq at *
 have hF := qU an j.an 148 #[.pointer (some ⟨bq, 0, none⟩)] j.ansP w3 (ha.ext hx3) (enters_of Tryz.func148 rfl rfl) (fun r _ w' c => BN j r _ w' (hq3.ext c))
 have hA := yA j.ansP j.an
 cases hf : j.an.find? j.ansP with
 | none =>
  rw [hf] at hF hA
  have hE : j.answer = (0, []) := by rw [JudR.answer, if_neg (by rw [← hA]; simp)]
  (repeat' first | ((with_reducible refine aJ ?_); go_step) | ((with_reducible refine aG ?_); first | refine aL ?_ | (refine aK ?_ ?_ <;> intro hc)) | fail)
  refine aB (enters_of Tryz.func147 rfl rfl) rfl rfl (hF) ?_; intro w4 x4; refine aA ?_
  (repeat' first | ((with_reducible refine aJ ?_); go_step) | ((with_reducible refine aG ?_); first | refine aL ?_ | (refine aK ?_ ?_ <;> intro hc)) | fail)
  refine aH (z := dX) rfl (by decide +kernel) ?_
  intro w5 x5 s5 h5
  refine aA ?_
  refine aD (v := .agg dX.toArray) rfl rfl rfl h5 (show aP Tryz.prog 64 4 = true by decide +kernel) rfl (by decide +kernel) ?_
  intro w6 p6
  have x6 : Ext w4 w6 := x5.move p6.mv (by rintro k ⟨⟩; exact Nat.le_refl _)
  clear h5 x5 s5
  have hx6 := hx3.trans (x4.trans x6)
  clear p6
  (repeat' first | ((with_reducible refine aJ ?_); go_step) | ((with_reducible refine aG ?_); first | refine aL ?_ | (refine aK ?_ ?_ <;> intro hc)) | fail)
  go_ret2
  exact ⟨by rw [hE]; rfl, hx6⟩
 | some r =>
  rw [hf] at hF hA
  have hE : j.answer = (1, fold j.qn) := by rw [JudR.answer, if_pos (by rw [← hA]; rfl)]
  (repeat' first | ((with_reducible refine aJ ?_); go_step) | ((with_reducible refine aG ?_); first | refine aL ?_ | (refine aK ?_ ?_ <;> intro hc)) | fail)
  refine aB (enters_of Tryz.func147 rfl rfl) rfl rfl (hF) ?_; intro w4 x4; refine aA ?_
  (repeat' first | ((with_reducible refine aJ ?_); go_step) | ((with_reducible refine aG ?_); first | refine aL ?_ | (refine aK ?_ ?_ <;> intro hc)) | fail)
  refine aH (z := dX) rfl (by decide +kernel) ?_
  intro w5 x5 s5 h5
  refine aA ?_
  refine aD (v := .agg #[aF r.name, .int .i64 r.kind, .int .i64 r.ttl, aF r.data]) rfl rfl rfl h5 (show aP Tryz.prog 64 4 = true by decide +kernel) rfl (nG rfl rfl rfl rfl) ?_
  intro w6 p6
  have x6 : Ext w4 w6 := x5.move p6.mv (by rintro k ⟨⟩; exact Nat.le_refl _)
  clear h5 x5 s5
  have hx6 := hx3.trans (x4.trans x6)
  have hq6 := hq3.ext (x4.trans x6)
  clear p6
  (repeat' first | ((with_reducible refine aJ ?_); go_step) | ((with_reducible refine aG ?_); first | refine aL ?_ | (refine aK ?_ ?_ <;> intro hc)) | fail)
  refine aB (enters_of Tryz.func57 rfl rfl) rfl rfl (uI j.qn _) ?_; intro w7 x7; refine aA ?_
  (repeat' first | ((with_reducible refine aJ ?_); go_step) | ((with_reducible refine aG ?_); first | refine aL ?_ | (refine aK ?_ ?_ <;> intro hc)) | fail)
  go_ret2
  exact ⟨by rw [hE]; rfl, hx6.trans x7⟩
set_option maxHeartbeats 3000000 in
theorem zT (j : JudR) (an au : Value) (w : World) (ha : Sl 4 w an (aE j.an)) (hu : Sl 4 w au (aE j.au)) (hd : ∀ r ∈ j.an, r.data.length ≤ 4000) : Calls Tryz.prog 96 #[.agg (fC j an au).toArray] w (bS w (.tuple #[.int .i64 j.alias.1, aF j.alias.2])) := by
 go_enter Tryz.func96, Tryz.ntmps96
 repeat' (first | ((with_reducible refine aJ ?_); go_step) | fail)
 refine cW (vs := fC j an au) rfl rfl ?_
 intro w1 x1 s1 h1
 refine aA ?_
 have hp := aC (cs := fC j an au) h1
 have hj0 : Pts w1 (aW (.pointer (some ⟨w.heap.size, 0, none⟩)) 0) [aF j.qn, .int .i64 j.qt] := (hp.part 0).front 2
 have hj2 : Pts w1 (aW (.pointer (some ⟨w.heap.size, 0, none⟩)) 2) [aF j.zone] := (hp.part 2).front 1
 have hj3 : Pts w1 (aW (.pointer (some ⟨w.heap.size, 0, none⟩)) 3) [.int .i64 j.code] := (hp.part 3).front 1
 have hj4 : Pts w1 (aW (.pointer (some ⟨w.heap.size, 0, none⟩)) 4) [an] := (hp.part 4).front 1
 have hj5 : Pts w1 (aW (.pointer (some ⟨w.heap.size, 0, none⟩)) 5) [au] := hp.part 5
 have hF := qU an j.an 150 #[.pointer (some ⟨w.heap.size, 0, none⟩)] j.aliP w1 (ha.ext x1) (enters_of Tryz.func150 rfl rfl) (fun r _ w' c => BO j an au r _ w' (hp.ext c))
 cases hf : j.an.find? j.aliP with
 | none =>
  rw [hf] at hF
  have hE : j.alias = (0, []) := by rw [JudR.alias, hf]
  (repeat' first | ((with_reducible refine aJ ?_); go_step) | ((with_reducible refine aG ?_); first | refine aL ?_ | (refine aK ?_ ?_ <;> intro hc)) | fail)
  refine aB (enters_of Tryz.func147 rfl rfl) rfl rfl (hF) ?_; intro w4 x4; refine aA ?_
  (repeat' first | ((with_reducible refine aJ ?_); go_step) | ((with_reducible refine aG ?_); first | refine aL ?_ | (refine aK ?_ ?_ <;> intro hc)) | fail)
  refine aH (z := dX) rfl (by decide +kernel) ?_
  intro w5 x5 s5 h5
  refine aA ?_
  refine aD (v := .agg dX.toArray) rfl rfl rfl h5 (show aP Tryz.prog 64 4 = true by decide +kernel) rfl (by decide +kernel) ?_
  intro w6 p6
  have x6 : Ext w4 w6 := x5.move p6.mv (by rintro k ⟨⟩; exact Nat.le_refl _)
  clear h5 x5 s5
  have hx6 := x1.trans (x4.trans x6)
  clear p6
  (repeat' first | ((with_reducible refine aJ ?_); go_step) | ((with_reducible refine aG ?_); first | refine aL ?_ | (refine aK ?_ ?_ <;> intro hc)) | fail)
  go_ret2
  exact ⟨by rw [hE]; rfl, hx6⟩
 | some r =>
  rw [hf] at hF
  have hE : j.alias = (5, fold (bN 5 r.data).1) := by rw [JudR.alias, hf]
  (repeat' first | ((with_reducible refine aJ ?_); go_step) | ((with_reducible refine aG ?_); first | refine aL ?_ | (refine aK ?_ ?_ <;> intro hc)) | fail)
  refine aB (enters_of Tryz.func147 rfl rfl) rfl rfl (hF) ?_; intro w4 x4; refine aA ?_
  (repeat' first | ((with_reducible refine aJ ?_); go_step) | ((with_reducible refine aG ?_); first | refine aL ?_ | (refine aK ?_ ?_ <;> intro hc)) | fail)
  refine aH (z := dX) rfl (by decide +kernel) ?_
  intro w5 x5 s5 h5
  refine aA ?_
  refine aD (v := .agg #[aF r.name, .int .i64 r.kind, .int .i64 r.ttl, aF r.data]) rfl rfl rfl h5 (show aP Tryz.prog 64 4 = true by decide +kernel) rfl (nG rfl rfl rfl rfl) ?_
  intro w6 p6
  have x6 : Ext w4 w6 := x5.move p6.mv (by rintro k ⟨⟩; exact Nat.le_refl _)
  clear h5 x5 s5
  have hpr := aC (cs := [aF r.name, .int .i64 r.kind, .int .i64 r.ttl, aF r.data]) p6.this
  have hx6 := x1.trans (x4.trans x6)
  have hdr := hd r (List.mem_of_find?_eq_some hf)
  clear p6
  (repeat' first | ((with_reducible refine aJ ?_); go_step) | ((with_reducible refine aG ?_); first | refine aL ?_ | (refine aK ?_ ?_ <;> intro hc)) | fail)
  refine aB (enters_of Tryz.func101 rfl rfl) rfl rfl (DU 5 r.data _ (by omega)) ?_; intro w7 x7; refine aA ?_
  (repeat' first | ((with_reducible refine aJ ?_); go_step) | ((with_reducible refine aG ?_); first | refine aL ?_ | (refine aK ?_ ?_ <;> intro hc)) | fail)
  refine aB (enters_of Tryz.func57 rfl rfl) rfl rfl (uI (bN 5 r.data).1 _) ?_; intro w8 x8; refine aA ?_
  (repeat' first | ((with_reducible refine aJ ?_); go_step) | ((with_reducible refine aG ?_); first | refine aL ?_ | (refine aK ?_ ?_ <;> intro hc)) | fail)
  go_ret2
  exact ⟨by rw [hE]; rfl, hx6.trans (x7.trans x8)⟩
set_option maxHeartbeats 3000000 in
theorem yC (j : JudR) (an au : Value) (w : World) (ha : Sl 4 w an (aE j.an)) (hu : Sl 4 w au (aE j.au)) : Calls Tryz.prog 97 #[.agg (fC j an au).toArray] w (bS w (.tuple #[.int .i64 j.denial.1, aF j.denial.2])) := by
 go_enter Tryz.func97, Tryz.ntmps97
 repeat' (first | ((with_reducible refine aJ ?_); go_step) | fail)
 refine cW (vs := fC j an au) rfl rfl ?_
 intro w1 x1 s1 h1
 refine aA ?_
 have hp := aC (cs := fC j an au) h1
 have hj0 : Pts w1 (aW (.pointer (some ⟨w.heap.size, 0, none⟩)) 0) [aF j.qn, .int .i64 j.qt] := (hp.part 0).front 2
 have hj2 : Pts w1 (aW (.pointer (some ⟨w.heap.size, 0, none⟩)) 2) [aF j.zone] := (hp.part 2).front 1
 have hj3 : Pts w1 (aW (.pointer (some ⟨w.heap.size, 0, none⟩)) 3) [.int .i64 j.code] := (hp.part 3).front 1
 have hj4 : Pts w1 (aW (.pointer (some ⟨w.heap.size, 0, none⟩)) 4) [an] := (hp.part 4).front 1
 have hj5 : Pts w1 (aW (.pointer (some ⟨w.heap.size, 0, none⟩)) 5) [au] := hp.part 5
 have hF := qU au j.au 151 #[.pointer (some ⟨w.heap.size, 0, none⟩)] j.denP w1 (hu.ext x1) (enters_of Tryz.func151 rfl rfl) (fun r _ w' c => BP j an au r _ w' (hp.ext c))
 cases hf : j.au.find? j.denP with
 | none =>
  rw [hf] at hF
  have hE : j.denial = (0, []) := by rw [JudR.denial, hf]
  (repeat' first | ((with_reducible refine aJ ?_); go_step) | ((with_reducible refine aG ?_); first | refine aL ?_ | (refine aK ?_ ?_ <;> intro hc)) | fail)
  refine aB (enters_of Tryz.func147 rfl rfl) rfl rfl (hF) ?_; intro w4 x4; refine aA ?_
  (repeat' first | ((with_reducible refine aJ ?_); go_step) | ((with_reducible refine aG ?_); first | refine aL ?_ | (refine aK ?_ ?_ <;> intro hc)) | fail)
  refine aH (z := dX) rfl (by decide +kernel) ?_
  intro w5 x5 s5 h5
  refine aA ?_
  refine aD (v := .agg dX.toArray) rfl rfl rfl h5 (show aP Tryz.prog 64 4 = true by decide +kernel) rfl (by decide +kernel) ?_
  intro w6 p6
  have x6 : Ext w4 w6 := x5.move p6.mv (by rintro k ⟨⟩; exact Nat.le_refl _)
  clear h5 x5 s5
  have hx6 := x1.trans (x4.trans x6)
  clear p6
  (repeat' first | ((with_reducible refine aJ ?_); go_step) | ((with_reducible refine aG ?_); first | refine aL ?_ | (refine aK ?_ ?_ <;> intro hc)) | fail)
  go_ret2
  exact ⟨by rw [hE]; rfl, hx6⟩
 | some r =>
  rw [hf] at hF
  have hE : j.denial = if j.code = 3 then (3, fold r.name) else (2, fold r.name) := by rw [JudR.denial, hf]
  (repeat' first | ((with_reducible refine aJ ?_); go_step) | ((with_reducible refine aG ?_); first | refine aL ?_ | (refine aK ?_ ?_ <;> intro hc)) | fail)
  refine aB (enters_of Tryz.func147 rfl rfl) rfl rfl (hF) ?_; intro w4 x4; refine aA ?_
  (repeat' first | ((with_reducible refine aJ ?_); go_step) | ((with_reducible refine aG ?_); first | refine aL ?_ | (refine aK ?_ ?_ <;> intro hc)) | fail)
  refine aH (z := dX) rfl (by decide +kernel) ?_
  intro w5 x5 s5 h5
  refine aA ?_
  refine aD (v := .agg #[aF r.name, .int .i64 r.kind, .int .i64 r.ttl, aF r.data]) rfl rfl rfl h5 (show aP Tryz.prog 64 4 = true by decide +kernel) rfl (nG rfl rfl rfl rfl) ?_
  intro w6 p6
  have x6 : Ext w4 w6 := x5.move p6.mv (by rintro k ⟨⟩; exact Nat.le_refl _)
  clear h5 x5 s5
  have hpr := aC (cs := [aF r.name, .int .i64 r.kind, .int .i64 r.ttl, aF r.data]) p6.this
  have hx6 := x1.trans (x4.trans x6)
  have hj6 := hj3.ext (x4.trans x6)
  clear p6
  by_cases hk : j.code = 3
  ·rw [if_pos hk] at hE
   (repeat' first | ((with_reducible refine aJ ?_); go_step) | ((with_reducible refine aG ?_); first | refine aL ?_ | (refine aK ?_ ?_ <;> intro hc)) | fail)
   all_goals first
    | exact absurd hk ‹_›
    | skip
   refine aB (enters_of Tryz.func57 rfl rfl) rfl rfl (uI r.name _) ?_; intro w7 x7; refine aA ?_
   (repeat' first | ((with_reducible refine aJ ?_); go_step) | ((with_reducible refine aG ?_); first | refine aL ?_ | (refine aK ?_ ?_ <;> intro hc)) | fail)
   go_ret2
   exact ⟨by rw [hE]; rfl, hx6.trans x7⟩
  ·rw [if_neg hk] at hE
   (repeat' first | ((with_reducible refine aJ ?_); go_step) | ((with_reducible refine aG ?_); first | refine aL ?_ | (refine aK ?_ ?_ <;> intro hc)) | fail)
   all_goals first
    | exact absurd ‹j.code = 3› hk
    | skip
   refine aB (enters_of Tryz.func57 rfl rfl) rfl rfl (uI r.name _) ?_; intro w7 x7; refine aA ?_
   (repeat' first | ((with_reducible refine aJ ?_); go_step) | ((with_reducible refine aG ?_); first | refine aL ?_ | (refine aK ?_ ?_ <;> intro hc)) | fail)
   go_ret2
   exact ⟨by rw [hE]; rfl, hx6.trans x7⟩
def bL (a : ActR) (v1 v2 : Value) : List Value := [.int .i64 a.kind, .int .i64 a.to, aF a.qn, .int .i64 a.qt, .int .i64 a.code, v1, v2]
def bU : List Value := [.int .i64 0, .int .i64 0, aF [], .int .i64 0, .int .i64 0, .slice none 0 0, .slice none 0 0]
theorem dW {a : ActR} {v1 v2 : Value} (h1 : v1.oneCell' = true) (h2 : v2.oneCell' = true) : (Value.agg (bL a v1 v2).toArray).cells.all (·.oneCell') = true := by
 have k1 : ∀ s, (aF s).oneCell' = true := fun _ => rfl
 have k2 : ∀ n, (Value.int .i64 n).oneCell' = true := fun _ => rfl
 simp [bL, Value.cells, h1, h2, k1, k2]
structure ActV (w : World) (v : Value) (a : ActR) : Prop where
 out : ∃ v1 v2, v = .agg (bL a v1 v2).toArray ∧ Own 0 4 64 w v1 (aE a.ans) ∧ Own 0 4 64 w v2 (aE a.auth)
theorem ActV.ext {w w' : World} {v : Value} {a : ActR} (h : ActV w v a) (hx : Ext w w') : ActV w' v a := by
 obtain ⟨v1, v2, h1, h2, h3⟩ := h.out
 exact ⟨v1, v2, h1, h2.ext hx, h3.ext hx⟩
def StopV (B : Nat) (w : World) (v : Value) : Option ActR → Prop
 | none => v = .pointer none
 | some a => ∃ c v1 v2, v = .pointer (some ⟨c, 0, none⟩) ∧ B ≤ c ∧ w.heap[c]? = some (.cells (bL a v1 v2).toArray 33 (0, 0)) ∧ Own B 4 64 w v1 (aE a.ans) ∧ Own B 4 64 w v2 (aE a.auth) ∧ a.kind = 2
theorem StopV.ext {B : Nat} {w w' : World} {v : Value} {s : Option ActR} (h : StopV B w v s) (hx : Ext w w') : StopV B w' v s := by
 cases s with
 | none => exact h
 | some a =>
  obtain ⟨c, v1, v2, h1, h2, h3, h4, h5, h6⟩ := h
  exact ⟨c, v1, v2, h1, h2, hx.at h3, h4.ext hx, h5.ext hx, h6⟩
theorem StopV.put {B b t : Nat} {w w' : World} {v : Value} {s : Option ActR} {cs : Array Value} {fz : Nat × Nat} {o : Obj} (h : StopV B w v s) (hb : w.heap[b]? = some (.cells cs t fz)) (h1 : t ≠ 33) (h2 : t ≠ 64) (hp : Put w w' b o) : StopV B w' v s := by
 cases s with
 | none => exact h
 | some a =>
  obtain ⟨c, v1, v2, g1, g2, g3, g4, g5, g6⟩ := h
  refine ⟨c, v1, v2, g1, g2, hp.mv.at g3 ?_, g4.mv hp.mv (.inr (g4.neBlock hb h2)), g5.mv hp.mv (.inr (g5.neBlock hb h2)), g6⟩
  intro e
  cases e
  rw [hb] at g3
  simp only [Option.some.injEq, Obj.cells.injEq] at g3
  exact h1 g3.2.1
def bM (t : TaskR) (rv sv gv ev : Value) : List Value := [aF t.qn, .int .i64 t.qt, rv, aF t.zone, sv, gv, .int .i64 t.chain, .int .i64 t.left, ev]
structure TaskV (w0 w : World) (b : Nat) (t : TaskR) (rv sv gv ev : Value) : Prop where
 ge : w0.heap.size ≤ b
 ext : Ext w0 w
 blk : w.heap[b]? = some (.cells (bM t rv sv gv ev).toArray 99 (0, 0))
 rs : Own w0.heap.size 1 3 w rv (aY t.roots)
 ss : OwnOff w0.heap.size 1 3 w sv (aY t.servers)
 gs : Own w0.heap.size 4 64 w gv (aE t.got)
 es : StopV w0.heap.size w ev t.stop
def TaskAt (w0 w : World) (b : Nat) (t : TaskR) : Prop := ∃ rv sv gv ev, TaskV w0 w b t rv sv gv ev
theorem TaskV.grow {w0 w w' : World} {b : Nat} {t : TaskR} {rv sv gv ev : Value} (h : TaskV w0 w b t rv sv gv ev) (hx : Ext w w') : TaskV w0 w' b t rv sv gv ev :=
 ⟨h.ge, h.ext.trans hx, hx.at h.blk, h.rs.ext hx, h.ss.ext hx, h.gs.ext hx, h.es.ext hx⟩
theorem TaskAt.grow {w0 w w' : World} {b : Nat} {t : TaskR} (h : TaskAt w0 w b t) (hx : Ext w w') : TaskAt w0 w' b t := by
 obtain ⟨rv, sv, gv, ev, h⟩ := h
 exact ⟨rv, sv, gv, ev, h.grow hx⟩
theorem TaskV.put {w0 w w' : World} {b : Nat} {t t' : TaskR} {rv sv gv ev rv' sv' gv' ev' : Value} (h : TaskV w0 w b t rv sv gv ev) (hp : Put w w' b (.cells (bM t' rv' sv' gv' ev').toArray 99 (0, 0)))
 (h1 : Own w0.heap.size 1 3 w' rv' (aY t'.roots)) (h2 : OwnOff w0.heap.size 1 3 w' sv' (aY t'.servers)) (h3 : Own w0.heap.size 4 64 w' gv' (aE t'.got)) (h4 : StopV w0.heap.size w' ev' t'.stop) : TaskV w0 w' b t' rv' sv' gv' ev' :=
 ⟨h.ge, h.ext.move hp.mv (by rintro k ⟨⟩; exact h.ge), hp.this, h1, h2, h3, h4⟩
theorem TaskV.kept {w0 w w' : World} {b : Nat} {t : TaskR} {rv sv gv ev : Value} {o : Obj} (h : TaskV w0 w b t rv sv gv ev) (hp : Put w w' b o) :
 Own w0.heap.size 1 3 w' rv (aY t.roots) ∧ OwnOff w0.heap.size 1 3 w' sv (aY t.servers) ∧ Own w0.heap.size 4 64 w' gv (aE t.got) ∧ StopV w0.heap.size w' ev t.stop :=
 ⟨h.rs.mv hp.mv (.inr (h.rs.neBlock h.blk (by decide))), h.ss.mv hp.mv (.inr (h.ss.neBlock h.blk (by decide))), h.gs.mv hp.mv (.inr (h.gs.neBlock h.blk (by decide))), h.es.put h.blk (by decide) (by decide) hp⟩
theorem Mv.fresh {row : Option Nat} {w w1 w2 : World} {c : Nat} (h : Mv row w w1) (k : Mv (some c) w1 w2) (hc : w.heap.size ≤ c) : Mv row w w2 :=
 ⟨k.os.trans h.os, k.tape.trans h.tape, k.output.trans h.output, Nat.le_trans h.size k.size,
  fun j hj hn => by rw [k.block j (Nat.lt_of_lt_of_le hj h.size) (by intro e; have := Option.some.inj e; omega), h.block j hj hn], Nat.le_trans h.drawn k.drawn⟩
theorem ActV.one {w : World} {v : Value} {a : ActR} (h : ActV w v a) : v.cells.all (·.oneCell') = true := by
 obtain ⟨v1, v2, rfl, h2, h3⟩ := h.out
 exact dW h2.one h3.one
theorem ActV.size {w : World} {v : Value} {a : ActR} (h : ActV w v a) : v.cells.size = 7 := by
 obtain ⟨v1, v2, rfl, h2, h3⟩ := h.out
 rfl
theorem ActV.put {w w' : World} {v : Value} {a : ActR} {c t : Nat} {cs : Array Value} {fz : Nat × Nat} {o : Obj} (h : ActV w v a) (hp : Put w w' c o) (hc : w.heap[c]? = some (.cells cs t fz)) (ht : t ≠ 64) : ActV w' v a := by
 obtain ⟨v1, v2, h1, h2, h3⟩ := h.out
 exact ⟨v1, v2, h1, h2.mv hp.mv (.inr (h2.neBlock hc ht)), h3.mv hp.mv (.inr (h3.neBlock hc ht))⟩
theorem TaskV.other {w0 w w' : World} {b c : Nat} {t : TaskR} {rv sv gv ev : Value} {fz : Nat × Nat} {o : Obj} (h : TaskV w0 w b t rv sv gv ev) (hp : Put w w' c o) (hc : w.heap[c]? = some (.cells bU.toArray 33 fz)) (hg : w0.heap.size ≤ c) : TaskV w0 w' b t rv sv gv ev := by
 refine ⟨h.ge, h.ext.move hp.mv (by rintro k ⟨⟩; exact hg), hp.mv.at h.blk ?_, h.rs.mv hp.mv (.inr (h.rs.neBlock hc (by decide))), h.ss.mv hp.mv (.inr (h.ss.neBlock hc (by decide))), h.gs.mv hp.mv (.inr (h.gs.neBlock hc (by decide))), ?_⟩
 ·intro e
  have e2 := h.blk
  rw [Option.some.inj e, hc] at e2
  simp only [Option.some.injEq, Obj.cells.injEq] at e2
  exact absurd e2.2.1 (by decide)
 ·have he := h.es
  generalize hst : t.stop = s at he
  cases s with
  | none => exact he
  | some a =>
   obtain ⟨k, v1, v2, g1, g2, g3, g4, g5, g6⟩ := he
   refine ⟨k, v1, v2, g1, g2, hp.mv.at g3 (fun e => ?_), g4.mv hp.mv (.inr (g4.neBlock hc (by decide))), g5.mv hp.mv (.inr (g5.neBlock hc (by decide))), g6⟩
   rw [Option.some.inj e, hc] at g3
   simp only [Option.some.injEq, Obj.cells.injEq] at g3
   have e3 := congrArg (fun q => q[0]?) g3.1
   simp [bU, bL, g6] at e3
def ActRet (w0 : World) (b : Nat) (r : TaskR × ActR) (v : Value) (w' : World) : Prop := ActV w' v r.2 ∧ TaskAt w0 w' b r.1
theorem yD {w0 w : World} {b : Nat} {t : TaskR} (h : TaskAt w0 w b t) : Calls Tryz.prog 22 #[.pointer (some ⟨b, 0, none⟩)] w (bS w (aF t.zone)) := by
 obtain ⟨rv, sv, gv, ev, h⟩ := h
 have hp := aC (cs := bM t rv sv gv ev) h.blk
 go_enter Tryz.func22, Tryz.ntmps22
 (repeat' first | ((with_reducible refine aJ ?_); go_step) | ((with_reducible refine aG ?_); first | refine aL ?_ | (refine aK ?_ ?_ <;> intro hc)) | fail)
 go_ret
 exact ⟨rfl, Ext.refl _⟩
set_option maxHeartbeats 1000000 in
theorem qV {w0 w : World} {b : Nat} {t : TaskR} {a : ActR} (h : TaskAt w0 w b t) (hs : t.stop = some a) (h1' : a.ans.length ≤ 1000000) (h2' : a.auth.length ≤ 1000000) : Calls Tryz.prog 43 #[.pointer (some ⟨b, 0, none⟩)] w (uT w (ActRet w0 b (t, a))) := by
 obtain ⟨rv, sv, gv, ev, h⟩ := h
 have hp := aC (cs := bM t rv sv gv ev) h.blk
 have he := h.es
 rw [hs] at he
 obtain ⟨c, v1, v2, rfl, hc, hcb, o1, o2, -⟩ := he
 have hpc := aC (cs := bL a v1 v2) hcb
 go_enter Tryz.func43, Tryz.ntmps43
 (repeat' first | ((with_reducible refine aJ ?_); go_step) | ((with_reducible refine aG ?_); first | refine aL ?_ | (refine aK ?_ ?_ <;> intro hc)) | fail)
 refine aH (z := bU) rfl (by decide +kernel) ?_
 intro w1 x1 s1 h1
 refine aA ?_
 have hp1 := hp.ext x1
 have hpc1 := hpc.ext x1
 (repeat' first | ((with_reducible refine aJ ?_); go_step) | ((with_reducible refine aG ?_); first | refine aL ?_ | (refine aK ?_ ?_ <;> intro hc)) | fail)
 refine bB (Runs.loadN hpc1 rfl (show bH Tryz.prog 33 7 = true by decide +kernel)) ?_
 refine aA ?_
 refine aH (z := bU) rfl (by decide +kernel) ?_
 intro w2 x2 s2 h2
 refine aA ?_
 refine aD (v := .agg (bL a v1 v2).toArray) rfl rfl rfl h2 (show aP Tryz.prog 33 7 = true by decide +kernel) rfl (dW o1.one o2.one) ?_
 intro w3 p3
 have x3 : Ext w1 w3 := x2.move p3.mv (by rintro k ⟨⟩; exact Nat.le_refl _)
 have hp3 := aC (cs := bL a v1 v2) p3.this
 have hb3 := p3.this
 have o13 := (o1.ext x1).ext x3
 have o23 := (o2.ext x1).ext x3
 have hx3 := x1.trans x3
 clear p3 h2 x2
 (repeat' first | ((with_reducible refine aJ ?_); go_step) | ((with_reducible refine aG ?_); first | refine aL ?_ | (refine aK ?_ ?_ <;> intro hc)) | fail)
 have sz3 := hx3.size
 have sz1 := x1.size
 refine cZ 7 (Ext w3) (by decide +kernel) ?_
 intro w4 x4 _
 refine ⟨x4, ?_⟩
 refine iQ 0 ?_; refine iQ 1 ?_; refine iQ 3 ?_; refine iQ 4 ?_
 refine cE (i := 2) (by decide +kernel) rfl rfl ?_
 refine aO (enters_of Tryz.func94 rfl rfl) rfl rfl (sI v1 a.ans _ (o13.sl.ext x4) h1') ?_
 intro u1 w5 x5 n1
 refine aA ?_
 have x35 := x4.trans x5
 refine aQ ⟨dS x35, ?_⟩
 refine iQ 6 ?_
 refine cE (i := 5) (by decide +kernel) rfl rfl ?_
 refine aO (enters_of Tryz.func94 rfl rfl) rfl rfl (sI v2 a.auth _ (o23.sl.ext x35) h2') ?_
 intro u2 w6 x6 n2
 refine aA ?_
 have x36 := x35.trans x6
 refine aQ ⟨dS x36, ?_⟩
 have n16 := n1.ext x6
 have hb6 : w6.heap[w1.heap.size]? = some (.cells (bL a v1 v2).toArray 33 (0, 0)) := x36.at hb3
 refine cE (i := 7) (by decide +kernel) rfl rfl ?_
 refine bC (n := 5) (v := u1) hb6 rfl rfl rfl (by simp [bL]) (by decide +kernel) n16.one ?_
 intro w7 p7
 refine aQ ⟨cR rfl, ?_⟩
 refine cE (i := 8) (by decide +kernel) rfl rfl ?_
 ((with_reducible refine aG ?_); (first | (refine kW ?_; refine iN ?_) | (refine mL ?_; refine pB ?_; (with_reducible refine aG ?_); refine kW ?_; refine iN ?_)))
 refine aQ ⟨cR rfl, ?_⟩
 refine cE (i := 9) (by decide +kernel) rfl rfl ?_
 refine bC (n := 6) (v := u2) p7.this rfl rfl rfl (by simp [bL]) (by decide +kernel) n2.one ?_
 intro w8 p8
 refine aQ ⟨cR rfl, ?_⟩
 refine eF (by decide +kernel) ?_
 have hm := p7.mv.trans p8.mv
 have x8 : Ext w w8 := (hx3.trans x36).move hm (by rintro k ⟨⟩; omega)
 have hb8 : w8.heap[w1.heap.size]? = some (.cells (bL a u1 u2).toArray 33 (0, 0)) := p8.this
 have hp8 := aC (cs := bL a u1 u2) hb8
 have m1 := n16.mv hm (.inr (n16.neBlock hb6 (by decide)))
 have m2 := n2.mv hm (.inr (n2.neBlock hb6 (by decide)))
 (repeat' first | ((with_reducible refine aJ ?_); go_step) | ((with_reducible refine aG ?_); first | refine aL ?_ | (refine aK ?_ ?_ <;> intro hc)) | fail)
 refine bB (Runs.loadN hp8 rfl (show bH Tryz.prog 33 7 = true by decide +kernel)) ?_
 refine aA ?_
 have h18 := hm.at ((x3.trans x36).at h1) (by intro e; have := Option.some.inj e; omega)
 refine aD (v := .agg (bL a u1 u2).toArray) rfl rfl rfl h18 (show aP Tryz.prog 33 7 = true by decide +kernel) rfl (dW m1.one m2.one) ?_
 intro w9 p9
 have x9 : Ext w w9 := x8.move p9.mv (by rintro k ⟨⟩; exact Nat.le_refl _)
 have k1 := m1.mv p9.mv (.inr (m1.neBlock h18 (by decide)))
 have k2 := m2.mv p9.mv (.inr (m2.neBlock h18 (by decide)))
 (repeat' first | ((with_reducible refine aJ ?_); go_step) | ((with_reducible refine aG ?_); first | refine aL ?_ | (refine aK ?_ ?_ <;> intro hc)) | fail)
 refine bodyPost_ret (cA (cs := bL a u1 u2) rfl rfl p9.this (show bH Tryz.prog 33 7 = true by decide +kernel)) rfl ⟨_, rfl, x9, ⟨⟨u1, u2, rfl, k1.weaken (Nat.zero_le _), k2.weaken (Nat.zero_le _)⟩⟩, _, _, _, _, h.grow x9⟩
end Go.Proofs.X
