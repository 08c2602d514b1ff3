/- Laws and walks that the proof of the statement is made of (part 9). -/
import Derived.Test.YtgljkfpcadempaaGreatP8
set_option linter.unusedSimpArgs false
set_option linter.unusedVariables false
namespace Go.Proofs.X
open Go.RowKit
set_option maxRecDepth 100000
theorem GO (pn : Value) (n : List UInt8) (s : RSet) (u : Value) (w : World) (hn : Pts w pn [aI n]) : Calls Tryz.prog 212 #[.agg #[aI s.name, .int .i64 s.kind, .int .i64 s.ttl, u], pn] w (bS w (.bool (cW s.name n))) := by
 go_enter Tryz.func212, Tryz.ntmps212
 repeat' (first | ((with_reducible refine aJ ?_); go_step) | fail)
 refine bU (vs := [aI s.name, .int .i64 s.kind, .int .i64 s.ttl, u]) rfl rfl ?_
 intro ps w1 x1 hs
 refine aA ?_
 have hn1 := hn.ext x1
 (repeat' first | ((with_reducible refine aJ ?_); go_step) | ((with_reducible refine aH ?_); first | refine bQ ?_ | (refine aK ?_ ?_ <;> intro hc)) | fail)
 refine aE (enters_of Tryz.func64 rfl rfl) rfl rfl (qD s.name n _) ?_; intro w2 x2; refine aA ?_
 (repeat' first | ((with_reducible refine aJ ?_); go_step) | ((with_reducible refine aH ?_); first | refine bQ ?_ | (refine aK ?_ ?_ <;> intro hc)) | fail)
 go_ret
 exact ⟨rfl, x1.trans x2⟩
theorem JJ (o : List UInt8) (v : Value) (l : List RSet) (n : List UInt8) (w : World) (hv : SetsAt w v l) : Calls Tryz.prog 173 #[.agg #[aI o, v], aI n] w (bS w (.bool (l.any fun s => cW s.name n))) := by
 go_enter Tryz.func173, Tryz.ntmps173
 repeat' (first | ((with_reducible refine aJ ?_); go_step) | fail)
 refine bU (vs := [aI o, v]) rfl rfl ?_
 intro p w1 x1 hp
 refine aA ?_
 repeat' (first | ((with_reducible refine aJ ?_); go_step) | fail)
 refine bU (vs := [aI n]) rfl rfl ?_
 intro pn w2 x2 hn
 refine aA ?_
 have hx2 := x1.trans x2
 have hp2 := hp.ext x2
 have hv2 := hv.ext hx2
 (repeat' first | ((with_reducible refine aJ ?_); go_step) | ((with_reducible refine aH ?_); first | refine bQ ?_ | (refine aK ?_ ?_ <;> intro hc)) | fail)
 have hf : SetFn w2 212 #[pn] l (fun s => cW s.name n) := fun s _ x w' hx' _ => GO pn n s x w' (hn.ext hx')
 refine aE (enters_of Tryz.func113 rfl rfl) rfl rfl (jJ v l 212 #[pn] (fun s => cW s.name n) _ hv2 (enters_of Tryz.func212 rfl rfl) hf) ?_; intro w3 x3; refine aA ?_
 (repeat' first | ((with_reducible refine aJ ?_); go_step) | ((with_reducible refine aH ?_); first | refine bQ ?_ | (refine aK ?_ ?_ <;> intro hc)) | fail)
 go_ret
 exact ⟨rfl, hx2.trans x3⟩
def GP (l : List RSet) (n a : List UInt8) : List RSet := (l.filter fun s => decide (s.name = n)).map fun s => ⟨a, s.kind, s.ttl, s.data⟩
theorem LO {l : List RSet} {n a : List UInt8} {k : Nat} (h : k < l.length) : GP (l.take (k + 1)) n a = GP (l.take k) n a ++ (if l[k].name = n then [⟨a, l[k].kind, l[k].ttl, l[k].data⟩] else []) := by
 unfold GP
 rw [List.take_succ_eq_append_getElem h, List.filter_append, List.map_append]
 congr 1
 by_cases hm : l[k].name = n <;> simp [hm]
theorem JK (l : List RSet) (n a : List UInt8) : (GP l n a).length ≤ l.length := by
 unfold GP; rw [List.length_map]; exact List.length_filter_le _ _
set_option maxHeartbeats 3000000 in
theorem QB (o : List UInt8) (v : Value) (l : List RSet) (n a : List UInt8) (w0 w : World) (hx0 : Ext w0 w) (hv0 : SetsAt w0 v l) (hl : l.length ≤ 100000) :
 Calls Tryz.prog 174 #[.agg #[aI o, v], aI n, aI a] w (sX w fun r w' => ∃ css, Own w.heap.size 4 131 w' r css ∧ SetsC w0 css (GP l n a)) := by
 have hv := hv0.ext hx0
 obtain ⟨cv, hv1, hvl⟩ := hv.sl
 go_enter Tryz.func174, Tryz.ntmps174
 repeat' (first | ((with_reducible refine aJ ?_); go_step) | fail)
 refine bU (vs := [aI o, v]) rfl rfl ?_
 intro p w1 x1 hp
 refine aA ?_
 have hv2 := hv1.ext x1
 (repeat' first | ((with_reducible refine aJ ?_); go_step) | ((with_reducible refine aH ?_); first | refine bQ ?_ | (refine aK ?_ ?_ <;> intro hc)) | fail)
 go_loopw [7, 9, 13] (fun r _ i wr => ∃ (k : Nat) (css : List (List Value)), k ≤ l.length ∧ i = .int .i64 k ∧ Ext w wr ∧ Own w.heap.size 4 131 wr r css ∧ SetsC w0 css (GP (l.take k) n a)) (fun _ _ i _ => l.length - (intOf i).toNat)
 case atStart => exact ⟨0, [], Nat.zero_le _, rfl, x1, Own.nil _ _ _ _, ⟨rfl, by simp [GP]⟩⟩
 case round =>
  obtain ⟨k, css, hk, rfl, hx, ho, hc⟩ := hrel
  have hvr := hv1.ext hx
  by_cases hlt : k < l.length
  ·obtain ⟨x, h4w, h4dw⟩ := hv0.elem (List.getElem?_eq_getElem hlt)
   have h4 := h4w.ext (hx0.trans hx)
   have h4d := h4dw.ext (hx0.trans hx)
   have hst := LO (n := n) (a := a) hlt
   have hcl := hc.len
   have hal := JK (l.take k) n a
   rw [List.length_take] at hal
   (repeat' first | ((with_reducible refine aJ ?_); go_step) | ((with_reducible refine aH ?_); first | refine bQ ?_ | (refine aK ?_ ?_ <;> intro hc)) | fail)
   refine aN (z := mS) rfl (by decide +kernel) ?_
   intro w2 x2 s2 h2
   refine aA ?_
   refine aG (v := .agg #[aI l[k].name, .int .i64 l[k].kind, .int .i64 l[k].ttl, x]) rfl rfl rfl h2 (show aZ Tryz.prog 131 4 = true by decide +kernel) rfl (iV rfl rfl rfl (h4d.ext x2).one) ?_
   intro w3 p3
   have x3 : Ext wr w3 := x2.move p3.mv (by rintro k ⟨⟩; exact Nat.le_refl _)
   have b3 : w3.heap[wr.heap.size]? = some (.cells [aI l[k].name, .int .i64 l[k].kind, .int .i64 l[k].ttl, x].toArray 131 (0, 0)) := p3.this
   have h3 := aD b3
   have hx3 := hx.trans x3
   have ho3 := ho.ext x3
   clear p3 h2 x2
   (repeat' first | ((with_reducible refine aJ ?_); go_step) | ((with_reducible refine aH ?_); first | refine bQ ?_ | (refine aK ?_ ?_ <;> intro hc)) | fail)
   ·have hm : l[k].name = n := by assumption
    rw [if_pos hm] at hst
    refine aO (n := 0) b3 rfl rfl rfl (by simp) (by decide +kernel) rfl ?_
    intro w4 p4
    have x4 : Ext wr w4 := x3.move p4.mv (by rintro k ⟨⟩; exact Nat.le_refl _)
    have h5 : Pts w4 (.pointer (some ⟨wr.heap.size, 0, none⟩)) [aI a, .int .i64 l[k].kind, .int .i64 l[k].ttl, x] := aD p4.this
    have hx4 := hx.trans x4
    have ho4 := ho.ext x4
    have hd4 := h4d.ext x4
    clear p4 b3 h3
    (repeat' first | ((with_reducible refine aJ ?_); go_step) | ((with_reducible refine aH ?_); first | refine bQ ?_ | (refine aK ?_ ?_ <;> intro hc)) | fail)
    refine TB [aI a, .int .i64 l[k].kind, .int .i64 l[k].ttl, x] hx4 ho4 (by omega) ?_ ⟨rfl, rfl, rfl, by intro u hu; simp only [List.mem_cons, List.not_mem_nil, or_false] at hu; rcases hu with rfl | rfl | rfl | rfl <;> first | rfl | exact hd4.one⟩
    intro s5 v5 w5 w6 x5 m6 x6 o6
    refine aA ?_
    (repeat' first | ((with_reducible refine aJ ?_); go_step) | ((with_reducible refine aH ?_); first | refine bQ ?_ | (refine aK ?_ ?_ <;> intro hc)) | fail)
    exact ⟨⟨k + 1, _, by omega, by go_num, x6, o6, by rw [hst]; exact hc.append (SetsC.one (s := ⟨a, l[k].kind, l[k].ttl, l[k].data⟩) h4dw)⟩, by simp [intOf]; omega⟩
   ·have hm : ¬ l[k].name = n := by assumption
    rw [if_neg hm, List.append_nil] at hst
    exact ⟨⟨k + 1, css, by omega, by go_num, hx3, ho3, by rw [hst]; exact hc⟩, by simp [intOf]; omega⟩
  ·have : k = l.length := by omega
   subst this
   rw [List.take_length] at hc
   (repeat' first | ((with_reducible refine aJ ?_); go_step) | ((with_reducible refine aH ?_); first | refine bQ ?_ | (refine aK ?_ ?_ <;> intro hc)) | fail)
   go_ret
   exact ⟨_, rfl, hx, _, ho, hc⟩
def fP (o : Option RSet) : List Rec := match o with | some s => dT s | none => []
theorem jY (s : RSet) : bG [s] = dT s := by simp [bG]
theorem jZ (o : Option RSet) : fP o = bG [o.getD eA] := by cases o <;> simp [fP, jY, dT, eA]
def fI (o : List UInt8) (l : List RSet) : Rec := ⟨o, 6, min ((cC l o 6).getD eA).ttl (eK o l).minimum, mI o l⟩
def wI (l : List RSet) (n : List UInt8) : Bool := l.any fun s => cW s.name n
def kK (l : List RSet) : List (List UInt8) → List (List UInt8)
 | [] => []
 | x :: t => if wI l (enc (x :: t)) = true then x :: t else kK l t
def yB (l : List RSet) (n : List UInt8) : List UInt8 := (nP ([42] :: kK l ((aX n).getD []))).getD []
def dH (l : List RSet) (n : List UInt8) : List RSet := if wI l n = true then GP l n n else GP l (yB l n) n
def yC (l : List RSet) (n : List UInt8) : Bool := wI l n || decide (0 < (GP l (yB l n) n).length)
def EQ (k : Int) : Bool := decide (k = 2) || decide (k = 15) || decide (k = 33)
def jC (l : List RSet) (b : List (List UInt8) × List Rec) (r : Rec) : List (List UInt8) × List Rec :=
 if (bA r.kind r.data).2 ≠ 0 ∨ EQ r.kind = false ∨ fold (bA r.kind r.data).1 ∈ b.1 then b
 else (b.1 ++ [fold (bA r.kind r.data).1], b.2 ++ fP (cC l (fold (bA r.kind r.data).1) 1) ++ fP (cC l (fold (bA r.kind r.data).1) 28))
def eW (l : List RSet) (rs : List Rec) : List (List UInt8) × List Rec := rs.foldl (jC l) ([], [])
def DG (l : List RSet) (rs : List Rec) : List Rec := (eW l rs).2
structure StepR where
 kind : Int
 ans : List Rec
 auth : List Rec
 next : List UInt8
 more : Bool
 deriving Inhabited
def eU (s : RSet) : Bool := decide (s.kind = 5)
def dA (l : List RSet) (n : List UInt8) : RSet := ((dH l n).find? eU).getD eA
def hO (k : Int) (s : RSet) : Bool := decide (k = 255) || decide (s.kind = k)
def cS (o : List UInt8) (l : List RSet) (n : List UInt8) (k c : Int) : StepR :=
 if cW n o = false then ⟨if c = 0 then 4 else 0, [], [], [], false⟩
 else if (fU o l n).2 = true then ⟨3, [], fP (cC l (fU o l n).1 2), [], false⟩
 else if yC l n = false then ⟨2, [], [fI o l], [], false⟩
 else if (dH l n).any eU = true ∧ k ≠ 5 ∧ k ≠ 255 then
  if c = 8 then ⟨0, [], [], [], false⟩
  else ⟨0, dT (dA l n), [], fold (bA 5 ((dA l n).data.getD 0 [])).1, true⟩
 else if (dH l n).filter (hO k) = [] then ⟨1, [], [fI o l], [], false⟩
 else ⟨0, bG ((dH l n).filter (hO k)), [], [], false⟩
def gI (o : List UInt8) (l : List RSet) (k : Int) : Nat → Int → List UInt8 → StepR
 | 0, _, _ => ⟨0, [], [], [], false⟩
 | f + 1, c, n => if (cS o l n k c).more = true then
     ⟨(gI o l k f (c + 1) (cS o l n k c).next).kind, (cS o l n k c).ans ++ (gI o l k f (c + 1) (cS o l n k c).next).ans, (gI o l k f (c + 1) (cS o l n k c).next).auth, [], false⟩
   else cS o l n k c
structure AnsR where
 kind : Int
 ans : List Rec
 auth : List Rec
 extra : List Rec
 deriving DecidableEq, Inhabited
def JL : AnsR := ⟨0, [], [], []⟩
def vJ (o : List UInt8) (l : List RSet) (q : List UInt8) : Int := if cJ o l ≠ 0 then cJ o l else eP q
def fQ (r : StepR) : List Rec := r.ans ++ if r.kind = 3 then r.auth else []
def zC (o : List UInt8) (l : List RSet) (q : List UInt8) (k : Int) : AnsR :=
 if vJ o l q ≠ 0 then JL else
  ⟨(gI o l k 9 0 (fold q)).kind, (gI o l k 9 0 (fold q)).ans, (gI o l k 9 0 (fold q)).auth, DG l (fQ (gI o l k 9 0 (fold q)))⟩
theorem sN (n : List UInt8) : (aX (fold n)).isSome = (aX n).isSome := by
 cases h : aX n with
 | none =>
  have : fold n = n := by unfold fold; rw [h]
  rw [this, h]
 | some ls => rw [(oK h).2.1]; rfl
theorem mZ {s : RSet} (h : kI s = true) : 1 ≤ s.data.length ∧ s.data.length ≤ 20 := by
 simp only [kI, Bool.and_eq_true, decide_eq_true_eq] at h
 exact ⟨h.1.1.2, h.1.2⟩
def InZ (l : List RSet) (r : Rec) : Prop := (∃ s ∈ l, ∃ d ∈ s.data, r = pV s d) ∨ wI l r.name = false
theorem InZ.opt {l : List RSet} {n : List UInt8} {k : Int} : ∀ r ∈ fP (cC l n k), InZ l r := by
 intro r hr
 cases hf : cC l n k with
 | none => rw [hf] at hr; cases hr
 | some s =>
  rw [hf] at hr
  obtain ⟨d, hd, rfl⟩ := List.mem_map.1 hr
  exact .inl ⟨s, (nG hf).1, d, hd, rfl⟩
theorem DH {l : List RSet} {m n : List UInt8} {s : RSet} (h : s ∈ GP l m n) : ∃ t ∈ l, t.name = m ∧ s = ⟨n, t.kind, t.ttl, t.data⟩ := by
 unfold GP at h
 obtain ⟨t, ht, rfl⟩ := List.mem_map.1 h
 obtain ⟨h1, h2⟩ := List.mem_filter.1 ht
 exact ⟨t, h1, by simpa using h2, rfl⟩
theorem InZ.at {l : List RSet} {n : List UInt8} {s : RSet} (h : s ∈ dH l n) : ∀ d ∈ s.data, InZ l (pV s d) := by
 intro d hd
 unfold dH at h
 split at h
 ·obtain ⟨t, ht, h1, rfl⟩ := DH h
  exact .inl ⟨t, ht, d, hd, by simp [pV, h1]⟩
 ·rename_i hn
  obtain ⟨t, ht, h1, rfl⟩ := DH h
  exact .inr (by simpa [pV] using hn)
theorem rE {l : List RSet} {n : List UInt8} (h : (dH l n).any eU = true) : dA l n ∈ dH l n ∧ (dA l n).kind = 5 ∧ (dH l n).find? eU = some (dA l n) := by
 unfold dA
 cases hf : (dH l n).find? eU with
 | none =>
  rw [List.find?_eq_none] at hf
  obtain ⟨s, hs, h1⟩ := List.any_eq_true.1 h
  exact absurd h1 (hf s hs)
 | some s =>
  have := List.find?_some hf
  exact ⟨List.mem_of_find?_eq_some hf, by simpa [eU] using this, rfl⟩
theorem oP {l : List RSet} (h : dM l = 0) {n : List UInt8} {s : RSet} (hs : s ∈ dH l n) : ∃ t ∈ l, s.kind = t.kind ∧ s.ttl = t.ttl ∧ s.data = t.data ∧ s.name = n := by
 unfold dH at hs
 split at hs <;> (obtain ⟨t, ht, h1, rfl⟩ := DH hs; exact ⟨t, ht, rfl, rfl, rfl, rfl⟩)
theorem yD {l : List RSet} (h : dM l = 0) {s : RSet} (hs : s ∈ l) : kI s = true := by
 obtain ⟨i, hi, rfl⟩ := List.mem_iff_getElem.1 hs
 exact rD h hi
theorem nA {l : List RSet} (h : dM l = 0) {n : List UInt8} {s : RSet} (hs : s ∈ dH l n) : dT s ≠ [] ∧ s.data.length ≤ 20 ∧ 1 ≤ s.data.length := by
 obtain ⟨t, ht, _, _, h3, _⟩ := oP h hs
 have := mZ (yD h ht)
 have h5 : s.data.length = t.data.length := by rw [h3]
 refine ⟨fun e => ?_, by omega, by omega⟩
 unfold dT at e
 rw [List.map_eq_nil_iff] at e
 rw [e] at h3
 have h4 := congrArg List.length h3
 simp at h4
 omega
section
variable {P : Program} {a : Act} {w : World} {d : Option Nat} {ty : TypeId} {ps : String} {af : Array Edge} {g : Option (Nat × Bool)}
theorem Runs.dropSU {t : TypeId} {x lo : Operand} {l : List UInt8} {m : Nat} (hx : a.eval x = aI l) (h1 : a.eval lo = .int .u8 (m : Nat)) (hm : m ≤ l.length) (ht : iO P t = true) :
 Runs P (Oper.mk d (.slice t x (some lo) none none) ty ps af g) a w (aI (l.drop m)) := by
 constructor
 simp [execOp, hx, h1, aI, Instr.sliceAt, Instr.slice, run_underlying (eF ht), Instr.sliceBounds, Instr.sliceBound, asIntOf, eJ, -ByteArray.size_data, hm, lH]
end
theorem BO (nm : List UInt8) (w : World) : Calls Tryz.prog 63 #[aI nm] w (sX w fun v w' => Own w.heap.size 1 9 w' v (aS ((aX nm).getD []))) := by
 go_enter Tryz.func63, Tryz.ntmps63
 (repeat' first | ((with_reducible refine aJ ?_); go_step) | ((with_reducible refine aH ?_); first | refine bQ ?_ | (refine aK ?_ ?_ <;> intro hc)) | fail)
 refine aT (enters_of Tryz.func69 rfl rfl) rfl rfl (QO nm _) ?_
 intro v w1 x1 hv
 cases hl : aX nm with
 | none =>
  rw [hl] at hv
  subst hv
  (repeat' first | ((with_reducible refine aJ ?_); go_step) | ((with_reducible refine aH ?_); first | refine bQ ?_ | (refine aK ?_ ?_ <;> intro hc)) | fail)
  go_ret
  exact ⟨_, rfl, x1, by rw [hl]; exact Own.nil _ _ _ _⟩
 | some ls =>
  rw [hl] at hv
  obtain ⟨s, rfl, hs⟩ := hv
  (repeat' first | ((with_reducible refine aJ ?_); go_step) | ((with_reducible refine aH ?_); first | refine bQ ?_ | (refine aK ?_ ?_ <;> intro hc)) | fail)
  go_ret
  exact ⟨_, rfl, x1, by rw [hl]; exact hs⟩
theorem JM {nm x : List UInt8} {t : List (List UInt8)} (w : World) (h : aX nm = some (x :: t)) : Calls Tryz.prog 175 #[aI nm] w (bS w (.tuple #[aI (enc t), .int .i64 0])) := by
 obtain ⟨h1, h2, h3⟩ := fD h
 have hx63 : x.length ≤ 63 := by simp [gK] at h1; omega
 have e : nm = UInt8.ofNat x.length :: (x ++ enc t) := by rw [← h2]; simp [enc]
 have hlen : 0 < nm.length := by rw [e]; simp
 have h0 : nm.getD 0 0 = UInt8.ofNat x.length := by rw [e]; rfl
 have hne : nm ≠ [] := by intro e0; rw [e0] at hlen; cases hlen
 have hn0 : (nm.getD 0 0).toNat = x.length := by rw [h0]; simp; omega
 have hdr : nm.drop (x.length + 1) = enc t := by rw [e]; simp
 have hl : x.length + 1 ≤ nm.length := by rw [e]; simp
 have hsome : (aX nm).isSome = true := by rw [h]; rfl
 go_enter Tryz.func175, Tryz.ntmps175
 (repeat' first | ((with_reducible refine aJ ?_); go_step) | ((with_reducible refine aH ?_); first | refine bQ ?_ | (refine aK ?_ ?_ <;> intro hc)) | fail)
 refine aE (enters_of Tryz.func65 rfl rfl) rfl rfl (NV nm _) ?_; intro w1 x1; refine aA ?_
 rw [if_pos hsome]
 (repeat' first | ((with_reducible refine aJ ?_); go_step) | ((with_reducible refine aH ?_); first | refine bQ ?_ | (refine aK ?_ ?_ <;> intro hc)) | fail)
 refine aM (Runs.dropSU (l := nm) (m := x.length + 1) rfl ?_ hl (by decide +kernel)) ?_
 ·show Value.int .u8 (IntKind.wrap .u8 (((nm.getD 0 0).toNat : Nat) + 1)) = _
  rw [hn0]
  congr 1
  simp only [IntKind.wrap, IntKind.bits, IntKind.signed]
  simp
  omega
 ·refine aA ?_
  rw [hdr]
  (repeat' first | ((with_reducible refine aJ ?_); go_step) | ((with_reducible refine aH ?_); first | refine bQ ?_ | (refine aK ?_ ?_ <;> intro hc)) | fail)
  go_ret2
  exact ⟨rfl, x1⟩
def vK (r : Rec) : Value := .agg #[aI r.name, .int .i64 r.kind, .int .i64 r.ttl, aI r.data]
theorem rF {o : List UInt8} {l : List RSet} (h : ZoneOk o l) : ∀ s ∈ l, s.data.length ≤ 1000000 := fun s hs => by
 have := mZ (h.may hs); omega
theorem lV {o : List UInt8} {l : List RSet} (h : ZoneOk o l) : ∀ s ∈ l, ∀ d ∈ s.data, d.length ≤ 4611686018427387904 := fun s hs d hd => by
 obtain ⟨i, hi, rfl⟩ := List.mem_iff_getElem.1 hd
 have := mV (DB (h.may hs) hi)
 simp only at this
 omega
theorem vL {o : List UInt8} {l : List RSet} (h : ZoneOk o l) : l.length ≤ 200 := by
 have := h.chk
 unfold dM at this
 split at this
 ·cases this
 ·omega
set_option maxHeartbeats 3000000 in
theorem JN (o : List UInt8) (v : Value) (l : List RSet) (w : World) (hv : SetsAt w v l) (hz : ZoneOk o l) : Calls Tryz.prog 176 #[.agg #[aI o, v]] w (bS w (.tuple #[vK (fI o l), .int .i64 0])) := by
 have hb := rF hz
 have hd := lV hz
 have hzr := mU hz
 obtain ⟨s, hf, hs, hn, hk, hdat, hpar, hlen⟩ := hz.soaSet
 have hden : fI o l = ⟨s.name, s.kind, min s.ttl (eK o l).minimum, mI o l⟩ := by rw [fI, hf, hn, hk]; rfl
 go_enter Tryz.func176, Tryz.ntmps176
 repeat' (first | ((with_reducible refine aJ ?_); go_step) | fail)
 refine bU (vs := [aI o, v]) rfl rfl ?_
 intro p w1 x1 hp
 refine aA ?_
 refine aN (z := LM) rfl (by decide +kernel) ?_
 intro w2 x2 s2 h2
 refine aA ?_
 have hx2 := x1.trans x2
 have hp2 := hp.ext x2
 have hv2 := hv.ext hx2
 (repeat' first | ((with_reducible refine aJ ?_); go_step) | ((with_reducible refine aH ?_); first | refine bQ ?_ | (refine aK ?_ ?_ <;> intro hc)) | fail)
 refine aE (enters_of Tryz.func213 rfl rfl) rfl rfl (PS o v l _ hv2 hb hd) ?_; intro w3 x3; refine aA ?_
 have h3 := x3.at h2
 have hp3 := hp2.ext x3
 have hv3 := hv2.ext x3
 rw [hzr]
 (repeat' first | ((with_reducible refine aJ ?_); go_step) | ((with_reducible refine aH ?_); first | refine bQ ?_ | (refine aK ?_ ?_ <;> intro hc)) | fail)
 refine aN (z := cP) rfl (by decide +kernel) ?_
 intro w4 x4 s4 h4
 refine aA ?_
 refine aG (v := .agg (eK o l).cells.toArray) rfl rfl rfl h4 (show aZ Tryz.prog 160 7 = true by decide +kernel) rfl (vD _) ?_
 intro w5 p5
 have x5 : Ext w3 w5 := x4.move p5.mv (by rintro k ⟨⟩; exact Nat.le_refl _)
 have h5 := x5.at h3
 have hs5 := aD (cs := (eK o l).cells) p5.this
 have hp5 := hp3.ext x5
 have hv5 := hv3.ext x5
 have hx5 := hx2.trans (x3.trans x5)
 clear p5 h4 x4
 (repeat' first | ((with_reducible refine aJ ?_); go_step) | ((with_reducible refine aH ?_); first | refine bQ ?_ | (refine aK ?_ ?_ <;> intro hc)) | fail)
 refine aT (enters_of Tryz.func112 rfl rfl) rfl rfl (PC v l o 6 _ hv5 (fun s hs => by have := hb s hs; omega)) ?_
 intro r6 w6 x6 hr6
 rw [hf] at hr6
 obtain ⟨y, rfl, oy⟩ := hr6
 have h6 := x6.at h5
 have hs6 := hs5.ext x6
 (repeat' first | ((with_reducible refine aJ ?_); go_step) | ((with_reducible refine aH ?_); first | refine bQ ?_ | (refine aK ?_ ?_ <;> intro hc)) | fail)
 refine aN (z := mS) rfl (by decide +kernel) ?_
 intro w7 x7 s7 h7
 refine aA ?_
 refine aG (v := .agg #[aI s.name, .int .i64 s.kind, .int .i64 s.ttl, y]) rfl rfl rfl h7 (show aZ Tryz.prog 131 4 = true by decide +kernel) rfl (iV rfl rfl rfl oy.one) ?_
 intro w8 p8
 have x8 : Ext w6 w8 := x7.move p8.mv (by rintro k ⟨⟩; exact Nat.le_refl _)
 have b8 : w8.heap[w6.heap.size]? = some (.cells [aI s.name, .int .i64 s.kind, .int .i64 s.ttl, y].toArray 131 (0, 0)) := p8.this
 have hp8 := aD b8
 have h8 := x8.at h6
 have hs8 := hs6.ext x8
 have hy8 := oy.sl.ext x8
 have hx8 := hx5.trans (x6.trans x8)
 clear p8 h7 x7
 (repeat' first | ((with_reducible refine aJ ?_); go_step) | ((with_reducible refine aH ?_); first | refine bQ ?_ | (refine aK ?_ ?_ <;> intro hc)) | fail)
 refine aO (n := 2) b8 rfl rfl rfl (by simp) (by decide +kernel) rfl ?_
 intro w9 p9
 have b9 : w9.heap[w6.heap.size]? = some (.cells [aI s.name, .int .i64 s.kind, .int .i64 (min s.ttl (eK o l).minimum), y].toArray 131 (0, 0)) := p9.this
 have z6 : w.heap.size ≤ w6.heap.size := (hx5.trans x6).size
 have x9 : Ext w w9 := hx8.move p9.mv (by rintro k ⟨⟩; exact z6)
 have zlt : w1.heap.size < w6.heap.size := by
  have a1 := (Array.getElem?_eq_some_iff.1 h6).1
  exact a1
 have h9 : w9.heap[w1.heap.size]? = some (.cells LM.toArray 106 (0, 0)) := (p9.other _ (by omega)).trans h8
 have hy9 := ((oy.ext x8).mv p9.mv (.inr ((oy.ext x8).neBlock b8 (by decide)))).sl
 have hp9 := aD b9
 clear p9 b8 hp8 h8 hy8
 (repeat' first | ((with_reducible refine aJ ?_); go_step) | ((with_reducible refine aH ?_); first | refine bQ ?_ | (refine aK ?_ ?_ <;> intro hc)) | fail)
 refine bT (e := 131) (k := 4) (bytes := 56) (xs := [.agg #[aI s.name, .int .i64 s.kind, .int .i64 (min s.ttl (eK o l).minimum), y]]) rfl rfl rfl (by simp [Value.cells]) (by decide +kernel) (by simp) ?_
 intro v10 w10 x10 _ sl10 _
 refine aA ?_
 have hs10 : SetsAt w10 v10 [⟨s.name, s.kind, min s.ttl (eK o l).minimum, s.data⟩] := (SetsC.one (s := ⟨s.name, s.kind, min s.ttl (eK o l).minimum, s.data⟩) (hy9.ext x10)).sets sl10
 (repeat' first | ((with_reducible refine aJ ?_); go_step) | ((with_reducible refine aH ?_); first | refine bQ ?_ | (refine aK ?_ ?_ <;> intro hc)) | fail)
 have hrec : bG [⟨s.name, s.kind, min s.ttl (eK o l).minimum, s.data⟩] = [fI o l] := by rw [jY, hden, dT, hdat]; rfl
 refine aT (enters_of Tryz.func119 rfl rfl) rfl rfl (PP v10 _ _ hs10 (by rw [hrec]; simp)) ?_
 intro r11 w11 x11 o11
 rw [hrec] at o11
 refine aA ?_
 have sl11 := o11.sl
 have el11 := sl11.elem (i := 0) (e := [aI (fI o l).name, .int .i64 (fI o l).kind, .int .i64 (fI o l).ttl, aI (fI o l).data]) rfl
 have hl11 : (aR [fI o l]).length = 1 := rfl
 have h11 := (x10.trans x11).at h9
 have x911 := x9.trans (x10.trans x11)
 (repeat' first | ((with_reducible refine aJ ?_); go_step) | ((with_reducible refine aH ?_); first | refine bQ ?_ | (refine aK ?_ ?_ <;> intro hc)) | fail)
 refine aG (v := vK (fI o l)) rfl rfl rfl h11 (show aZ Tryz.prog 106 4 = true by decide +kernel) rfl (iV rfl rfl rfl rfl) ?_
 intro w12 p12
 have x12 : Ext w w12 := x911.move p12.mv (by rintro k ⟨⟩; exact x1.size)
 (repeat' first | ((with_reducible refine aJ ?_); go_step) | ((with_reducible refine aH ?_); first | refine bQ ?_ | (refine aK ?_ ?_ <;> intro hc)) | fail)
 refine bodyPost_ret (bK (cs := [aI (fI o l).name, .int .i64 (fI o l).kind, .int .i64 (fI o l).ttl, aI (fI o l).data]) rfl rfl p12.this (show dY Tryz.prog 106 4 = true by decide +kernel)) rfl ⟨rfl, x12⟩
theorem JO (k : Int) (d : List UInt8) : (fold (bA k d).1).length ≤ 254 := by
 have h0 : (fold []).length ≤ 254 := pW [] rfl
 unfold bA
 split
 ·exact h0
 ·split
  ·exact h0
  ·split
   ·exact h0
   ·rename_i n hn
    unfold gU at hn
    split at hn
    ·rename_i hh
     cases hn
     exact pW _ hh.2
    ·cases hn
theorem vM {l : List RSet} {rs : List Rec} {k : Nat} (h : k < rs.length) : eW l (rs.take (k + 1)) = jC l (eW l (rs.take k)) rs[k] := by
 rw [List.take_succ_eq_append_getElem h, eW, List.foldl_append]; rfl
theorem hU {l : List RSet} (hb : ∀ s ∈ l, s.data.length ≤ 20) (n : List UInt8) (k : Int) : (fP (cC l n k)).length ≤ 20 := by
 cases hf : cC l n k with
 | none => simp [fP]
 | some s => simp only [fP, dT, List.length_map]; exact hb s (nG hf).1
theorem yE {l : List RSet} (hb : ∀ s ∈ l, s.data.length ≤ 20) (rs : List Rec) : ∀ k, k ≤ rs.length → (eW l (rs.take k)).2.length ≤ 40 * k
 | 0, _ => by simp [eW]
 | k + 1, h => by
   rw [vM h]
   have ih := yE hb rs k (by omega)
   unfold jC
   split
   ·omega
   ·have a1 := hU hb (fold (bA rs[k].kind rs[k].data).1) 1
    have a2 := hU hb (fold (bA rs[k].kind rs[k].data).1) 28
    simp only [List.length_append]
    omega
def sO (ns : List (List UInt8)) : List (Value × Value) := ns.map fun n => (aI n, .bool true)
theorem JP {ns : List (List UInt8)} {n : List UInt8} {i : Nat} {v : Value} (h : (sO ns)[i]? = some (aI n, v)) : n ∈ ns ∧ v = .bool true := by
 rw [sO, List.getElem?_map] at h
 cases hi : ns[i]? with
 | none => rw [hi] at h; cases h
 | some m =>
  rw [hi] at h
  simp only [Option.map_some, Option.some.injEq, Prod.mk.injEq, aI, Value.string.injEq, ByteArray.mk.injEq] at h
  have : m = n := by simpa using h.1
  exact ⟨this ▸ List.mem_of_getElem? hi, h.2.symm⟩
theorem LP {ns : List (List UInt8)} {n : List UInt8} (h : ∀ (i : Nat) (e : Value × Value), (sO ns)[i]? = some e → e.1 ≠ aI n) : n ∉ ns := by
 intro hm
 obtain ⟨i, hi, rfl⟩ := List.mem_iff_getElem.1 hm
 exact h i (aI ns[i], .bool true) (by simp [sO, hi]) rfl
theorem NF : WideMaps.KeyLaw Tryz.prog 47 := WideMaps.string_law Tryz.underlying47
theorem LQ (n : List UInt8) (hn : n.length ≤ 1000000) : ∃ l, keyOf Tryz.prog 47 (aI n) = some l :=
 ⟨_, WideMaps.keyOf_string_mk Tryz.underlying47 (by rw [eJ]; unfold maxLen; omega)⟩
def qJ (l : List RSet) (n : List UInt8) (j : Nat) : List Rec := ((([1, 28] : List Int).take j).map fun k => fP (cC l n k)).flatten
theorem JQ (l : List RSet) (n : List UInt8) : qJ l n 2 = fP (cC l n 1) ++ fP (cC l n 28) := by simp [qJ]
set_option maxHeartbeats 8000000 in
theorem ER (o : List UInt8) (v u : Value) (l : List RSet) (rs : List Rec) (w : World) (hv : SetsAt w v l) (hu : Sl 4 w u (aR rs)) (hz : ZoneOk o l) (hr : rs.length ≤ 10000) (hd : ∀ r ∈ rs, r.data.length ≤ 9223372036854775807) :
 Calls Tryz.prog 68 #[.agg #[aI o, v], u] w (sX w fun r w' => Own w.heap.size 4 106 w' r (aR (DG l rs))) := by
 have hb20 : ∀ s ∈ l, s.data.length ≤ 20 := fun s hs => (mZ (hz.may hs)).2
 have hb := rF hz
 have hle := bD rs
 go_enter Tryz.func68, Tryz.ntmps68
 repeat' (first | ((with_reducible refine aJ ?_); go_step) | fail)
 refine bU (vs := [aI o, v]) rfl rfl ?_
 intro p w1 x1 hp
 refine aA ?_
 (repeat' first | ((with_reducible refine aJ ?_); go_step) | ((with_reducible refine aH ?_); first | refine bQ ?_ | (refine aK ?_ ?_ <;> intro hc)) | fail)
 refine mN (kt := 47) rfl ?_
 intro w2 x2 s2 hm2
 refine aA ?_
 (repeat' first | ((with_reducible refine aJ ?_); go_step) | ((with_reducible refine aH ?_); first | refine bQ ?_ | (refine aK ?_ ?_ <;> intro hc)) | fail)
 go_loopw [5, 8, 9, 10, 12, 13, 14, 18] (fun out _ _ _ _ _ _ i wr => ∃ k : Nat, k ≤ rs.length ∧ i = .int .i64 k ∧ Ext w1 wr ∧ MapAt Tryz.prog 47 wr w1.heap.size (sO (eW l (rs.take k)).1) ∧ Own w1.heap.size 4 106 wr out (aR (eW l (rs.take k)).2)) (fun _ _ _ _ _ _ _ i _ => rs.length - (intOf i).toNat)
 case atStart => exact ⟨0, Nat.zero_le _, rfl, x2, hm2, Own.nil _ _ _ _⟩
 case round =>
  obtain ⟨k, hk, rfl, hx, hm, ho⟩ := hrel
  have hur := (hu.ext x1).ext hx
  by_cases hlt : k < rs.length
  ·have h4 := hur.elem (jB hlt)
   (repeat' first | ((with_reducible refine aJ ?_); go_step) | ((with_reducible refine aH ?_); first | refine bQ ?_ | (refine aK ?_ ?_ <;> intro hc)) | fail)
   refine aN (z := LM) rfl (by decide +kernel) ?_
   intro w3 x3 s3 h3
   refine aA ?_
   refine aG (v := .agg #[aI rs[k].name, .int .i64 rs[k].kind, .int .i64 rs[k].ttl, aI rs[k].data]) rfl rfl rfl h3 (show aZ Tryz.prog 106 4 = true by decide +kernel) rfl (iV rfl rfl rfl rfl) ?_
   intro w4 p4
   have x4 : Ext wr w4 := x3.move p4.mv (by rintro k ⟨⟩; exact Nat.le_refl _)
   have h4' := aD (cs := [aI rs[k].name, .int .i64 rs[k].kind, .int .i64 rs[k].ttl, aI rs[k].data]) p4.this
   have hx4 := hx.trans x4
   have hm4 := hm.at (fun o ho => x4.at ho)
   have ho4 := ho.ext x4
   clear p4 h3 x3
   (repeat' first | ((with_reducible refine aJ ?_); go_step) | ((with_reducible refine aH ?_); first | refine bQ ?_ | (refine aK ?_ ?_ <;> intro hc)) | fail)
   refine aE (enters_of Tryz.func105 rfl rfl) rfl rfl (QP rs[k].kind rs[k].data _ (hd _ (List.getElem_mem hlt))) ?_; intro w5 x5; refine aA ?_
   have h5 := h4'.ext x5
   (repeat' first | ((with_reducible refine aJ ?_); go_step) | ((with_reducible refine aH ?_); first | refine bQ ?_ | (refine aK ?_ ?_ <;> intro hc)) | fail)
   refine aE (enters_of Tryz.func32 rfl rfl) rfl rfl (IK (bA rs[k].kind rs[k].data).1 _) ?_; intro w6 x6; refine aA ?_
   have h6 := h5.ext x6
   have x46 := x5.trans x6
   have hx6 := hx4.trans x46
   have hm6 := hm4.at (fun o ho => x46.at ho)
   have ho6 := ho4.ext x46
   have hst := vM (l := l) hlt
   have hlen := JO rs[k].kind rs[k].data
   have hol := yE hb20 rs k hk
   generalize hnn : fold (bA rs[k].kind rs[k].data).1 = n at *
   by_cases hg : (bA rs[k].kind rs[k].data).2 = 0 ∧ EQ rs[k].kind = true
   ·(repeat' first | ((with_reducible refine aJ ?_); go_step) | ((with_reducible refine aH ?_); first | refine bQ ?_ | (refine aK ?_ ?_ <;> intro hc)) | fail)
    all_goals first
     | (exfalso; clear hx hm ho hur h4 h4' h5 h6 hx4 hm4 ho4 hx6 hm6 ho6 hv hu hp hm2 hb hb20 hd hz hst; simp_all [EQ]; done)
     | skip
    all_goals
     obtain ⟨lx, hlx⟩ := LQ n (by omega)
     have hzv : ∀ w, (zeroValue 4).run Tryz.prog w = .ok (.bool false) w := fun w => by kernel_rfl
     obtain ⟨bv, bb, hrl, hcase⟩ := gJ NF (show mM Tryz.prog 182 47 4 = true by decide +kernel) hzv hm6 hlx false
     simp only [Bool.false_eq_true, if_false] at hrl
     refine cT rfl (Runs.lookup rfl rfl hrl) ?_
     refine aA ?_
     rcases hcase with ⟨i, hie, rfl⟩ | ⟨hno, rfl, rfl⟩
     ·obtain ⟨hin, rfl⟩ := JP hie
      have hst' : eW l (rs.take (k + 1)) = eW l (rs.take k) := by rw [hst, jC, hnn, if_pos (.inr (.inr hin))]
      (repeat' first | ((with_reducible refine aJ ?_); go_step) | ((with_reducible refine aH ?_); first | refine bQ ?_ | (refine aK ?_ ?_ <;> intro hc)) | fail)
      exact ⟨⟨k + 1, by omega, by go_num, hx6, by rw [hst']; exact hm6, by rw [hst']; exact ho6⟩, by simp [intOf]; omega⟩
     ·have hni := LP hno
      have hst' : eW l (rs.take (k + 1)) = ((eW l (rs.take k)).1 ++ [n], (eW l (rs.take k)).2 ++ qJ l n 2) := by
       rw [hst, jC, hnn, if_neg (by rintro (h | h | h); exact h hg.1; rw [hg.2] at h; cases h; exact hni h), JQ, List.append_assoc]
      (repeat' first | ((with_reducible refine aJ ?_); go_step) | ((with_reducible refine aH ?_); first | refine bQ ?_ | (refine aK ?_ ?_ <;> intro hc)) | fail)
      obtain ⟨w7, o7, hr7, p7, hm7⟩ := jG NF (show mM Tryz.prog 182 47 4 = true by decide +kernel) hm6 hlx (v := .bool true) hno
      refine kH rfl rfl rfl rfl hr7 ?_
      have hx7 : Ext w1 w7 := hx6.move p7.mv (by rintro k ⟨⟩; exact Nat.le_refl _)
      obtain ⟨es, ck, hme, _⟩ := hm6.out
      have ho7 := ho6.mv p7.mv (.inr (ho6.neMap hme))
      have hm7' : MapAt Tryz.prog 47 w7 w1.heap.size (sO ((eW l (rs.take k)).1 ++ [n])) := by simpa [sO] using hm7
      (repeat' first | ((with_reducible refine aJ ?_); go_step) | ((with_reducible refine aH ?_); first | refine bQ ?_ | (refine aK ?_ ?_ <;> intro hc)) | fail)
      refine bT (e := 3) (k := 1) (bytes := 8) (xs := [.int .i64 1, .int .i64 28]) rfl rfl rfl (by simp [Value.cells]) (by decide +kernel) (by simp) ?_
      intro v8 w8 x8 _ sl8 o8
      refine aA ?_
      have o8' : Own w1.heap.size 1 3 w8 v8 [[.int .i64 1], [.int .i64 28]] := (show Own _ 1 3 w8 v8 [[.int .i64 1], [.int .i64 28]] from o8).weaken hx7.size
      have hx8 := hx7.trans x8
      have hm8 := hm7'.at (fun o ho => x8.at ho)
      have ho8 := ho7.ext x8
      have sl8' := o8'.sl
      (repeat' first | ((with_reducible refine aJ ?_); go_step) | ((with_reducible refine aH ?_); first | refine bQ ?_ | (refine aK ?_ ?_ <;> intro hc)) | fail)
      clear sl8 sl8' hm7 hme o8 hm6 ho6 hx6 hm4 ho4 hm ho h4 h4' h5 h6 hrl hno
      go_loopw [5, 12, 13, 14, 58] (fun out _ _ _ i wr => ∃ j : Nat, j ≤ 2 ∧ i = .int .i64 j ∧ Ext w1 wr ∧ MapAt Tryz.prog 47 wr w1.heap.size (sO ((eW l (rs.take k)).1 ++ [n])) ∧ Own w1.heap.size 4 106 wr out (aR ((eW l (rs.take k)).2 ++ qJ l n j)) ∧ Own w1.heap.size 1 3 wr v8 [[.int .i64 1], [.int .i64 28]]) (fun _ _ _ _ i _ => 2 - (intOf i).toNat)
      case atStart => exact ⟨0, by omega, rfl, hx8, hm8, by simpa [qJ] using ho8, o8'⟩
      case round =>
       obtain ⟨j, hj, rfl, hxr, hmr, hor, h8r⟩ := hrel
       have s8r := h8r.sl
       by_cases hj2 : j < 2
       ·obtain ⟨K, hK, hfam⟩ : ∃ K : Int, ([[.int .i64 1], [.int .i64 28]] : List (List Value))[j]? = some [.int .i64 K] ∧ qJ l n (j + 1) = qJ l n j ++ fP (cC l n K) := by
         rcases (show j = 0 ∨ j = 1 by omega) with rfl | rfl
         ·exact ⟨1, rfl, by simp [qJ]⟩
         ·exact ⟨28, rfl, by simp [qJ]⟩
        have hel := s8r.elem hK
        have hpr := hp.ext hxr
        have hvr := (hv.ext x1).ext hxr
        have hfl := hU hb20 n 1
        have hfl2 : (qJ l n j).length ≤ 40 := by
         rcases (show j = 0 ∨ j = 1 by omega) with rfl | rfl
         ·simp [qJ]
         ·simp [qJ]; omega
        have hfl3 := hU hb20 n K
        (repeat' first | ((with_reducible refine aJ ?_); go_step) | ((with_reducible refine aH ?_); first | refine bQ ?_ | (refine aK ?_ ?_ <;> intro hc)) | fail)
        rotate_left 1
        ·exfalso
         have hq : (([[.int .i64 1], [.int .i64 28]] : List (List Value)).length : Int) ≤ j := by assumption
         simp at hq
         omega
        refine aT (enters_of Tryz.func112 rfl rfl) rfl rfl (PC v l n K _ hvr (fun s hs => by have := hb s hs; omega)) ?_
        intro r9 w9 x9 hr9
        obtain ⟨y9, rfl, hy9⟩ := qE hr9
        clear hr9
        (repeat' first | ((with_reducible refine aJ ?_); go_step) | ((with_reducible refine aH ?_); first | refine bQ ?_ | (refine aK ?_ ?_ <;> intro hc)) | fail)
        refine aN (z := mS) rfl (by decide +kernel) ?_
        intro w10 x10 s10 h10
        refine aA ?_
        refine aG (v := .agg #[aI ((cC l n K).getD eA).name, .int .i64 ((cC l n K).getD eA).kind, .int .i64 ((cC l n K).getD eA).ttl, y9]) rfl rfl rfl h10 (show aZ Tryz.prog 131 4 = true by decide +kernel) rfl (iV rfl rfl rfl hy9.one) ?_
        intro w11 p11
        have x11 : Ext w9 w11 := x10.move p11.mv (by rintro k ⟨⟩; exact Nat.le_refl _)
        have h11 := aD (cs := [aI ((cC l n K).getD eA).name, .int .i64 ((cC l n K).getD eA).kind, .int .i64 ((cC l n K).getD eA).ttl, y9]) p11.this
        have y11 := hy9.ext x11
        have xr11 := x9.trans x11
        have hx11 := hxr.trans xr11
        have hm11 := hmr.at (fun o ho => xr11.at ho)
        have ho11 := hor.ext xr11
        have h8_11 := h8r.ext xr11
        clear p11 h10 x10
        cases hfs : (cC l n K).isSome with
        | false =>
         have e0 : fP (cC l n K) = [] := by
          cases hff : cC l n K with
          | none => rfl
          | some s => rw [hff] at hfs; cases hfs
         (repeat' first | ((with_reducible refine aJ ?_); go_step) | ((with_reducible refine aH ?_); first | refine bQ ?_ | (refine aK ?_ ?_ <;> intro hc)) | fail)
         exact ⟨⟨j + 1, by omega, by go_num, hx11, hm11, by rw [hfam, e0, List.append_nil]; exact ho11, h8_11⟩, by simp [intOf]; omega⟩
        | true =>
         (repeat' first | ((with_reducible refine aJ ?_); go_step) | ((with_reducible refine aH ?_); first | refine bQ ?_ | (refine aK ?_ ?_ <;> intro hc)) | fail)
         refine bT (e := 131) (k := 4) (bytes := 56) (xs := [.agg #[aI ((cC l n K).getD eA).name, .int .i64 ((cC l n K).getD eA).kind, .int .i64 ((cC l n K).getD eA).ttl, y9]]) rfl rfl rfl (by simp [Value.cells]) (by decide +kernel) (by simp) ?_
         intro v12 w12 x12 _ sl12 _
         refine aA ?_
         have hs12 : SetsAt w12 v12 [(cC l n K).getD eA] := (SetsC.one (s := (cC l n K).getD eA) (y11.ext x12)).sets sl12
         (repeat' first | ((with_reducible refine aJ ?_); go_step) | ((with_reducible refine aH ?_); first | refine bQ ?_ | (refine aK ?_ ?_ <;> intro hc)) | fail)
         refine aT (enters_of Tryz.func119 rfl rfl) rfl rfl (PP v12 _ _ hs12 (by rw [← jZ]; omega)) ?_
         intro r13 w13 x13 o13
         rw [← jZ] at o13
         refine aA ?_
         have x1113 := x12.trans x13
         have ho13 := ho11.ext x1113
         have hx13 := hx11.trans x1113
         refine dZ (e := 106) (k := 4) rfl ho13 rfl o13.sl lU hx13.size (by rw [bD, bD, List.length_append]; omega) ?_
         intro v14 w14 o14 m14 _
         refine aA ?_
         have hx14 := ho13.mvx m14 hx13 (Nat.le_refl _)
         have hm13 := hm11.at (fun o ho => x1113.at ho)
         obtain ⟨es', ck', hme', _⟩ := hm13.out
         have hm14 := hm13.at (w' := w14) (fun o ho => m14.at ho (fun e => ho13.neMap hme' e.symm))
         have h8_13 := h8_11.ext x1113
         have h8_14 := h8_13.mv m14 (h8_13.ne ho13 (by decide))
         have hrc : aR ((eW l (rs.take k)).2 ++ qJ l n j) ++ aR (fP (cC l n K)) = aR ((eW l (rs.take k)).2 ++ qJ l n (j + 1)) := by
          rw [hfam]; simp [aR]
         rw [hrc] at o14
         (repeat' first | ((with_reducible refine aJ ?_); go_step) | ((with_reducible refine aH ?_); first | refine bQ ?_ | (refine aK ?_ ?_ <;> intro hc)) | fail)
         exact ⟨⟨j + 1, by omega, by go_num, hx14, hm14, o14, h8_14⟩, by simp [intOf]; omega⟩
       ·have : j = 2 := by omega
        subst this
        (repeat' first | ((with_reducible refine aJ ?_); go_step) | ((with_reducible refine aH ?_); first | refine bQ ?_ | (refine aK ?_ ?_ <;> intro hc)) | fail)
        exact ⟨⟨k + 1, by omega, by go_num, hxr, by rw [hst']; exact hmr, by rw [hst']; exact hor⟩, by simp [intOf]; omega⟩
   ·have hst' : eW l (rs.take (k + 1)) = eW l (rs.take k) := by
     rw [hst, jC]
     rw [if_pos]
     by_cases h0 : (bA rs[k].kind rs[k].data).2 = 0
     ·exact .inr (.inl (by simpa [h0] using hg))
     ·exact .inl h0
    (repeat' first | ((with_reducible refine aJ ?_); go_step) | ((with_reducible refine aH ?_); first | refine bQ ?_ | (refine aK ?_ ?_ <;> intro hc)) | fail)
    all_goals first
     | (exfalso; clear hx hm ho hur h4 h4' h5 h6 hx4 hm4 ho4 hx6 hm6 ho6 hv hu hp hm2 hb hb20 hd hz hst hst'; simp_all [EQ]; done)
     | exact ⟨⟨k + 1, by omega, by go_num, hx6, by rw [hst']; exact hm6, by rw [hst']; exact ho6⟩, by simp [intOf]; omega⟩
  ·have : k = rs.length := by omega
   subst this
   rw [List.take_length] at ho
   (repeat' first | ((with_reducible refine aJ ?_); go_step) | ((with_reducible refine aH ?_); first | refine bQ ?_ | (refine aK ?_ ?_ <;> intro hc)) | fail)
   go_ret
   exact ⟨_, rfl, x1.trans hx, ho.weaken x1.size⟩
theorem LR (s : RSet) (u : Value) (w : World) : Calls Tryz.prog 123 #[.agg #[aI s.name, .int .i64 s.kind, .int .i64 s.ttl, u]] w (bS w (.bool (eU s))) := by
 go_enter Tryz.func123, Tryz.ntmps123
 repeat' (first | ((with_reducible refine aJ ?_); go_step) | fail)
 refine bU (vs := [aI s.name, .int .i64 s.kind, .int .i64 s.ttl, u]) rfl rfl ?_
 intro ps w1 x1 hs
 refine aA ?_
 (repeat' first | ((with_reducible refine aJ ?_); go_step) | ((with_reducible refine aH ?_); first | refine bQ ?_ | (refine aK ?_ ?_ <;> intro hc)) | fail)
 go_ret
 exact ⟨rfl, x1⟩
theorem LS (pk : Value) (k : Int) (s : RSet) (u : Value) (w : World) (hk : Pts w pk [.int .i64 k]) : Calls Tryz.prog 125 #[.agg #[aI s.name, .int .i64 s.kind, .int .i64 s.ttl, u], pk] w (bS w (.bool (!hO k s))) := by
 go_enter Tryz.func125, Tryz.ntmps125
 repeat' (first | ((with_reducible refine aJ ?_); go_step) | fail)
 refine bU (vs := [aI s.name, .int .i64 s.kind, .int .i64 s.ttl, u]) rfl rfl ?_
 intro ps w1 x1 hs
 refine aA ?_
 (repeat' first | ((with_reducible refine aJ ?_); go_step) | ((with_reducible refine aH ?_); first | refine bQ ?_ | (refine aK ?_ ?_ <;> intro hc)) | fail)
 all_goals
  go_ret
  refine ⟨?_, x1⟩
  simp_all [hO]
theorem Pts.take {w : World} {p : Value} {vs : List Value} (h : Pts w p vs) (n : Nat) : Pts w p (vs.take n) := by
 obtain ⟨b, o, e, hc⟩ := h
 refine ⟨b, o, e, fun j x hx => hc j x ?_⟩
 rw [List.getElem?_take] at hx
 split at hx
 ·exact hx
 ·cases hx
def gS (o : List UInt8) (v : Value) (k : Int) (a u e : Value) : List Value := [aI o, v, .int .i64 k, a, u, e]
theorem iY {w : World} {b : Nat} {o : List UInt8} {v a u e : Value} {k : Int} (h : w.heap[b]? = some (.cells (gS o v k a u e).toArray 116 (0, 0))) :
 Pts w (.pointer (some ⟨b, 0, none⟩)) (gS o v k a u e) ∧ Pts w (dC (.pointer (some ⟨b, 0, none⟩)) 0) [aI o, v] ∧ Pts w (dC (.pointer (some ⟨b, 0, none⟩)) 2) [.int .i64 k, a, u, e] := by
 have hp := aD h
 exact ⟨hp, (hp.part 0).take 2, hp.part 2⟩
section
variable {P : Program} {w : World} {ts : List Value} {df : List Deferred} {d : Option Nat} {ty : TypeId} {ps : String} {af : Array Edge} {g : Option (Nat × Bool)}
theorem Runs.fieldA {s : TypeId} {m n off : Nat} {ad : Addr} (hx : ts.getD m undef = .pointer (some ad)) (hf : jR P s n off = true) :
 Runs P (Oper.mk d (.fieldAddr s (.tmp m) n) ty ps af g) (Act.mk ts.toArray df) w (dC (.pointer (some ad)) off) := by
 obtain ⟨fs, f, i, ht, hf, ho, hie, hz⟩ := iU hf
 have hx' : (Act.mk ts.toArray df).eval (.tmp m) = .pointer (some ad) := by rw [eZ]; exact hx
 constructor
 simp [execOp, hx', Instr.fieldAt, Instr.sureAddr, run_underlying ht, hf, fieldPlace, sizeOf, typeInfo, hie, hz, dC, ho]
end
set_option maxHeartbeats 3000000 in
theorem BP (b : Nat) (o : List UInt8) (v : Value) (l : List RSet) (k0 kind : Int) (a : Value) (w0 w : World) (hx : Ext w0 w) (hv : SetsAt w0 v l) (hz : ZoneOk o l) (hbk : w0.heap.size ≤ b)
 (hb : w.heap[b]? = some (.cells (gS o v k0 a (.slice none 0 0) (.slice none 0 0)).toArray 116 (0, 0))) (ha : a.oneCell' = true) :
 Calls Tryz.prog 121 #[.pointer (some ⟨b, 0, none⟩), .int .i64 kind] w fun e w' => e = .returned (.tuple #[]) ∧ Ext w0 w' ∧ Mv (some b) w w' ∧ ∃ u, w'.heap[b]? = some (.cells (gS o v kind a u (.slice none 0 0)).toArray 116 (0, 0)) ∧ Own w.heap.size 4 106 w' u (aR [fI o l]) := by
 obtain ⟨hp, hp0, hp2⟩ := iY hb
 have hvw := hv.ext hx
 have hblt := (Array.getElem?_eq_some_iff.1 hb).1
 go_enter Tryz.func121, Tryz.ntmps121
 (repeat' first | ((with_reducible refine aJ ?_); go_step) | ((with_reducible refine aH ?_); first | refine bQ ?_ | (refine aK ?_ ?_ <;> intro hc)) | fail)
 refine aE (enters_of Tryz.func176 rfl rfl) rfl rfl (JN o v l _ hvw hz) ?_; intro w1 x1; refine aA ?_
 (repeat' first | ((with_reducible refine aJ ?_); go_step) | ((with_reducible refine aH ?_); first | refine bQ ?_ | (refine aK ?_ ?_ <;> intro hc)) | fail)
 refine aN (z := LM) rfl (by decide +kernel) ?_
 intro w2 x2 s2 h2
 refine aA ?_
 refine aG (v := vK (fI o l)) rfl rfl rfl h2 (show aZ Tryz.prog 106 4 = true by decide +kernel) rfl (iV rfl rfl rfl rfl) ?_
 intro w3 p3
 have x3 : Ext w1 w3 := x2.move p3.mv (by rintro k ⟨⟩; exact Nat.le_refl _)
 have h3 := aD (cs := [aI (fI o l).name, .int .i64 (fI o l).kind, .int .i64 (fI o l).ttl, aI (fI o l).data]) p3.this
 have x13 := x1.trans x3
 have hb3 := x13.at hb
 have h3b : w3.heap[w1.heap.size]? = some (.cells [aI (fI o l).name, .int .i64 (fI o l).kind, .int .i64 (fI o l).ttl, aI (fI o l).data].toArray 106 (0, 0)) := p3.this
 clear p3 h2 x2
 have hzb : b ≠ w1.heap.size := by have := x1.size; omega
 (repeat' first | ((with_reducible refine aJ ?_); go_step) | ((with_reducible refine aH ?_); first | refine bQ ?_ | (refine aK ?_ ?_ <;> intro hc)) | fail)
 refine cA 12 (fun w' => Pts w' (.pointer (some ⟨w1.heap.size, 0, none⟩)) [aI (fI o l).name, .int .i64 (fI o l).kind, .int .i64 (fI o l).ttl, aI (fI o l).data]) (by decide +kernel) ?_
 intro w4 x4 _
 refine ⟨h3.ext x4, ?_⟩
 refine CH 0 ?_; refine CH 1 ?_; refine CH 2 ?_
 refine bB (i := 3) (v := vK (fI o l)) rfl rfl (by decide +kernel) (by decide +kernel) (by decide +kernel) (by decide +kernel) (by decide +kernel) rfl (fun w' hF => by exact rn) (fun _ _ _ h => h) ?_
 refine aA ?_
 refine NP 5 ?_
 refine cU (i := 6) rfl rfl rfl (by decide +kernel) (by decide +kernel) (by decide +kernel) rfl (fun _ => Runs.fieldA (off := 2) rfl (by decide +kernel)) (fun _ _ _ h => h) ?_
 refine aA ?_
 refine cU (i := 7) rfl rfl rfl (by decide +kernel) (by decide +kernel) (by decide +kernel) rfl (fun _ => Runs.fieldA (off := 0) rfl (by decide +kernel)) (fun _ _ _ h => h) ?_
 refine aA ?_
 have h4 := x4.at h3b
 have hb4 := x4.at hb3
 have x04 := x13.trans x4
 refine KX (i := 4) (j := 8) (by decide +kernel) rfl rfl rfl ?_ ?_
 ·refine bT (e := 106) (k := 4) (bytes := 48) (xs := [vK (fI o l)]) rfl rfl rfl (by simp [Value.cells, vK]) (by decide +kernel) (by simp) ?_
  intro u5 w5 x5 _ sl5 o5
  refine aA ?_
  have h5 := x5.at h4
  have hb5 := x5.at hb4
  refine aL ⟨bY (aD h5), ?_⟩
  refine bJ (i := 8) (by decide +kernel) rfl rfl ?_
  refine aO (n := 2) hb5 rfl rfl rfl (by simp [gS]) (by decide +kernel) rfl ?_
  intro w6 p6
  have h6 := p6.at h5 (fun e => hzb e.symm)
  have hb6 : w6.heap[b]? = some (.cells (gS o v kind a (.slice none 0 0) (.slice none 0 0)).toArray 116 (0, 0)) := p6.this
  have o6 := (show Own _ 4 106 w5 u5 (aR [fI o l]) from o5).mv p6.mv (.inr (o5.neBlock hb5 (by decide)))
  have m6 : Mv (some b) w w6 := ((x04.trans x5).mv _).trans p6.mv
  have zz := x04.size
  refine aL ⟨bY (aD h6), ?_⟩
  refine NP 9 ?_
  refine cU (i := 10) rfl rfl rfl (by decide +kernel) (by decide +kernel) (by decide +kernel) rfl (fun _ => Runs.fieldA (off := 2) rfl (by decide +kernel)) (fun _ _ _ h => h) ?_
  refine aA ?_
  refine cU (i := 11) rfl rfl rfl (by decide +kernel) (by decide +kernel) (by decide +kernel) rfl (fun _ => Runs.fieldA (off := 2) rfl (by decide +kernel)) (fun _ _ _ h => h) ?_
  refine aA ?_
  refine bJ (i := 12) (by decide +kernel) rfl rfl ?_
  refine aO (n := 4) hb6 rfl rfl rfl (by simp [gS]) (by decide +kernel) o6.sl.one ?_
  intro w7 p7
  refine aL ⟨bZ rfl, ?_⟩
  refine cV (by decide +kernel) ?_
  (repeat' first | ((with_reducible refine aJ ?_); go_step) | ((with_reducible refine aH ?_); first | refine bQ ?_ | (refine aK ?_ ?_ <;> intro hc)) | fail)
  have m7 : Mv (some b) w w7 := m6.trans p7.mv
  refine bodyPost_end (results_none rfl _ _ _) rfl ?_
  exact ⟨rfl, hx.move m7 (by rintro k ⟨⟩; exact hbk), m7, _, p7.this, (o6.mv p7.mv (.inr (o6.neBlock hb6 (by decide)))).weaken zz⟩
 ·refine aO (n := 2) hb4 rfl rfl rfl (by simp [gS]) (by decide +kernel) rfl ?_
  intro w5 p5
  have h5 := p5.at h4 (fun e => hzb e.symm)
  have hb5 : w5.heap[b]? = some (.cells (gS o v kind a (.slice none 0 0) (.slice none 0 0)).toArray 116 (0, 0)) := p5.this
  refine aL ⟨bY (aD h5), ?_⟩
  refine bJ (i := 4) (by decide +kernel) rfl rfl ?_
  refine bT (e := 106) (k := 4) (bytes := 48) (xs := [vK (fI o l)]) rfl rfl rfl (by simp [Value.cells, vK]) (by decide +kernel) (by simp) ?_
  intro u6 w6 x6 _ sl6 o6'
  refine aA ?_
  have h6 := x6.at h5
  have hb6 := x6.at hb5
  have o6 := (show Own _ 4 106 w6 u6 (aR [fI o l]) from o6')
  have m6 : Mv (some b) w w6 := ((x04.mv _).trans p5.mv).trans (x6.mv _)
  have zz : w.heap.size ≤ w5.heap.size := Nat.le_trans x04.size (Nat.le_of_eq p5.size.symm)
  refine aL ⟨bY (aD h6), ?_⟩
  refine NP 9 ?_
  refine cU (i := 10) rfl rfl rfl (by decide +kernel) (by decide +kernel) (by decide +kernel) rfl (fun _ => Runs.fieldA (off := 2) rfl (by decide +kernel)) (fun _ _ _ h => h) ?_
  refine aA ?_
  refine cU (i := 11) rfl rfl rfl (by decide +kernel) (by decide +kernel) (by decide +kernel) rfl (fun _ => Runs.fieldA (off := 2) rfl (by decide +kernel)) (fun _ _ _ h => h) ?_
  refine aA ?_
  refine bJ (i := 12) (by decide +kernel) rfl rfl ?_
  refine aO (n := 4) hb6 rfl rfl rfl (by simp [gS]) (by decide +kernel) o6.sl.one ?_
  intro w7 p7
  refine aL ⟨bZ rfl, ?_⟩
  refine cV (by decide +kernel) ?_
  (repeat' first | ((with_reducible refine aJ ?_); go_step) | ((with_reducible refine aH ?_); first | refine bQ ?_ | (refine aK ?_ ?_ <;> intro hc)) | fail)
  have m7 : Mv (some b) w w7 := m6.trans p7.mv
  refine bodyPost_end (results_none rfl _ _ _) rfl ?_
  exact ⟨rfl, hx.move m7 (by rintro k ⟨⟩; exact hbk), m7, _, p7.this, (o6.mv p7.mv (.inr (o6.neBlock hb6 (by decide)))).weaken zz⟩
theorem GQ {o : List UInt8} {l : List RSet} (h : ZoneOk o l) : wI l [] = true := by
 obtain ⟨s, hs, h1, _⟩ := h.soaSet
 have hm := h.small h1
 refine List.any_eq_true.2 ⟨s, h1, ?_⟩
 have ht := jV (n := s.name)
 rw [hm.2] at ht
 obtain ⟨a, ha⟩ := Option.isSome_iff_exists.1 ht
 have hr : dD [] = some [] := rfl
 rw [kW ha hr]
 simp
theorem DI {l : List RSet} {ls : List (List UInt8)} (h : wI l (enc ls) = true) : kK l ls = ls := by
 cases ls with
 | nil => rfl
 | cons x t => rw [kK, if_pos h]
theorem JR {l : List RSet} {x : List UInt8} {t : List (List UInt8)} (h : wI l (enc (x :: t)) = false) : kK l (x :: t) = kK l t := by
 rw [kK, if_neg (by simp [h])]
theorem BQ {l : List (List UInt8)} : ∀ f ∈ aS l, ∀ u ∈ f, u.oneCell' = true := by
 intro f hf u hu
 obtain ⟨r, _, rfl⟩ := List.mem_map.1 hf
 simp only [List.mem_cons, List.not_mem_nil, or_false] at hu
 subst hu
 rfl
theorem JS (x : List UInt8) (t : List (List UInt8)) : (enc t).length < (enc (x :: t)).length := by simp [enc]; omega
set_option maxHeartbeats 4000000 in
theorem OG (o : List UInt8) (v : Value) (l : List RSet) (n : List UInt8) (w0 w : World) (hx0 : Ext w0 w) (hv0 : SetsAt w0 v l) (hz : ZoneOk o l) (hn : (aX n).isSome = true) :
 Calls Tryz.prog 120 #[.agg #[aI o, v], aI n] w (sX w fun r w' => ∃ u css, r = .tuple #[u, .bool (yC l n)] ∧ Own w.heap.size 4 131 w' u css ∧ SetsC w0 css (dH l n)) := by
 have hv := hv0.ext hx0
 have hl := vL hz
 have hex : ∀ (m : List UInt8) (w' : World), SetsAt w' v l → Calls Tryz.prog 173 #[.agg #[aI o, v], aI m] w' (bS w' (.bool (wI l m))) := fun m w' h => JJ o v l m w' h
 obtain ⟨ls0, hls0⟩ := Option.isSome_iff_exists.1 hn
 obtain ⟨f1, f2, f3⟩ := fD hls0
 go_enter Tryz.func120, Tryz.ntmps120
 repeat' (first | ((with_reducible refine aJ ?_); go_step) | fail)
 refine bU (vs := [aI o, v]) rfl rfl ?_
 intro p w1 x1 hp
 refine aA ?_
 have hv1 := hv.ext x1
 (repeat' first | ((with_reducible refine aJ ?_); go_step) | ((with_reducible refine aH ?_); first | refine bQ ?_ | (refine aK ?_ ?_ <;> intro hc)) | fail)
 refine aE (enters_of Tryz.func173 rfl rfl) rfl rfl (hex n _ hv1) ?_; intro w2 x2; refine aA ?_
 have hx2 := x1.trans x2
 have hp2 := hp.ext x2
 have hv2 := hv.ext hx2
 cases hi : wI l n with
 | true =>
  (repeat' first | ((with_reducible refine aJ ?_); go_step) | ((with_reducible refine aH ?_); first | refine bQ ?_ | (refine aK ?_ ?_ <;> intro hc)) | fail)
  refine aT (enters_of Tryz.func174 rfl rfl) rfl rfl (QB o v l n n w0 _ (hx0.trans hx2) hv0 (by omega)) ?_
  intro u w3 x3 ho
  obtain ⟨css, ho, hc⟩ := ho
  (repeat' first | ((with_reducible refine aJ ?_); go_step) | ((with_reducible refine aH ?_); first | refine bQ ?_ | (refine aK ?_ ?_ <;> intro hc)) | fail)
  go_ret2
  exact ⟨_, rfl, hx2.trans x3, u, css, by rw [yC, hi]; rfl, ho.weaken hx2.size, by rw [dH, if_pos hi]; exact hc⟩
 | false =>
  (repeat' first | ((with_reducible refine aJ ?_); go_step) | ((with_reducible refine aH ?_); first | refine bQ ?_ | (refine aK ?_ ?_ <;> intro hc)) | fail)
  go_loopw [6] (fun a wr => ∃ ls : List (List UInt8), a = aI (enc ls) ∧ Ext w2 wr ∧ ls.all gK = true ∧ (enc ls).length ≤ 254 ∧ kK l ls = kK l ls0) (fun a _ => yP a)
  case atStart => exact ⟨ls0, by rw [f2], Ext.refl _, f1, by rw [f2]; exact f3, rfl⟩
  case round =>
   obtain ⟨ls, rfl, hx, g1, g2, g3⟩ := hrel
   have hvr := hv2.ext hx
   have hpr := hp2.ext hx
   (repeat' first | ((with_reducible refine aJ ?_); go_step) | ((with_reducible refine aH ?_); first | refine bQ ?_ | (refine aK ?_ ?_ <;> intro hc)) | fail)
   refine aE (enters_of Tryz.func173 rfl rfl) rfl rfl (hex (enc ls) _ hvr) ?_; intro w4 x4; refine aA ?_
   have hx4 := hx.trans x4
   cases hi4 : wI l (enc ls) with
   | false =>
    cases ls with
    | nil => rw [show enc [] = [] from rfl, GQ hz] at hi4; cases hi4
    | cons x t =>
     (repeat' first | ((with_reducible refine aJ ?_); go_step) | ((with_reducible refine aH ?_); first | refine bQ ?_ | (refine aK ?_ ?_ <;> intro hc)) | fail)
     refine aE (enters_of Tryz.func175 rfl rfl) rfl rfl (JM _ (oJ g1 g2)) ?_; intro w5 x5; refine aA ?_
     (repeat' first | ((with_reducible refine aJ ?_); go_step) | ((with_reducible refine aH ?_); first | refine bQ ?_ | (refine aK ?_ ?_ <;> intro hc)) | fail)
     have ht := JS x t
     exact ⟨⟨t, rfl, hx4.trans x5, by simp at g1; simp; exact g1.2, by omega, by rw [← g3, JR hi4]⟩, by simp [tN]; omega⟩
   | true =>
    have hab : kK l ls = ls := DI hi4
    rw [hab] at g3
    have hp4 := hpr.ext x4
    (repeat' first | ((with_reducible refine aJ ?_); go_step) | ((with_reducible refine aH ?_); first | refine bQ ?_ | (refine aK ?_ ?_ <;> intro hc)) | fail)
    refine bT (e := 9) (k := 1) (bytes := 16) (xs := [aI [42]]) rfl rfl rfl (by simp [aI, Value.cells]) (by decide +kernel) (by simp) ?_
    intro v5 w5 x5 _ sl5 o5
    refine aA ?_
    (repeat' first | ((with_reducible refine aJ ?_); go_step) | ((with_reducible refine aH ?_); first | refine bQ ?_ | (refine aK ?_ ?_ <;> intro hc)) | fail)
    refine aT (enters_of Tryz.func63 rfl rfl) rfl rfl (BO (enc ls) _) ?_
    intro v6 w6 x6 o6
    rw [oJ g1 g2] at o6
    refine aA ?_
    have o5' := (show Own _ 1 9 w5 v5 (aS [[42]]) from o5).ext x6
    have hlen : ls.length ≤ 254 := by have := lK ls; omega
    refine dZ (e := 9) (k := 1) rfl o5' rfl o6.sl BQ (Nat.le_trans x5.size x6.size) (by simp [aS]; omega) ?_
    intro v7 w7 o7 m7 _
    refine aA ?_
    have x7 := o5'.mvx m7 (x5.trans x6) (Nat.le_refl _)
    have hst : yB l n = (nP ([42] :: ls)).getD [] := by rw [yB, hls0, Option.getD_some, ← g3]
    have hv7 := (hvr.ext x4).ext x7
    have hp7 := hp4.ext x7
    have hx7 := hx2.trans (hx4.trans x7)
    (repeat' first | ((with_reducible refine aJ ?_); go_step) | ((with_reducible refine aH ?_); first | refine bQ ?_ | (refine aK ?_ ?_ <;> intro hc)) | fail)
    obtain ⟨e8, c8⟩ : ∃ e : Int, Calls Tryz.prog 71 #[v7] w7 (bS w7 (.tuple #[aI (yB l n), .int .i64 e])) := by
     have h := SN v7 ([42] :: ls) w7 o7.sl (by simp; omega)
     rw [hst]
     cases hj : nP ([42] :: ls) with
     | none => rw [hj] at h; exact ⟨1, h⟩
     | some m => rw [hj] at h; exact ⟨0, h⟩
    refine aE (enters_of Tryz.func71 rfl rfl) rfl rfl (c8) ?_; intro w8 x8; refine aA ?_
    have hv8 := hv7.ext x8
    have hp8 := hp7.ext x8
    have hx8 := hx7.trans x8
    (repeat' first | ((with_reducible refine aJ ?_); go_step) | ((with_reducible refine aH ?_); first | refine bQ ?_ | (refine aK ?_ ?_ <;> intro hc)) | fail)
    refine aT (enters_of Tryz.func174 rfl rfl) rfl rfl (QB o v l (yB l n) n w0 _ (hx0.trans hx8) hv0 (by omega)) ?_
    intro u w9 x9 ho
    obtain ⟨css, ho, hc⟩ := ho
    have su := ho.sl
    have hcl := hc.len
    (repeat' first | ((with_reducible refine aJ ?_); go_step) | ((with_reducible refine aH ?_); first | refine bQ ?_ | (refine aK ?_ ?_ <;> intro hc)) | fail)
    go_ret2
    refine ⟨_, rfl, hx8.trans x9, u, css, ?_, ho.weaken hx8.size, by rw [dH, if_neg (by simp [hi])]; exact hc⟩
    rw [yC, hi, Bool.false_or, ← hcl]
    congr 4
    simp
theorem GR {α : Type} (p : α → Bool) (l : List α) : (∃ (k : Nat) (hk : k < l.length), mH p l = k ∧ p l[k] = true ∧ (l.take k).filter (fun s => !p s) = l.take k) ∨ (mH p l = -1 ∧ l.filter (fun s => !p s) = l) := by
 unfold mH
 cases h : l.findIdx? p with
 | none =>
  rw [List.findIdx?_eq_none_iff] at h
  refine .inr ⟨rfl, ?_⟩
  rw [List.filter_eq_self]
  intro a ha
  simp [h a ha]
 | some k =>
  rw [List.findIdx?_eq_some_iff_getElem] at h
  obtain ⟨hk, h1, h2⟩ := h
  refine .inl ⟨k, hk, rfl, h1, ?_⟩
  rw [List.filter_eq_self]
  intro a ha
  obtain ⟨j, hj, rfl⟩ := List.mem_iff_getElem.1 ha
  have hj' : j < k := by simp at hj; omega
  have := h2 j hj'
  simp only [List.getElem_take]
  simpa using this
theorem SetsC.row {w : World} {css : List (List Value)} {l : List RSet} (h : SetsC w css l) {i : Nat} (hi : i < l.length) : ∃ x, css[i]? = some [aI l[i].name, .int .i64 l[i].kind, .int .i64 l[i].ttl, x] ∧ Sl 1 w x (aS l[i].data) := h.at' i _ (List.getElem?_eq_getElem hi)
set_option maxHeartbeats 4000000 in
theorem zD {B : Nat} (v : Value) (l : List RSet) (css : List (List Value)) (f : FuncId) (caps : Array Value) (p : RSet → Bool) (w0 w : World) (hx0 : Ext w0 w) (hB : w0.heap.size ≤ B) (ho : Own B 4 131 w v css) (hc : SetsC w0 css l) (he : Enters Tryz.prog f) (hf : SetFn w0 f caps l p) :
 Calls Tryz.prog 124 #[v, .func (.func f) #[] caps] w fun e w' => ∃ v' css', e = .returned v' ∧ Own B 4 131 w' v' css' ∧ SetsC w0 css' (l.filter fun s => !p s) ∧ Ext w0 w' := by
 have hcl := hc.len
 have hsv : SetsAt w v l := (hc.ext hx0).sets ho.sl
 have hidx := jX v l f caps p w hsv he (hf.ext hx0)
 go_enter Tryz.func124, Tryz.ntmps124
 (repeat' first | ((with_reducible refine aJ ?_); go_step) | ((with_reducible refine aH ?_); first | refine bQ ?_ | (refine aK ?_ ?_ <;> intro hc)) | fail)
 refine aE (enters_of Tryz.func122 rfl rfl) rfl rfl (hidx) ?_; intro w1 x1; refine aA ?_
 have ho1 := ho.ext x1
 have hx1 := hx0.trans x1
 rcases GR p l with ⟨k, hk, hi, hp, hfil⟩ | ⟨hi, hfil⟩
 ·rw [hi]
  rcases ho.form with ⟨rfl, hn⟩ | ⟨g, cap, rfl, hg, hb, hcap, hcm⟩
  ·rw [hn] at hcl; simp at hcl; omega
  ·(repeat' first | ((with_reducible refine aJ ?_); go_step) | ((with_reducible refine aH ?_); first | refine bQ ?_ | (refine aK ?_ ?_ <;> intro hc)) | fail)
   go_loopw [5, 6, 7] (fun i j _ wr => ∃ (m n : Nat) (cs : List (List Value)), i = .int .i64 m ∧ j = .int .i64 n ∧ m < n ∧ n ≤ l.length ∧ cs.length = css.length ∧ Ext w0 wr ∧ Own B 4 131 wr (.slice (some ⟨g, 0, none⟩) css.length cap) cs ∧ SetsC w0 (cs.take m) ((l.take n).filter fun s => !p s) ∧ cs.drop n = css.drop n) (fun _ j _ _ => l.length - (intOf j).toNat)
   case atStart =>
    refine ⟨k, k + 1, css, rfl, by go_num, by omega, by omega, rfl, hx1, ho1, ?_, rfl⟩
    rw [List.take_succ_eq_append_getElem hk, List.filter_append, hfil]
    simp only [hp, Bool.not_true, List.filter_cons, Bool.false_eq_true, if_false, List.filter_nil, List.append_nil]
    exact hc.take k
   case round =>
    obtain ⟨m, n, cs, rfl, rfl, hmn, hnl, hlen, hx, hor, hkept, hrest⟩ := hrel
    have hsl := hor.sl
    by_cases hlt : n < l.length
    ·obtain ⟨x, hcx, hdx⟩ := hc.row hlt
     have hcs : cs[n]? = some [aI l[n].name, .int .i64 l[n].kind, .int .i64 l[n].ttl, x] := by
      have := congrArg (·[0]?) hrest
      simp only [List.getElem?_drop, Nat.add_zero] at this
      rw [this, hcx]
     have hel := hsl.elem hcs
     (repeat' first | ((with_reducible refine aJ ?_); go_step) | ((with_reducible refine aH ?_); first | refine bQ ?_ | (refine aK ?_ ?_ <;> intro hc)) | fail)
     refine aN (z := mS) rfl (by decide +kernel) ?_
     intro w2 x2 s2 h2
     refine aA ?_
     refine aG (v := .agg #[aI l[n].name, .int .i64 l[n].kind, .int .i64 l[n].ttl, x]) rfl rfl rfl h2 (show aZ Tryz.prog 131 4 = true by decide +kernel) rfl (iV rfl rfl rfl hdx.one) ?_
     intro w3 p3
     have x3 : Ext wr w3 := x2.move p3.mv (by rintro k ⟨⟩; exact Nat.le_refl _)
     have h3 := aD (cs := [aI l[n].name, .int .i64 l[n].kind, .int .i64 l[n].ttl, x]) p3.this
     have hx3 := hx.trans x3
     clear p3 h2 x2
     (repeat' first | ((with_reducible refine aJ ?_); go_step) | ((with_reducible refine aH ?_); first | refine bQ ?_ | (refine aK ?_ ?_ <;> intro hc)) | fail)
     refine eV he rfl rfl rfl (hf _ (List.getElem_mem hlt) x _ hx3 (hdx.ext hx3)) ?_
     rintro e w4 ⟨rfl, x4⟩
     refine ⟨_, rfl, ?_⟩
     refine aA ?_
     have hx4 := hx3.trans x4
     have ho4 := hor.ext (x3.trans x4)
     have hs4 := ho4.sl
     have h4 := h3.ext x4
     have hst : (l.take (n + 1)).filter (fun s => !p s) = (l.take n).filter (fun s => !p s) ++ if p l[n] = true then [] else [l[n]] := by
      rw [List.take_succ_eq_append_getElem hlt, List.filter_append]
      cases hq : p l[n] <;> simp [hq]
     clear hel hsl h3
     cases hpn : p l[n] with
     | true =>
      rw [hpn, if_pos rfl, List.append_nil] at hst
      (repeat' first | ((with_reducible refine aJ ?_); go_step) | ((with_reducible refine aH ?_); first | refine bQ ?_ | (refine aK ?_ ?_ <;> intro hc)) | fail)
      exact ⟨⟨m, n + 1, cs, rfl, by go_num, by omega, by omega, hlen, hx4, ho4, by rw [hst]; exact hkept, by rw [← List.drop_drop, hrest, List.drop_drop]⟩, by simp [intOf]; omega⟩
     | false =>
      rw [hpn, if_neg (by simp)] at hst
      (repeat' first | ((with_reducible refine aJ ?_); go_step) | ((with_reducible refine aH ?_); first | refine bQ ?_ | (refine aK ?_ ?_ <;> intro hc)) | fail)
      refine tT (i := m) (c := .agg #[aI l[n].name, .int .i64 l[n].kind, .int .i64 l[n].ttl, x]) rfl rfl rfl ho4 (by omega) (by simp [Value.cells]) (show aZ Tryz.prog 131 4 = true by decide +kernel) (iV rfl rfl rfl hdx.one) ?_
      intro w5 o5 m5
      have x5 : Ext w0 w5 := ho4.mvx m5 hx4 hB
      (repeat' first | ((with_reducible refine aJ ?_); go_step) | ((with_reducible refine aH ?_); first | refine bQ ?_ | (refine aK ?_ ?_ <;> intro hc)) | fail)
      refine ⟨⟨m + 1, n + 1, _, by go_num, by go_num, by omega, by omega, by rw [List.length_set]; exact hlen, x5, o5, ?_, ?_⟩, by simp [intOf]; omega⟩
      ·rw [hst]
       have e : (cs.set m [aI l[n].name, .int .i64 l[n].kind, .int .i64 l[n].ttl, x]).take (m + 1) = cs.take m ++ [[aI l[n].name, .int .i64 l[n].kind, .int .i64 l[n].ttl, x]] := by
        rw [List.take_succ_eq_append_getElem (by rw [List.length_set]; omega), List.take_set_of_le (Nat.le_refl _)]
        simp
       exact e ▸ hkept.append (SetsC.one hdx)
      ·rw [List.drop_set_of_lt (by omega), ← List.drop_drop, hrest, List.drop_drop]
    ·have : n = l.length := by omega
     subst this
     rw [List.take_length] at hkept
     rw [← hlen] at hor
     have hml : (cs.take m).length = m := by rw [List.length_take]; omega
     have hkl := hkept.len
     (repeat' first | ((with_reducible refine aJ ?_); go_step) | ((with_reducible refine aH ?_); first | refine bQ ?_ | (refine aK ?_ ?_ <;> intro hc)) | fail)
     have e38 : eG (.slice (some ⟨g, 0, none⟩) css.length cap) 4 m cs.length = .slice (some ⟨g, m * 4, none⟩) (cs.length - m) (cap - m) := by
      unfold eG
      simp only [if_neg (show ¬ cap = m by omega)]
      simp [dB]
     refine CQ (m := m) (z := mS) hor e38 (by omega) ?_
     intro w9 o9 m9
     have x9 : Ext w0 w9 := hor.mvx m9 hx hB
     (repeat' first | ((with_reducible refine aJ ?_); go_step) | ((with_reducible refine aH ?_); first | refine bQ ?_ | (refine aK ?_ ?_ <;> intro hc)) | fail)
     refine aM (Runs.takeC (k := 4) (n := m) (l := css.length) (c := cap) (ad := some ⟨g, 0, none⟩) rfl rfl (by omega) (by decide +kernel)) ?_
     refine aA ?_
     (repeat' first | ((with_reducible refine aJ ?_); go_step) | ((with_reducible refine aH ?_); first | refine bQ ?_ | (refine aK ?_ ?_ <;> intro hc)) | fail)
     go_ret
     have e41 : Value.slice (if cap = 0 then some (⟨g, 0, none⟩ : Addr) else Option.map (fun x : Addr => x.add (0 * 4)) (some (⟨g, 0, none⟩ : Addr))) (m - 0) (cap - 0) = .slice (some ⟨g, 0, none⟩) m cap := by
      simp [dB]
     exact ⟨_, _, rfl, by rw [e41]; exact o9, hkept, x9⟩
 ·rw [hi]
  (repeat' first | ((with_reducible refine aJ ?_); go_step) | ((with_reducible refine aH ?_); first | refine bQ ?_ | (refine aK ?_ ?_ <;> intro hc)) | fail)
  go_ret
  exact ⟨_, _, rfl, ho1, by rw [hfil]; exact hc, hx1⟩
end Go.Proofs.X
