/- Laws and walks that the proof of the statement is made of (part 10). -/
import Derived.Test.YteofaejlmdplhaaGreatP9
set_option linter.unusedSimpArgs false
set_option linter.unusedVariables false
namespace Go.Proofs.X
open Go.RowKit
set_option maxRecDepth 100000
theorem KP {s : RSet} (h : fH s = true) {i : Nat} (hi : i + 1 < s.data.length) : s.data[i] < s.data[i + 1] := by
 simp only [fH, Bool.and_eq_true, List.all_eq_true] at h
 have := h.2 (i + 1) (by simpa using hi)
 simp only [jX, Bool.not_eq_true', Bool.or_eq_false_iff, Bool.and_eq_false_iff, decide_eq_false_iff_not] at this
 have h2 := this.2.resolve_left (by omega)
 have e1 : s.data.getD (i + 1 - 1) [] = s.data[i] := by simp [show i < s.data.length by omega]
 have e2 : s.data.getD (i + 1) [] = s.data[i + 1] := by simp [hi]
 rw [e1, e2] at h2
 exact BZ.1 (by simpa using h2)
theorem vR {s : RSet} (h : fH s = true) (i : Nat) : ∀ j (hij : i < j) (hj : j < s.data.length), s.data[i] < s.data[j]
 | 0, hij, _ => by omega
 | j + 1, hij, hj => by
   have h1 := KP h hj
   by_cases e : i = j
   ·subst e; exact h1
   ·exact Std.lt_trans (vR h i j (by omega) (by omega)) h1
theorem DF {l : List RSet} {r : Rec} (h : r ∈ aL l) : ∃ s ∈ l, ∃ d ∈ s.data, r = fZ s d := by
 simp only [aL, List.mem_flatten, List.mem_map] at h
 obtain ⟨rs, ⟨s, hs, rfl⟩, hr⟩ := h
 simp only [dY, List.mem_map] at hr
 obtain ⟨d, hd, rfl⟩ := hr
 exact ⟨s, hs, d, hd, rfl⟩
def eQ (a b : List Rec) : List Rec := a.filter fun r => !decide (r ∈ b)
structure DeltaR where
 fr : Int
 to : Int
 gone : List Rec
 new : List Rec
 deriving DecidableEq, Inhabited
def KQ : DeltaR := ⟨0, 0, [], []⟩
def rG (oa : List UInt8) (la : List RSet) (ob : List UInt8) (lb : List RSet) : Int :=
 if aQ oa la = 0 then (if aQ ob lb = 0 then (if oa = ob then 0 else 1) else aQ ob lb) else aQ oa la
def qZ (oa : List UInt8) (la : List RSet) (ob : List UInt8) (lb : List RSet) : DeltaR :=
 if rG oa la ob lb = 0 then ⟨(bD oa la).serial, (bD ob lb).serial, eQ (aL la) (aL lb), eQ (aL lb) (aL la)⟩ else KQ
def gP : List Rec → List Rec → Option (List Rec)
 | l, [] => some l
 | l, r :: g => if r ∈ l then gP (l.erase r) g else none
def mM : List Rec → List Rec → Option (List Rec)
 | l, [] => some l
 | l, r :: g => if r ∈ l then none else mM (l ++ [r]) g
def pH (l : List Rec) (d : DeltaR) : Option (List Rec) := (gP l d.gone).bind fun m => mM m d.new
def DG (o : List UInt8) (m : List Rec) (to : Int) : Int :=
 if gC o m = 0 then (if (bD (eA o m) (dF o m)).serial = to ∧ (aL (dF o m)).length = m.length ∧ eQ m (aL (dF o m)) = [] then 0 else 2) else gC o m
def kE (o : List UInt8) (l : List RSet) (d : DeltaR) : Int :=
 if aQ o l = 0 then (if (bD o l).serial = d.fr then (match pH (aL l) d with
  | none => 5
  | some m => DG o m d.to) else 7) else aQ o l
def DH (o : List UInt8) (l : List RSet) (d : DeltaR) : List RSet := if kE o l d = 0 then dF o ((pH (aL l) d).getD []) else []
def xS (o : List UInt8) (l : List RSet) (d : DeltaR) : List UInt8 := if kE o l d = 0 then eA o ((pH (aL l) d).getD []) else []
theorem IA {s : RSet} {d e : List UInt8} (h : fZ s d = fZ s e) : d = e := by simpa [fZ] using h
theorem ZoneOk.nodup {o : List UInt8} {l : List RSet} (h : ZoneOk o l) : (aL l).Nodup := by
 unfold aL List.Nodup
 rw [List.pairwise_flatten]
 constructor
 ·intro rs hrs
  obtain ⟨s, hs, rfl⟩ := List.mem_map.1 hrs
  unfold dY
  rw [List.pairwise_map, List.pairwise_iff_getElem]
  intro i j hi hj hij he
  have h1 := vR (h.may hs) i j hij hj
  rw [IA he] at h1
  exact Std.lt_irrefl h1
 ·rw [List.pairwise_map, List.pairwise_iff_getElem]
  intro i j hi hj hij x hx y hy he
  simp only [dY, List.mem_map] at hx hy
  obtain ⟨d, _, rfl⟩ := hx
  obtain ⟨e, _, rfl⟩ := hy
  simp only [fZ, Rec.mk.injEq] at he
  have h1 := jP h.chk i j hij hj
  rw [he.1, he.2.1] at h1
  have h2 := iJ.refl (l[j].name, l[j].kind)
  simp only at h2
  omega
theorem Ch.same {L M : List Rec} {s : RSet} (h : Ch L s) (hm : ∀ r, r ∈ L ↔ r ∈ M) : Ch M s where
 dat d := by
  rw [h.dat]
  constructor
  ·rintro ⟨r, h1, h2⟩; exact ⟨r, (hm r).1 h1, h2⟩
  ·rintro ⟨r, h1, h2⟩; exact ⟨r, (hm r).2 h1, h2⟩
 ttl := let ⟨r, h1, h2⟩ := h.ttl; ⟨r, (hm r).1 h1, h2⟩
 low r h1 h2 := h.low r ((hm r).2 h1) h2
theorem OE {oa ob : List UInt8} {la lb : List RSet} (h : rG oa la ob lb = 0) : ZoneOk oa la ∧ ZoneOk oa lb ∧ oa = ob ∧ qZ oa la ob lb = ⟨(bD oa la).serial, (bD oa lb).serial, eQ (aL la) (aL lb), eQ (aL lb) (aL la)⟩ := by
 have h0 := h
 unfold rG at h
 split at h
 ·rename_i q1
  split at h
  ·rename_i q2
   split at h
   ·rename_i q3
    subst q3
    exact ⟨eW q1, eW q2, rfl, by rw [qZ, if_pos h0]⟩
   ·cases h
  ·rename_i q2; exact absurd h q2
 ·rename_i q1; exact absurd h q1
def AZ : List Value := [aH [], .int .i64 0, .int .i64 0, aH []]
theorem Runs.eqlRec {r q : Rec} {x y : Operand} {a : Act} {w : World} {d : Option Nat} {u ty : TypeId} {ps : String} {af : Array Edge} {g : Option (Nat × Bool)}
 (hx : a.eval x = .agg #[aH r.name, .int .i64 r.kind, .int .i64 r.ttl, aH r.data]) (hy : a.eval y = .agg #[aH q.name, .int .i64 q.kind, .int .i64 q.ttl, aH q.data]) :
 Runs Tryz.prog (Oper.mk d (.binOp .eql 47 x y u) ty ps af g) a w (.bool (decide (r = q))) := by
 constructor
 have hg := run_eqGuard_agg (P := Tryz.prog) w .eql 47 x y #[aH r.name, .int .i64 r.kind, .int .i64 r.ttl, aH r.data] #[aH q.name, .int .i64 q.kind, .int .i64 q.ttl, aH q.data] (by kernel_rfl)
 simp only [execOp, hx, hy, Sem.run_bind, hg, Result.andThen_ok, run_eql_struct, zB, Sem.run_pure]
theorem rA {l : List Rec} {r : Rec} : l.any (fun q => decide (r = q)) = decide (r ∈ l) := by
 rw [Bool.eq_iff_iff, List.any_eq_true, decide_eq_true_eq]
 constructor
 ·rintro ⟨q, hq, h⟩; rw [decide_eq_true_eq] at h; exact h ▸ hq
 ·intro h; exact ⟨r, h, by simp⟩
set_option maxHeartbeats 3000000 in
theorem GK (v : Value) (l : List Rec) (r : Rec) (w : World) (hv : Sl 4 w v (aC l)) : Calls Tryz.prog 192 #[v, .agg #[aH r.name, .int .i64 r.kind, .int .i64 r.ttl, aH r.data]] w (bC w (.int .i64 (mG (fun q => decide (r = q)) l))) := by
 have hlen := aG l
 have hle := hv.le
 go_enter Tryz.func192, Tryz.ntmps192
 refine_lift rF ?_; intro _ _ _
 refine aT (vs := [aH r.name, .int .i64 r.kind, .int .i64 r.ttl, aH r.data]) rfl rfl ?_
 intro p w1 x1 hp
 refine aA ?_
 have hv1 := hv.ext x1
 refine_lift bS fun _ _ => ?_
 go_loopw [5, 8] (fun _ i wr => ∃ k : Nat, k ≤ l.length ∧ i = .int .i64 k ∧ Ext w1 wr ∧ (l.take k).any (fun q => decide (r = q)) = false) (fun _ i _ => l.length - (intOf i).toNat)
 case atStart => exact ⟨0, Nat.zero_le _, rfl, Ext.refl _, rfl⟩
 case round =>
  obtain ⟨k, hk, rfl, hx, hall⟩ := hrel
  have hv2 := hv1.ext hx
  have hp2 := hp.ext hx
  by_cases hlt : k < l.length
  ·have hpe := hv2.elem (dI hlt)
   refine_lift nX ?_; intro _ _ _ _ _ _
   refine bE (by decide +kernel) (by decide +kernel) ?_
   refine_lift dN ?_
   refine eY (fun w' _ => Runs.eqlRec (r := r) (q := l[k]) rfl rfl) ?_
   refine aA ?_
   refine_lift dN ?_
   intro w2 x2
   cases he : decide (r = l[k]) with
   | true =>
    refine_lift aP ?_
    go_ret
    exact ⟨by rw [rU hlt hall he]; rfl, (x1.trans hx).trans x2⟩
   | false =>
    refine_lift aP ?_
    exact ⟨⟨k + 1, by omega, by go_num, hx.trans x2, fR hlt hall he⟩, by simp [intOf]; omega⟩
  ·have : k = l.length := by omega
   subst this
   rw [List.take_length] at hall
   refine_lift fG fun _ => ?_
   go_ret
   exact ⟨by rw [rV hall]; rfl, x1.trans hx⟩
theorem vS (v : Value) (l : List Rec) (r : Rec) (w : World) (hv : Sl 4 w v (aC l)) : Calls Tryz.prog 153 #[v, .agg #[aH r.name, .int .i64 r.kind, .int .i64 r.ttl, aH r.data]] w (bC w (.bool (decide (r ∈ l)))) := by
 go_enter Tryz.func153, Tryz.ntmps153
 refine_lift gT fun _ _ => ?_
 refine aT (vs := [aH r.name, .int .i64 r.kind, .int .i64 r.ttl, aH r.data]) rfl rfl ?_
 intro p w1 x1 hp
 refine aA ?_
 refine_lift bS fun _ _ => ?_
 refine aB (enters_of Tryz.func192 rfl rfl) rfl rfl (GK v l r _ (hv.ext x1)) ?_; intro w2 x2; refine aA ?_
 refine_lift aP ?_
 go_ret
 exact ⟨by rw [← rA, ← qU]; rfl, x1.trans x2⟩
set_option maxHeartbeats 3000000 in
theorem MZ (v : Value) (l : List Rec) (r : Rec) (w : World) (hv : Sl 4 w v (aC l)) : Calls Tryz.prog 158 #[v, .agg #[aH r.name, .int .i64 r.kind, .int .i64 r.ttl, aH r.data]] w (bC w (.bool (decide (r ∈ l)))) := by
 have hlen := aG l
 have hle := hv.le
 go_enter Tryz.func158, Tryz.ntmps158
 refine_lift gT fun _ _ => ?_
 refine aT (vs := [aH r.name, .int .i64 r.kind, .int .i64 r.ttl, aH r.data]) rfl rfl ?_
 intro p w1 x1 hp
 refine aA ?_
 have hv1 := hv.ext x1
 refine_lift bS fun _ _ => ?_
 go_loopw [5] (fun i wr => ∃ k : Nat, k ≤ l.length ∧ i = .int .i64 k ∧ Ext w1 wr ∧ (l.take k).any (fun q => decide (r = q)) = false) (fun i _ => l.length - (intOf i).toNat)
 case atStart => exact ⟨0, Nat.zero_le _, rfl, Ext.refl _, rfl⟩
 case round =>
  obtain ⟨k, hk, rfl, hx, hall⟩ := hrel
  have hv2 := hv1.ext hx
  have hp2 := hp.ext hx
  by_cases hlt : k < l.length
  ·have hpe := hv2.elem (dI hlt)
   refine_lift nX ?_; intro _ _ _ _ _ _
   refine bE (by decide +kernel) (by decide +kernel) ?_
   refine_lift dN ?_
   refine eY (fun w' _ => Runs.eqlRec (r := l[k]) (q := r) rfl rfl) ?_
   refine aA ?_
   refine_lift dN ?_
   intro w2 x2
   have hsw : decide (l[k] = r) = decide (r = l[k]) := by rw [Bool.eq_iff_iff]; simp [eq_comm]
   rw [hsw]
   cases he : decide (r = l[k]) with
   | true =>
    refine_lift aP ?_
    go_ret
    exact ⟨by rw [← rA, AP hlt he]; rfl, (x1.trans hx).trans x2⟩
   | false =>
    refine_lift aP ?_
    exact ⟨⟨k + 1, by omega, by go_num, hx.trans x2, fR hlt hall he⟩, by simp [intOf]; omega⟩
  ·have : k = l.length := by omega
   subst this
   rw [List.take_length] at hall
   refine_lift fG fun _ => ?_
   go_ret
   exact ⟨by rw [← rA, hall]; rfl, x1.trans hx⟩
theorem zP {a b : List Rec} {k : Nat} (h : k < a.length) : eQ (a.take (k + 1)) b = eQ (a.take k) b ++ (if a[k] ∈ b then [] else [a[k]]) := by
 unfold eQ
 rw [List.take_succ_eq_append_getElem h, List.filter_append]
 congr 1
 by_cases hm : a[k] ∈ b <;> simp [hm]
theorem DI (a b : List Rec) : (eQ a b).length ≤ a.length := List.length_filter_le _ _
theorem iV {ts : List Value} {df : List Deferred} {x : Operand} {r : Rec} (h : (Act.mk ts.toArray df).eval x = .agg #[aH r.name, .int .i64 r.kind, .int .i64 r.ttl, aH r.data]) : ElemIs (Act.mk ts.toArray df) x 4 [aH r.name, .int .i64 r.kind, .int .i64 r.ttl, aH r.data] :=
 ⟨h, rfl, rfl, by intro u hu; simp only [List.mem_cons, List.not_mem_nil, or_false] at hu; rcases hu with rfl | rfl | rfl | rfl <;> rfl⟩
set_option maxHeartbeats 3000000 in
theorem FG (u v : Value) (a b : List Rec) (w : World) (hu : Sl 4 w u (aC a)) (hv : Sl 4 w v (aC b)) (hl : a.length ≤ 100000) : Calls Tryz.prog 97 #[u, v] w (jK w fun r w' => Own w.heap.size 4 47 w' r (aC (eQ a b))) := by
 have hlen := aG a
 go_enter Tryz.func97, Tryz.ntmps97
 refine_lift kT ?_; intro _ _ _
 go_loopw [5, 7, 10] (fun o _ i wr => ∃ k : Nat, k ≤ a.length ∧ i = .int .i64 k ∧ Ext w wr ∧ Own w.heap.size 4 47 wr o (aC (eQ (a.take k) b))) (fun _ _ i _ => a.length - (intOf i).toNat)
 case atStart => exact ⟨0, Nat.zero_le _, rfl, Ext.refl _, by simpa [eQ, aC] using Own.nil _ _ _ _⟩
 case round =>
  obtain ⟨k, hk, rfl, hx, ho⟩ := hrel
  have hu2 := hu.ext hx
  by_cases hlt : k < a.length
  ·have hpe := hu2.elem (dI hlt)
   have hst := zP (b := b) hlt
   have hll := DI (a.take k) b
   rw [List.length_take] at hll
   have hcl := aG (eQ (a.take k) b)
   refine_lift nX ?_; intro _ _ _ _ _ _
   refine aF (z := AZ) rfl (by decide +kernel) ?_
   intro w2 x2 s2 h2
   refine aA ?_
   refine aD (v := .agg #[aH a[k].name, .int .i64 a[k].kind, .int .i64 a[k].ttl, aH a[k].data]) rfl rfl rfl h2 (show aO Tryz.prog 47 4 = true by decide +kernel) rfl (fU rfl rfl rfl rfl) ?_
   intro w3 p3
   have x3 : Ext wr w3 := x2.move p3.mv (by rintro k ⟨⟩; exact Nat.le_refl _)
   have hp3 := aE (cs := [aH a[k].name, .int .i64 a[k].kind, .int .i64 a[k].ttl, aH a[k].data]) p3.this
   have hx3 := hx.trans x3
   have ho3 := ho.ext x3
   clear p3 h2 x2
   refine_lift bS fun _ _ => ?_
   refine aB (enters_of Tryz.func153 rfl rfl) rfl rfl (vS v b a[k] _ (hv.ext hx3)) ?_; intro w4 x4; refine aA ?_
   have hx4 := hx3.trans x4
   have ho4 := ho3.ext x4
   have hp4 := hp3.ext x4
   by_cases hm : a[k] ∈ b
   ·rw [decide_eq_true hm]
    rw [if_pos hm, List.append_nil] at hst
    refine_lift aP ?_
    exact ⟨⟨k + 1, by omega, by go_num, hx4, by rw [hst]; exact ho4⟩, by simp [intOf]; omega⟩
   ·rw [decide_eq_false hm]
    rw [if_neg hm] at hst
    refine_lift aP ?_
    refine JE [aH a[k].name, .int .i64 a[k].kind, .int .i64 a[k].ttl, aH a[k].data] hx4 ho4 (by omega) ?_ (iV rfl)
    intro s5 v5 w5 w6 x5 m6 x6 o6
    refine aA ?_
    refine_lift aP ?_
    refine ⟨⟨k + 1, by omega, by go_num, x6, ?_⟩, by simp [intOf]; omega⟩
    rw [hst]
    simpa [aC, Rec.cells] using o6
  ·have : k = a.length := by omega
   subst this
   rw [List.take_length] at ho
   refine_lift fG fun _ => ?_
   go_ret
   exact ⟨_, rfl, hx, ho⟩
set_option maxHeartbeats 3000000 in
theorem DJ (u v : Value) (a b : List Rec) (w : World) (hu : Sl 4 w u (aC a)) (hv : Sl 4 w v (aC b)) (hl : a.length ≤ 100000) : Calls Tryz.prog 100 #[u, v] w (jK w fun r w' => Own w.heap.size 4 47 w' r (aC (eQ a b))) := by
 have hlen := aG a
 go_enter Tryz.func100, Tryz.ntmps100
 refine_lift kT ?_; intro _ _ _
 go_loopw [5, 6] (fun o i wr => ∃ k : Nat, k ≤ a.length ∧ i = .int .i64 k ∧ Ext w wr ∧ Own w.heap.size 4 47 wr o (aC (eQ (a.take k) b))) (fun _ i _ => a.length - (intOf i).toNat)
 case atStart => exact ⟨0, Nat.zero_le _, rfl, Ext.refl _, by simpa [eQ, aC] using Own.nil _ _ _ _⟩
 case round =>
  obtain ⟨k, hk, rfl, hx, ho⟩ := hrel
  have hu2 := hu.ext hx
  by_cases hlt : k < a.length
  ·have hpe := hu2.elem (dI hlt)
   have hst := zP (b := b) hlt
   have hll := DI (a.take k) b
   rw [List.length_take] at hll
   have hcl := aG (eQ (a.take k) b)
   refine_lift nX ?_; intro _ _ _ _ _ _
   refine aB (enters_of Tryz.func158 rfl rfl) rfl rfl (MZ v b a[k] _ (hv.ext hx)) ?_; intro w4 x4; refine aA ?_
   have hx4 := hx.trans x4
   have ho4 := ho.ext x4
   have hu4 := hu2.ext x4
   have hpe4 := hpe.ext x4
   by_cases hm : a[k] ∈ b
   ·rw [decide_eq_true hm]
    rw [if_pos hm, List.append_nil] at hst
    refine_lift aP ?_
    exact ⟨⟨k + 1, by omega, by go_num, hx4, by rw [hst]; exact ho4⟩, by simp [intOf]; omega⟩
   ·rw [decide_eq_false hm]
    rw [if_neg hm] at hst
    refine_lift aP ?_
    refine JE [aH a[k].name, .int .i64 a[k].kind, .int .i64 a[k].ttl, aH a[k].data] hx4 ho4 (by omega) ?_ (iV rfl)
    intro s5 v5 w5 w6 x5 m6 x6 o6
    refine aA ?_
    refine_lift aP ?_
    refine ⟨⟨k + 1, by omega, by go_num, x6, ?_⟩, by simp [intOf]; omega⟩
    rw [hst]
    simpa [aC, Rec.cells] using o6
  ·have : k = a.length := by omega
   subst this
   rw [List.take_length] at ho
   refine_lift fG fun _ => ?_
   go_ret
   exact ⟨_, rfl, hx, ho⟩
set_option maxHeartbeats 3000000 in
theorem nM (v : Value) (l : List Rec) (w : World) (hv : Sl 4 w v (aC l)) (hl : l.length ≤ 1000000) : Calls Tryz.prog 52 #[v] w (jK w fun v' w' => Own w.heap.size 4 47 w' v' (aC l)) := by
 have hlen := aG l
 go_enter Tryz.func52, Tryz.ntmps52
 (repeat' first | ((with_reducible refine cI ?_); go_step) | ((with_reducible refine bJ ?_); first | refine fD ?_ | (refine cZ ?_ ?_ <;> intro hc)) | fail)
 ·have hn := ‹uB v = true›
  go_ret
  have : aC l = [] := hv.isNil hn
  refine ⟨_, rfl, Ext.refl _, ?_⟩
  rw [this]
  exact Own.nil _ _ _ _
 ·refine jV (t := 31) (e := 47) (k := 4) (bytes := 48) (by decide +kernel) rfl ?_
  intro v2 w2 x2 s2 o2
  refine aA ?_
  refine_lift aP ?_
  refine bW (B := w.heap.size) (e := 47) rfl o2 rfl (hv.ext x2) (by intro f hf u hu; obtain ⟨r, _, rfl⟩ := List.mem_map.1 hf; simp only [Rec.cells, List.mem_cons, List.not_mem_nil, or_false] at hu; rcases hu with rfl | rfl | rfl | rfl <;> rfl) x2.size (by simp; omega) ?_
  intro v3 w3 o3 m3 _
  have x3 := o2.mvx m3 x2 (Nat.le_refl _)
  refine aA ?_
  refine_lift aP ?_
  go_ret
  exact ⟨_, rfl, x3, by simpa using o3⟩
def hY : List Value := [.int .i64 0, .int .i64 0, .slice none 0 0, .slice none 0 0]
def DelA (d : DeltaR) (r : Value) (w : World) : Prop := ∃ g n, r = .agg #[.int .i64 d.fr, .int .i64 d.to, g, n] ∧ Sl 4 w g (aC d.gone) ∧ Sl 4 w n (aC d.new)
def DelO (B : Nat) (d : DeltaR) (r : Value) (w : World) : Prop := ∃ g n, r = .agg #[.int .i64 d.fr, .int .i64 d.to, g, n] ∧ Own B 4 47 w g (aC d.gone) ∧ Own B 4 47 w n (aC d.new)
theorem DelO.a {B : Nat} {d : DeltaR} {r : Value} {w : World} (h : DelO B d r w) : DelA d r w := let ⟨g, n, e, a, b⟩ := h; ⟨g, n, e, a.sl, b.sl⟩
def DelU (B : Nat) (d : DeltaR) (e : Int) (r : Value) (w : World) : Prop := ∃ y, r = .tuple #[y, .int .i64 e] ∧ DelO B d y w
theorem DelU.bad {B : Nat} {d : DeltaR} {e : Int} {w : World} (h : d = KQ) : DelU B d e (.tuple #[.agg hY.toArray, .int .i64 e]) w := by
 subst h
 exact ⟨_, rfl, _, _, rfl, Own.nil _ _ _ _, Own.nil _ _ _ _⟩
theorem oF {oa ob : List UInt8} {la lb : List RSet} (h : rG oa la ob lb ≠ 0) : qZ oa la ob lb = KQ := if_neg h
set_option maxHeartbeats 6000000 in
theorem PJ (oa : List UInt8) (u : Value) (la : List RSet) (ob : List UInt8) (v : Value) (lb : List RSet) (w : World) (hu : SetsAt w u la) (hv : SetsAt w v lb)
 (ba : ∀ s ∈ la, s.data.length ≤ 1000000) (da : ∀ s ∈ la, ∀ d ∈ s.data, d.length ≤ 4611686018427387904) (bb : ∀ s ∈ lb, s.data.length ≤ 1000000) (db : ∀ s ∈ lb, ∀ d ∈ s.data, d.length ≤ 4611686018427387904)
 (h1 : (aL la).length ≤ 100000) (h2 : (aL lb).length ≤ 100000) : Calls Tryz.prog 46 #[.agg #[aH oa, u], .agg #[aH ob, v]] w (jK w (DelU w.heap.size (qZ oa la ob lb) (rG oa la ob lb))) := by
 go_enter Tryz.func46, Tryz.ntmps46
 refine_lift gT fun _ _ => ?_
 refine aT (vs := [aH oa, u]) rfl rfl ?_
 intro p w1 x1 hp
 refine aA ?_
 refine aT (vs := [aH ob, v]) rfl rfl ?_
 intro q w2 x2 hq
 refine aA ?_
 refine aF (z := hY) rfl (by decide +kernel) ?_
 intro w3 x3 s3 h3
 refine aA ?_
 have hx3 := (x1.trans x2).trans x3
 have zz := (x1.trans x2).size
 have hp3 := (hp.ext x2).ext x3
 have hq3 := hq.ext x3
 refine_lift bS fun _ _ => ?_
 refine aB (enters_of Tryz.func31 rfl rfl) rfl rfl (qV oa u la _ (hu.ext hx3) ba da) ?_; intro w4 x4; refine aA ?_
 have hx4 := hx3.trans x4
 refine_lift aP ?_
 refine aF (z := aX) rfl (by decide +kernel) ?_
 intro w5 x5 s5 h5
 refine aA ?_
 refine aD (v := .agg (bD oa la).cells.toArray) rfl rfl rfl h5 (show aO Tryz.prog 67 7 = true by decide +kernel) rfl (dS _) ?_
 intro w6 p6
 have x46 : Ext w4 w6 := x5.move p6.mv (by rintro k ⟨⟩; exact Nat.le_refl _)
 have b6 : w6.heap[w4.heap.size]? = some (.cells (bD oa la).cells.toArray 67 (0, 0)) := p6.this
 have x36 := x4.trans x46
 have hx6 := hx3.trans x36
 clear p6 h5 x5
 have h6 := x36.at h3
 have hp6 := hp3.ext x36
 have hq6 := hq3.ext x36
 refine_lift tK (fun _ _ _ => ?_) (fun _ _ _ _ _ => ?_)
 ·have q0 : ¬ aQ oa la = 0 := by simpa using (by assumption : (!decide (aQ oa la = 0)) = true)
  refine aU (v := .agg hY.toArray) rfl (Runs.build0 (by kernel_rfl)) ?_
  refine aA ?_
  refine_lift aP ?_
  refine aD (v := .agg hY.toArray) rfl rfl rfl h6 (by decide +kernel) rfl (by decide +kernel) ?_
  intro w7 p7
  have x7 : Ext w w7 := hx6.move p7.mv (by rintro k ⟨⟩; exact zz)
  refine_lift aP ?_
  refine bodyPost_ret (aJ (cs := hY) rfl rfl p7.this (by decide +kernel)) rfl ⟨_, rfl, x7, ?_⟩
  have he : rG oa la ob lb = aQ oa la := by rw [rG, if_neg q0]
  rw [oF (by rw [he]; exact q0), he]
  exact DelU.bad rfl
 ·have q0 : aQ oa la = 0 := by simpa using (by assumption : (!decide (aQ oa la = 0)) = false)
  refine aB (enters_of Tryz.func31 rfl rfl) rfl rfl (qV ob v lb _ (hv.ext hx6) bb db) ?_; intro w7 x7; refine aA ?_
  have hx7 := hx6.trans x7
  refine_lift aP ?_
  refine aF (z := aX) rfl (by decide +kernel) ?_
  intro w8 x8 s8 h8
  refine aA ?_
  refine aD (v := .agg (bD ob lb).cells.toArray) rfl rfl rfl h8 (show aO Tryz.prog 67 7 = true by decide +kernel) rfl (dS _) ?_
  intro w9 p9
  have x79 : Ext w7 w9 := x8.move p9.mv (by rintro k ⟨⟩; exact Nat.le_refl _)
  have c9 : w9.heap[w7.heap.size]? = some (.cells (bD ob lb).cells.toArray 67 (0, 0)) := p9.this
  have x69 := x7.trans x79
  have hx9 := hx6.trans x69
  clear p9 h8 x8
  have h9 := x69.at h6
  have b9 := x69.at b6
  have hp9 := hp6.ext x69
  have hq9 := hq6.ext x69
  refine_lift OB (fun _ _ _ _ _ _ => ?_) (fun _ _ _ _ => ?_) (fun _ _ _ _ _ => ?_)
  ·have q1 : ¬ aQ ob lb = 0 := by simpa using (by assumption : (!decide (aQ ob lb = 0)) = true)
   refine aU (v := .agg hY.toArray) rfl (Runs.build0 (by kernel_rfl)) ?_
   refine aA ?_
   refine_lift aP ?_
   refine aD (v := .agg hY.toArray) rfl rfl rfl h9 (by decide +kernel) rfl (by decide +kernel) ?_
   intro wz pz
   have xz : Ext w wz := hx9.move pz.mv (by rintro k ⟨⟩; exact zz)
   refine_lift aP ?_
   refine bodyPost_ret (aJ (cs := hY) rfl rfl pz.this (by decide +kernel)) rfl ⟨_, rfl, xz, ?_⟩
   have he : rG oa la ob lb = aQ ob lb := by rw [rG, if_pos q0, if_neg q1]
   rw [oF (by rw [he]; exact q1), he]
   exact DelU.bad rfl
  ·have q1 : aQ ob lb = 0 := by simpa using (by assumption : (!decide (aQ ob lb = 0)) = false)
   ·have q2 : ¬ oa = ob := by simpa using (by assumption : (!decide (oa = ob)) = true)
    refine aU (v := .agg hY.toArray) rfl (Runs.build0 (by kernel_rfl)) ?_
    refine aA ?_
    refine_lift aP ?_
    refine aD (v := .agg hY.toArray) rfl rfl rfl h9 (by decide +kernel) rfl (by decide +kernel) ?_
    intro wz pz
    have xz : Ext w wz := hx9.move pz.mv (by rintro k ⟨⟩; exact zz)
    refine_lift aP ?_
    refine bodyPost_ret (aJ (cs := hY) rfl rfl pz.this (by decide +kernel)) rfl ⟨_, rfl, xz, ?_⟩
    have he : rG oa la ob lb = 1 := by rw [rG, if_pos q0, if_pos q1, if_neg q2]
    rw [oF (by rw [he]; decide), he]
    exact DelU.bad rfl
  ·have q1 : aQ ob lb = 0 := by simpa using (by assumption : (!decide (aQ ob lb = 0)) = false)
   have q2 : oa = ob := by simpa using (by assumption : (!decide (oa = ob)) = false)
   have he : rG oa la ob lb = 0 := by rw [rG, if_pos q0, if_pos q1, if_pos q2]
   refine cE (S := fun w' => Ext w9 w') (by decide +kernel) ?_
   intro w10 x10 hh10
   refine tk 0 ?_; refine aA ?_; refine tk 1 ?_; refine aA ?_; refine tk 3 ?_; refine aA ?_; refine tk 4 ?_; refine aA ?_
   refine aY (i := 2) (by decide +kernel) rfl rfl ?_
   refine aI (enters_of Tryz.func40 rfl rfl) rfl rfl (RC u la _ (hu.ext (hx9.trans x10)) (by omega)) ?_
   intro r1 w11 x11 o11
   refine aA ?_
   have x911 := x10.trans x11
   refine aK ⟨x911, ?_⟩
   refine aY (i := 5) (by decide +kernel) rfl rfl ?_
   refine aI (enters_of Tryz.func40 rfl rfl) rfl rfl (RC v lb _ (hv.ext (hx9.trans x911)) (by omega)) ?_
   intro r2 w12 x12 o12
   refine aA ?_
   have x912 := x911.trans x12
   refine aK ⟨x912, ?_⟩
   refine tk 6 ?_; refine aA ?_; refine tk 7 ?_; refine aA ?_
   refine cL (by decide +kernel) ?_
   have hx12 := hx9.trans x912
   have h12 := x912.at h9
   have sr1 := (o11.ext x12).sl
   have sr2 := o12.sl
   have pb12 := aE (x912.at b9)
   have pc12 := aE (x912.at c9)
   refine_lift bS fun _ _ => ?_
   refine bT 11 (Ext w12) (by decide +kernel) ?_
   intro w13 x13 _
   refine ⟨x13, ?_⟩
   refine dR 0 ?_; refine dR 1 ?_; refine dR 2 ?_; refine dR 3 ?_; refine dR 4 ?_; refine dR 5 ?_; refine dR 7 ?_; refine dR 8 ?_
   refine bL (i := 6) (by decide +kernel) rfl rfl ?_
   refine aI (enters_of Tryz.func97 rfl rfl) rfl rfl (FG r1 r2 _ _ _ (sr1.ext x13) (sr2.ext x13) (by omega)) ?_
   intro g w14 x14 og
   refine aA ?_
   have x1214 := x13.trans x14
   refine aK ⟨cQ x1214, ?_⟩
   refine bL (i := 9) (by decide +kernel) rfl rfl ?_
   refine aI (enters_of Tryz.func97 rfl rfl) rfl rfl (FG r2 r1 _ _ _ (sr2.ext x1214) (sr1.ext x1214) (by omega)) ?_
   intro n w15 x15 on
   refine aA ?_
   have x1215 := x1214.trans x15
   refine aK ⟨cQ x1215, ?_⟩
   have sg := (og.ext x15).sl
   have sn := on.sl
   refine bK (i := 10) (v := .agg #[.int .i64 (bD oa la).serial, .int .i64 (bD ob lb).serial, g, n]) rfl rfl rfl (by decide +kernel) (by decide +kernel) (by decide +kernel) (by decide +kernel) rfl (fun w' _ => Runs.build rfl (by obtain ⟨_, _, _, rfl⟩ := sg.slf; obtain ⟨_, _, _, rfl⟩ := sn.slf; kernel_rfl)) (fun _ _ _ h => h) ?_
   refine aA ?_
   refine bL (i := 11) (by decide +kernel) rfl rfl ?_
   have h15 := x1215.at h12
   refine aD (v := .agg #[.int .i64 (bD oa la).serial, .int .i64 (bD ob lb).serial, g, n]) rfl rfl rfl h15 (show aO Tryz.prog 90 4 = true by decide +kernel) rfl (fU rfl rfl sg.one sn.one) ?_
   intro w16 p16
   refine aK ⟨bV rfl, ?_⟩
   refine iB 12 ?_
   refine cN (by decide +kernel) ?_
   have x16 : Ext w w16 := (hx12.trans x1215).move p16.mv (by rintro k ⟨⟩; exact zz)
   refine_lift aP ?_
   refine bodyPost_ret (aJ (cs := [.int .i64 (bD oa la).serial, .int .i64 (bD ob lb).serial, g, n]) rfl rfl p16.this (show cY Tryz.prog 90 4 = true by decide +kernel)) rfl ⟨_, rfl, x16, ?_⟩
   have hd : qZ oa la ob lb = ⟨(bD oa la).serial, (bD ob lb).serial, eQ (aL la) (aL lb), eQ (aL lb) (aL la)⟩ := by rw [qZ, if_pos he]
   rw [hd, he]
   exact ⟨_, rfl, g, n, rfl, (og.ext x15).mv p16.mv (.inr ((og.ext x15).neBlock h15 (by decide))) |>.weaken (hx12.trans x13).size, on.mv p16.mv (.inr (on.neBlock h15 (by decide))) |>.weaken (hx12.trans x1214).size⟩
theorem eK {l : List Rec} : ∀ f ∈ aC l, ∀ u ∈ f, u.oneCell' = true := by
 intro f hf u hu
 obtain ⟨r, _, rfl⟩ := List.mem_map.1 hf
 simp only [Rec.cells, List.mem_cons, List.not_mem_nil, or_false] at hu
 rcases hu with rfl | rfl | rfl | rfl <;> rfl
set_option maxHeartbeats 4000000 in
theorem KR {B : Nat} {v : Value} {l : List Rec} {w : World} {i : Nat} (h : Own B 4 47 w v (aC l)) (hi : i < l.length) (hl : l.length ≤ 1000000) : Calls Tryz.prog 198 #[v, .int .i64 i, .int .i64 (i + 1 : Nat)] w fun e w' => ∃ v', e = .returned v' ∧ Own B 4 47 w' v' (aC (l.eraseIdx i)) ∧ Mv v.ownBlock w w' ∧ v'.ownBlock = v.ownBlock := by
 have hlen := aG l
 have h1c := eK (l := l)
 rcases h.form with ⟨rfl, hn⟩ | ⟨g, cap, rfl, hg, hb, hc, _⟩
 ·exfalso
  rw [hn] at hlen
  simp at hlen; omega
 ·have hs := h.sl
  rw [hlen] at hc
  have hs' := hs
  rw [hlen] at hs'
  go_enter Tryz.func198, Tryz.ntmps198
  refine_lift kT ?_; intro _ _ _
  refine aN (Runs.cut3 (k := 4) (m := i) (n := i + 1) (p := l.length) (l := (aC l).length) (c := cap) (ad := some ⟨g, 0, none⟩) rfl rfl rfl (by rw [← hlen]; rfl) (by omega) (by omega) hc (by decide +kernel)) ?_
  refine aA ?_
  refine_lift kT fun _ _ _ => ?_
  refine bT 6 (fun w' => Sl 4 w' (Value.slice (some ⟨g, 0, none⟩) (aC l).length cap) (aC l)) (by decide +kernel) ?_
  intro w1 x1 _
  refine ⟨hs.ext x1, ?_⟩
  refine dR 0 ?_; refine dR 1 ?_; refine dR 2 ?_; refine dR 3 ?_; refine dR 4 ?_; refine dR 5 ?_
  have e22 : cW (Value.slice (some ⟨g, 0, none⟩) (aC l).length cap) 4 0 i = .slice (some ⟨g, 0, none⟩) i cap := by simp [cW, cJ]
  obtain ⟨ad, e25⟩ : ∃ ad, cW (Value.slice (some ⟨g, 0, none⟩) (aC l).length cap) 4 (i + 1) (aC l).length = .slice (some ad) ((aC l).length - (i + 1)) (cap - (i + 1)) := by
   by_cases hq : cap = i + 1
   ·exact ⟨⟨g, 0, none⟩, by simp [cW, hq]⟩
   ·exact ⟨_, by simp only [cW, if_neg hq]; rfl⟩
  have hcut := (hs.ext x1).cut (m := i + 1) (n := (aC l).length) (by omega) (Nat.le_refl _)
  rw [e25, List.take_length] at hcut
  refine bL (i := 6) (by decide +kernel) rfl rfl ?_
  refine CC (i := i) (j := i + 1) (h.ext x1) e22 e25 hcut (by omega) (by omega) h1c ?_
  intro w2 o2 m2
  refine aA ?_
  refine aK ⟨bV rfl, ?_⟩
  refine iB 7 ?_
  refine cN (by decide +kernel) ?_
  obtain ⟨m, hm⟩ : ∃ m, i + ((aC l).length - (i + 1)) = m := ⟨_, rfl⟩
  rw [hm] at o2 ⊢
  have ee : (aC l).take i ++ (aC l).drop (i + 1) = aC (l.eraseIdx i) := by
   rw [List.eraseIdx_eq_take_drop_succ]; simp [aC, List.map_take, List.map_drop]
  rw [ee] at o2
  have hml : (aC (l.eraseIdx i)).length = m := by rw [aG, List.length_eraseIdx_of_lt hi]; omega
  have h2l : (aC (l.eraseIdx i) ++ (aC l).drop m).length = (aC l).length := by rw [List.length_append, hml, List.length_drop]; omega
  have hsh := o2
  rw [← h2l] at hsh
  have hsh := hsh.short (m := m) (by omega)
  rw [List.take_left' hml] at hsh
  have hs2 := hsh.sl
  refine_lift bS fun _ _ => ?_
  refine aN (Runs.cutC (k := 4) (m := m) (n := l.length) (l := m) (c := cap) (ad := some ⟨g, 0, none⟩) rfl (by rw [← hml]; rfl) (by rw [← hlen]; rfl) (by omega) hc (by decide +kernel)) ?_
  refine aA ?_
  have e31 : (if cap = m then some (⟨g, 0, none⟩ : Addr) else Option.map (fun x : Addr => x.add (m * 4)) (some (⟨g, 0, none⟩ : Addr))) = some (⟨g, m * 4, none⟩ : Addr) := by
   rw [if_neg (by omega)]; simp [cJ]
  rw [e31]
  rw [← h2l] at o2
  have h2l' : (aC (l.eraseIdx i) ++ (aC l).drop m).length = l.length := by omega
  refine EN (m := m) (z := AZ) o2 (by rw [h2l']; rfl) (by omega) ?_
  intro w3 o3 m3
  rw [List.take_left' hml] at o3
  refine_lift aP ?_
  go_ret
  exact ⟨_, rfl, o3, (x1.mv (some g)).trans (m2.trans m3), rfl⟩
set_option maxHeartbeats 500000 in
theorem KS (o : List UInt8) (v : Value) (l : List RSet) (w : World) (hv : SetsAt w v l) : Calls Tryz.prog 9 #[.agg #[aH o, v]] w (bC w (.bool (decide ((o.length : Int) ≤ 300) && tL l))) := by
 go_enter Tryz.func9, Tryz.ntmps9
 refine_lift gT fun _ _ => ?_
 refine aT (vs := [aH o, v]) rfl rfl ?_
 intro p w1 x1 hp
 refine aA ?_
 have hv1 := hv.ext x1
 refine_lift JJ (fun hc => ?_) (fun _ _ hc => ?_)
 ·refine aB (enters_of Tryz.func35 rfl rfl) rfl rfl (UZ v l _ hv1) ?_; intro w2 x2; refine aA ?_
  refine_lift aP ?_
  go_ret
  exact ⟨by rw [decide_eq_true hc]; rfl, x1.trans x2⟩
 ·go_ret
  exact ⟨by rw [decide_eq_false hc]; rfl, x1⟩
set_option maxHeartbeats 500000 in
theorem NA (o o' : List UInt8) (u v : Value) (a b : List RSet) (w : World) (hu : SetsAt w u a) (hv : SetsAt w v b) : Calls Tryz.prog 23 #[.agg #[aH o, u], .agg #[aH o', v]] w (bC w (.bool (decide (o = o') && decide (a = b)))) := by
 go_enter Tryz.func23, Tryz.ntmps23
 refine_lift gT fun _ _ => ?_
 refine aT (vs := [aH o, u]) rfl rfl ?_
 intro p w1 x1 hp
 refine aA ?_
 refine_lift NW ?_
 refine aT (vs := [aH o', v]) rfl rfl ?_
 intro q w2 x2 hq
 refine aA ?_
 have hx2 := x1.trans x2
 have hp2 := hp.ext x2
 refine_lift JJ (fun hc => ?_) (fun _ _ hc => ?_)
 ·refine aB (enters_of Tryz.func71 rfl rfl) rfl rfl (UY u v a b _ (hu.ext hx2) (hv.ext hx2)) ?_; intro w3 x3; refine aA ?_
  refine_lift aP ?_
  go_ret
  exact ⟨by rw [decide_eq_true hc]; rfl, hx2.trans x3⟩
 ·go_ret
  exact ⟨by rw [decide_eq_false hc]; rfl, hx2⟩
theorem DelA.ext {d : DeltaR} {r : Value} {w w' : World} (h : DelA d r w) (hx : Ext w w') : DelA d r w' := by
 obtain ⟨g, n, e, a, b⟩ := h
 exact ⟨g, n, e, a.ext hx, b.ext hx⟩
set_option maxHeartbeats 2000000 in
theorem KT {d : DeltaR} {r : Value} (w : World) (h : DelA d r w) (b1 : d.gone.length ≤ 100000) (b2 : d.new.length ≤ 100000) : Calls Tryz.prog 104 #[r] w (jK w (DelO w.heap.size d)) := by
 obtain ⟨g, n, rfl, sg, sn⟩ := h
 have l1 := aG d.gone
 have l2 := aG d.new
 go_enter Tryz.func104, Tryz.ntmps104
 refine_lift gT fun _ _ => ?_
 refine aT (vs := [.int .i64 d.fr, .int .i64 d.to, g, n]) rfl rfl ?_
 intro p w1 x1 hp
 refine aA ?_
 refine aF (z := hY) rfl (by decide +kernel) ?_
 intro w2 x2 s2 h2
 refine aA ?_
 have hx2 := x1.trans x2
 have zz := x1.size
 have hp2 := hp.ext x2
 refine_lift bS fun _ _ => ?_
 refine bT 11 (Ext w2) (by decide +kernel) ?_
 intro w3 x3 _
 refine ⟨x3, ?_⟩
 refine dR 0 ?_; refine dR 1 ?_; refine dR 2 ?_; refine dR 3 ?_; refine dR 4 ?_; refine dR 5 ?_; refine dR 7 ?_; refine dR 8 ?_
 refine bL (i := 6) (by decide +kernel) rfl rfl ?_
 refine bW (B := w3.heap.size) (e := 47) (k := 4) rfl (Own.nil _ _ _ _) rfl (sg.ext (hx2.trans x3)) eK (Nat.le_refl _) (by simp [aG]; omega) ?_
 intro g' w4 og m4 _
 refine aA ?_
 have x4 : Ext w3 w4 := (Own.nil w3.heap.size 4 47 w3).mvx m4 (Ext.refl _) (Nat.le_refl _)
 have x24 := x3.trans x4
 refine aK ⟨cQ x24, ?_⟩
 refine bL (i := 9) (by decide +kernel) rfl rfl ?_
 refine bW (B := w4.heap.size) (e := 47) (k := 4) rfl (Own.nil _ _ _ _) rfl (sn.ext (hx2.trans x24)) eK (Nat.le_refl _) (by simp [aG]; omega) ?_
 intro n' w5 on m5 _
 refine aA ?_
 have x5 : Ext w4 w5 := (Own.nil w4.heap.size 4 47 w4).mvx m5 (Ext.refl _) (Nat.le_refl _)
 have x25 := x24.trans x5
 refine aK ⟨cQ x25, ?_⟩
 rw [List.nil_append] at og on
 have og5 := og.ext x5
 have sg5 := og5.sl
 have sn5 := on.sl
 refine bK (i := 10) (v := .agg #[.int .i64 d.fr, .int .i64 d.to, g', n']) rfl rfl rfl (by decide +kernel) (by decide +kernel) (by decide +kernel) (by decide +kernel) rfl (fun w' _ => Runs.build rfl (by obtain ⟨_, _, _, rfl⟩ := sg5.slf; obtain ⟨_, _, _, rfl⟩ := sn5.slf; kernel_rfl)) (fun _ _ _ h => h) ?_
 refine aA ?_
 refine bL (i := 11) (by decide +kernel) rfl rfl ?_
 have h5 := x25.at h2
 refine aD (v := .agg #[.int .i64 d.fr, .int .i64 d.to, g', n']) rfl rfl rfl h5 (show aO Tryz.prog 93 4 = true by decide +kernel) rfl (fU rfl rfl sg5.one sn5.one) ?_
 intro w6 p6
 refine aK ⟨bV rfl, ?_⟩
 refine cN (by decide +kernel) ?_
 have x6 : Ext w w6 := (hx2.trans x25).move p6.mv (by rintro k ⟨⟩; exact zz)
 refine_lift aP ?_
 refine bodyPost_ret (dU (cs := [.int .i64 d.fr, .int .i64 d.to, g', n']) rfl rfl p6.this (show cY Tryz.prog 93 4 = true by decide +kernel)) rfl ⟨_, rfl, x6, ?_⟩
 exact ⟨g', n', rfl, og5.mv p6.mv (.inr (og5.neBlock h5 (by decide))) |>.weaken (hx2.trans x3).size, on.mv p6.mv (.inr (on.neBlock h5 (by decide))) |>.weaken (hx2.trans x24).size⟩
structure OwnOff (B k : Nat) (e : TypeId) (w : World) (v : Value) (es : List (List Value)) : Prop where
 row : (v = .slice none 0 0 ∧ es = []) ∨ ∃ g o cap cur fz, v = .slice (some ⟨g, o * k, none⟩) es.length cap ∧ B ≤ g ∧ w.heap[g]? = some (.cells cur e fz) ∧ (fz.2 ≤ fz.1 ∨ cur.size ≤ fz.1) ∧ es.length ≤ cap ∧ cap ≤ maxLen ∧ (o + cap) * k ≤ cur.size ∧ (cur.toList.drop (o * k)).take (es.length * k) = es.flatten
 each : ∀ x ∈ es, x.length = k
theorem Own.off {B k e : Nat} {w : World} {v : Value} {es : List (List Value)} (h : Own B k e w v es) : OwnOff B k e w v es := by
 refine ⟨?_, h.each⟩
 rcases h.row.2 with ⟨rfl, h0⟩ | ⟨g, cap, cur, fz, rfl, hb, hg, hfz, hnc, hcm, hcs, htake⟩
 ·exact .inl ⟨rfl, List.eq_nil_of_length_eq_zero h0⟩
 ·exact .inr ⟨g, 0, cap, cur, fz, by simp, hb, hg, hfz, hnc, hcm, by rw [Nat.zero_add]; exact Nat.le_of_eq hcs.symm, by simpa using htake⟩
theorem OwnOff.nil (B k : Nat) (e : TypeId) (w : World) : OwnOff B k e w (.slice none 0 0) [] := (Own.nil B k e w).off
theorem OwnOff.type {B k e : Nat} {w : World} {v : Value} {es : List (List Value)} (h : OwnOff B k e w v es) {r : Nat} (hr : v.ownBlock = some r) : B ≤ r ∧ r < w.heap.size ∧ ∃ cur fz, w.heap[r]? = some (.cells cur e fz) := by
 rcases h.row with ⟨rfl, _⟩ | ⟨g, o, cap, cur, fz, rfl, hb, hg, _⟩
 ·simp [Value.ownBlock] at hr
 ·simp [Value.ownBlock] at hr; subst hr; exact ⟨hb, (Array.getElem?_eq_some_iff.1 hg).1, cur, fz, hg⟩
theorem OwnOff.neBlock {B k e t b : Nat} {w : World} {v : Value} {es : List (List Value)} {cs : Array Value} {fz : Nat × Nat} (h : OwnOff B k e w v es) (hb : w.heap[b]? = some (.cells cs t fz)) (ht : t ≠ e) : v.ownBlock ≠ some b := fun e' => by
 obtain ⟨_, _, cur, fz', h'⟩ := h.type e'
 rw [hb] at h'
 simp only [Option.some.injEq, Obj.cells.injEq] at h'
 exact ht h'.2.1
theorem OwnOff.neOwn {B k e B' k' e' : Nat} {w : World} {v v' : Value} {es es' : List (List Value)} (h : OwnOff B k e w v es) (h' : Own B' k' e' w v' es') (he : e ≠ e') : v'.ownBlock = none ∨ v'.ownBlock ≠ v.ownBlock := by
 cases hv : v'.ownBlock with
 | none => exact .inl rfl
 | some r =>
  obtain ⟨cur, fz, h1⟩ := h'.type hv
  exact .inr fun e2 => h.neBlock h1 (fun e3 => he e3.symm) e2.symm
theorem OwnOff.mv {B k e : Nat} {w w' : World} {v : Value} {es : List (List Value)} {row : Option Nat} (h : OwnOff B k e w v es) (hm : Mv row w w') (hne : v.ownBlock = none ∨ v.ownBlock ≠ row) : OwnOff B k e w' v es := by
 refine ⟨h.row.imp id ?_, h.each⟩
 rintro ⟨g, o, cap, cur, fz, rfl, hb, hg, r⟩
 refine ⟨g, o, cap, cur, fz, rfl, hb, hm.at hg ?_, r⟩
 rcases hne with hne | hne
 ·simp [Value.ownBlock] at hne
 ·simpa [Value.ownBlock] using hne
theorem OwnOff.ext {B k e : Nat} {w w' : World} {v : Value} {es : List (List Value)} (h : OwnOff B k e w v es) (hx : Ext w w') : OwnOff B k e w' v es := by
 refine ⟨h.row.imp id ?_, h.each⟩
 rintro ⟨g, o, cap, cur, fz, rfl, hb, hg, r⟩
 exact ⟨g, o, cap, cur, fz, rfl, hb, hx.at hg, r⟩
theorem OwnOff.weaken {B C k e : Nat} {w : World} {v : Value} {es : List (List Value)} (h : OwnOff B k e w v es) (hc : C ≤ B) : OwnOff C k e w v es :=
 ⟨h.row.imp id fun ⟨g, o, cap, cur, fz, a, b, r⟩ => ⟨g, o, cap, cur, fz, a, Nat.le_trans hc b, r⟩, h.each⟩
theorem OwnOff.sl {B k e : Nat} {w : World} {v : Value} {es : List (List Value)} (h : OwnOff B k e w v es) : Sl k w v es := by
 rcases h.row with ⟨rfl, rfl⟩ | ⟨g, o, cap, cur, fz, rfl, hb, hg, hfz, hnc, hcm, hcs, htake⟩
 ·exact Sl.nil _ _
 ·refine ⟨_, cap, rfl, hnc, by unfold maxLen at hcm; omega, h.each, (fun e => by cases e), fun _ => ⟨g, o * k, rfl, ?_⟩⟩
  intro i ce j x hi hj
  have hfl := iF h.each hi hj
  rw [← htake, List.getElem?_take] at hfl
  split at hfl
  ·rw [List.getElem?_drop] at hfl
   have hlt : o * k + (i * k + j) < cur.size := by
    have := (List.getElem?_eq_some_iff.1 hfl).1
    simpa using this
   simp only [World.cell?, hg]
   rw [← Nat.add_assoc] at hfl
   simpa [Array.getElem?_toList] using hfl
  ·cases hfl
theorem OwnOff.drop {B k e : Nat} {w : World} {v : Value} {es : List (List Value)} (h : OwnOff B k e w v es) {m : Nat} (hm : m ≤ es.length) : OwnOff B k e w (cW v k m es.length) (es.drop m) := by
 refine ⟨?_, fun x hx => h.each x (List.mem_of_mem_drop hx)⟩
 rcases h.row with ⟨rfl, rfl⟩ | ⟨g, o, cap, cur, fz, rfl, hb, hg, hfz, hnc, hcm, hcs, htake⟩
 ·have : m = 0 := by simpa using hm
  subst this
  exact .inl ⟨by simp [cW], rfl⟩
 ·have hfl := aW h.each
  by_cases hc : cap = m
  ·have hlm : es.length = m := by omega
   refine .inr ⟨g, o, 0, cur, fz, ?_, hb, hg, hfz, ?_, by unfold maxLen; omega, ?_, ?_⟩
   ·simp [cW, hc, hlm]
   ·simp [hlm]
   ·have : (o + 0) * k ≤ (o + cap) * k := Nat.mul_le_mul_right k (by omega)
    omega
   ·have h0 : es.drop m = [] := by rw [← hlm, List.drop_length]
    rw [h0]
    simp
  ·refine .inr ⟨g, o + m, cap - m, cur, fz, ?_, hb, hg, hfz, ?_, by omega, ?_, ?_⟩
   ·simp [cW, hc, cJ, Nat.add_mul]
   ·simp; omega
   ·rw [show o + m + (cap - m) = o + cap by omega]; exact hcs
   ·have hd := lX es m h.each
    rw [hd, ← htake, List.drop_take, List.drop_drop, List.length_drop, Nat.add_mul, ← Nat.sub_mul]
theorem xT {P : Program} {w : World} {t e k bytes B : Nat} {ty : TypeId} {v x : Value} {es fs : List (List Value)} (ht : jF P t e k bytes = true) (h : OwnOff B k e w v es) (hx : Sl k w x fs) (hne : fs ≠ []) (h1 : ∀ f ∈ fs, ∀ u ∈ f, u.oneCell' = true)
 (hB : B ≤ w.heap.size) (hb : (es.length + fs.length) * bytes ≤ 140737488355328) (hm : es.length + fs.length ≤ 140737488355328) :
 ∃ v' w', (Builtin.append_ #[t, t] ty #[v, x]).run P w = .ok v' w' ∧ OwnOff B k e w' v' (es ++ fs) ∧ Mv v.ownBlock w w' ∧ (v'.ownBlock = v.ownBlock ∨ v'.ownBlock = some w.heap.size) := by
 obtain ⟨hu, i, z, hi, hz, hzc, hs, hby, hk⟩ := fN ht
 rcases h.row with ⟨rfl, rfl⟩ | ⟨g, o, cap, cur, fz, rfl, hbg, hg, hfz, hnc, hcm, hcs, htake⟩
 ·obtain ⟨v', w', hr, ho, hmv, hkin⟩ := nA (ty := ty) ht (Own.nil B k e w) hx h1 hB hb hm
  exact ⟨v', w', hr, ho.off, hmv, hkin⟩
 ·have hxs := hx
  obtain ⟨ad, xcap, rfl, h2, h3, h4, h5, h6⟩ := hx
  obtain ⟨b, bo, he, hc⟩ := h6 hne
  subst he
  have hnews := hxs.news hk
  have hlf := aW h4
  have hle := aW h.each
  have hall : ∀ y ∈ es ++ fs, y.length = k := fun y hy => by
   rcases List.mem_append.1 hy with hy | hy
   ·exact h.each y hy
   ·exact h4 y hy
  have hokc : (o + cap) * k = o * k + cap * k := Nat.add_mul _ _ _
  have hf1 : ∀ u ∈ fs.flatten, u.oneCell' = true := fun u hu' => by obtain ⟨f, hf, hfu⟩ := List.mem_flatten.1 hu'; exact h1 f hf u hfu
  by_cases hroom : es.length + fs.length ≤ cap
  ·have hfit : o * k + es.length * k + fs.flatten.length ≤ cur.size := by
    have : (es.length + fs.length) * k ≤ cap * k := Nat.mul_le_mul_right k hroom
    rw [Nat.add_mul] at this
    omega
   have hf := run_firstCells_some (P := P) w i.size fs.length ⟨b, bo, none⟩ fs.length xcap fs.flatten (by rw [hlf, hs]) hnews
   have hst := cS P g (o * k + es.length * k) e fz fs.flatten 0 cur w hg hfz (by simpa using hfit) hf1
   simp only [Nat.add_zero] at hst
   have hr : (Builtin.append_ #[t, t] ty #[.slice (some ⟨g, o * k, none⟩) es.length cap, .slice (some ⟨b, bo, none⟩) fs.length xcap]).run P w =
    .ok (.slice (some ⟨g, o * k, none⟩) (es.length + fs.length) cap) (w.setRow g (cur.toList.take (o * k + es.length * k) ++ fs.flatten ++ cur.toList.drop (o * k + es.length * k + fs.flatten.length)).toArray) := by
    simp [Builtin.append_, run_underlying hu, sizeOf, typeInfo, hi, Builtin.lenOf, hroom, hf, cJ, hs]
    rw [hs] at hf
    simp [hf, hst]
   refine ⟨_, _, hr, ⟨.inr ⟨g, o, cap, _, fz, by rw [List.length_append], hbg, setRow_heap w g cur _ e _ hg, ?_, by rw [List.length_append]; exact hroom, hcm, ?_, ?_⟩, hall⟩, ⟨rfl, rfl, rfl, by simp, fun k _ hk => setRow_other w g k _ (fun e => hk (by simp [Value.ownBlock, e])), Nat.le_refl _⟩, .inl rfl⟩
   ·simp only [List.size_toArray, List.length_append, List.length_take, List.length_drop, Array.length_toList]
    omega
   ·simp only [List.size_toArray, List.length_append, List.length_take, List.length_drop, Array.length_toList]
    omega
   ·have e1 : cur.toList.take (o * k + es.length * k) = cur.toList.take (o * k) ++ es.flatten := by
     rw [List.take_add, htake]
    have hok : (cur.toList.take (o * k)).length = o * k := by simp; omega
    rw [e1, List.toList_toArray, List.append_assoc, List.append_assoc, List.drop_append, hok, Nat.sub_self, List.drop_zero, List.drop_of_length_le (by omega), List.nil_append, List.flatten_append, ← List.append_assoc]
    have e2 : (es ++ fs).length * k = (es.flatten ++ fs.flatten).length := by rw [List.length_append, List.length_append, Nat.add_mul, hle, hlf]
    rw [e2]
    exact List.take_left
  ·have holds : ∀ j u, es.flatten[j]? = some u → w.cell? ((⟨g, o * k, none⟩ : Addr).add j) = some u := by
    intro j u hj
    rw [← htake, List.getElem?_take] at hj
    split at hj
    ·rw [List.getElem?_drop] at hj
     rw [cJ]
     simp only [World.cell?, hg]
     simpa [Array.getElem?_toList] using hj
    ·cases hj
   have hr := run_append_grow (P := P) (ty := ty) w t e i z hu hi hz ⟨g, o * k, none⟩ es.length cap es.flatten (by rw [hle, hs]) holds ⟨b, bo, none⟩ fs.length xcap fs.flatten (by rw [hlf, hs]) hnews (by omega) (by omega) (growslice_fits (by omega) (by rw [hby]; exact hb))
   have hge := grownCap_ge w (es.length + fs.length) cap e
   have hcm' : grownCap w (es.length + fs.length) cap e ≤ maxLen := grownCap_le_maxLen w (es.length + fs.length) cap e (by unfold maxLen; omega)
   have hlen : (es ++ fs).flatten.length = (es ++ fs).length * k := aW hall
   refine ⟨_, _, hr, (show Own B k e _ _ (es ++ fs) from ⟨⟨hlen, .inr ⟨w.heap.size, _, _, (0, 0), by rw [List.length_append], hB, heap_alloc_new w.drew _, .inl (Nat.le_refl _), by rw [List.length_append]; exact hge, hcm', ?_, ?_⟩⟩, hall⟩).off, ⟨rfl, rfl, rfl, by simp, fun k hk _ => (Ext.alloc w.drew _).block k hk, Nat.le_succ _⟩, .inr rfl⟩
   ·simp only [Array.size_append, List.size_toArray, size_zeroCells, hzc, hle, hlf, ← Nat.add_mul]
    congr 1
    omega
   ·simp only [Array.toList_append, List.append_assoc]
    rw [← List.append_assoc, ← List.flatten_append, ← hlen]
    exact List.take_left
section
variable {P : Program} {ops : Array Oper} {Q : Exit → Act → World → Prop} {w : World} {rest : List Oper} {ts : List Value} {df : List Deferred} {ty : TypeId} {ps : String} {af : Array Edge}
theorem kV {t e k B d : Nat} {x0 y : Operand} {v0 x : Value} {es fs : List (List Value)} (h0 : (Act.mk ts.toArray df).eval x0 = v0)
 (h : OwnOff B k e w v0 es) (hy : (Act.mk ts.toArray df).eval y = x) (hx : Sl k w x fs) (hne : fs ≠ []) (h1 : ∀ f ∈ fs, ∀ u ∈ f, u.oneCell' = true)
 (hB : B ≤ w.heap.size) (hm : es.length + fs.length ≤ 1000000)
 (hk : ∀ v' w', OwnOff B k e w' v' (es ++ fs) → Mv v0.ownBlock w w' → (v'.ownBlock = v0.ownBlock ∨ v'.ownBlock = some w.heap.size) → wpList P ops Q rest (Act.mk (ts.set d v').toArray df) w')
 (ht : jF P t e k (bytesOf P e) = true := by decide +kernel) (hby : bytesOf P e ≤ 1000000 := by decide +kernel) :
 wpList P ops Q (Oper.mk (some d) (.call ⟨.builtin .append, #[x0, y], #[t, t]⟩) ty ps af none :: rest) (Act.mk ts.toArray df) w := by
 have hb : (es.length + fs.length) * bytesOf P e ≤ 140737488355328 :=
  calc (es.length + fs.length) * bytesOf P e ≤ 1000000 * 1000000 := Nat.mul_le_mul hm hby
   _ ≤ _ := by decide
 obtain ⟨v', w', hr, ho, hmv, hkin⟩ := xT (ty := ty) ht h hx hne h1 hB hb (by omega)
 refine kJ rfl ?_ (hk v' w' ho hmv hkin)
 simp [execOp, resolve, invoke, builtin, h0, hy, hr]
end
theorem Pts.front {w : World} {p : Value} {vs : List Value} (h : Pts w p vs) (n : Nat) : Pts w p (vs.take n) := by
 obtain ⟨b, o, e, hc⟩ := h
 refine ⟨b, o, e, fun j x hx => hc j x ?_⟩
 rw [List.getElem?_take] at hx
 split at hx
 ·exact hx
 ·cases hx
section
variable {P : Program} {w : World} {ts : List Value} {df : List Deferred} {d : Option Nat} {ty : TypeId} {ps : String} {af : Array Edge} {g : Option (Nat × Bool)}
theorem Runs.fieldJ {s : TypeId} {m n off : Nat} {ad : Addr} (hx : ts.getD m undef = .pointer (some ad)) (hf : jH P s n off = true) :
 Runs P (Oper.mk d (.fieldAddr s (.tmp m) n) ty ps af g) (Act.mk ts.toArray df) w (bG (.pointer (some ad)) off) := by
 obtain ⟨fs, f, i, ht, hf, ho, hie, hz⟩ := jJ hf
 have hx' : (Act.mk ts.toArray df).eval (.tmp m) = .pointer (some ad) := by rw [eM]; exact hx
 constructor
 simp [execOp, hx', Instr.fieldAt, Instr.sureAddr, run_underlying ht, hf, fieldPlace, sizeOf, typeInfo, hie, hz, bG, ho]
end
section
variable {P : Program} {a : Act} {w : World} {d : Option Nat} {ty : TypeId} {ps : String} {af : Array Edge} {g : Option (Nat × Bool)}
theorem Runs.and32 {t u : TypeId} {x y : Operand} {m : Int} (hx : a.eval x = .int .i64 m) (hy : a.eval y = .int .i64 4294967295) :
 Runs P (Oper.mk d (.binOp .and t x y u) ty ps af g) a w (.int .i64 (m % 4294967296)) := by
 have e : (((BitVec.ofInt 64 m &&& BitVec.ofInt 64 4294967295).toNat : Nat) : Int) = m % 4294967296 := by
  rw [BitVec.toNat_and, BitVec.toNat_ofInt, show (BitVec.ofInt 64 4294967295).toNat = 2 ^ 32 - 1 from rfl, Nat.and_two_pow_sub_one_eq_mod]
  have h0 : 0 ≤ m % ((2 ^ 64 : Nat) : Int) := Int.emod_nonneg _ (by decide)
  have h1 : ((m % ((2 ^ 64 : Nat) : Int)).toNat : Int) = m % ((2 ^ 64 : Nat) : Int) := Int.toNat_of_nonneg h0
  rw [Int.natCast_emod, h1]
  exact Int.emod_emod_of_dvd m (by decide)
 have h2 : 0 ≤ m % 4294967296 ∧ m % 4294967296 < 4294967296 := ⟨Int.emod_nonneg _ (by decide), Int.emod_lt_of_pos _ (by decide)⟩
 have e2 : IntKind.i64.wrap (m % 4294967296) = m % 4294967296 := IntWalk.i64_in _ (by omega)
 constructor
 have hb : (Op.intBits .and .i64 m 4294967295) = Sem.pure (.int .i64 (m % 4294967296)) := by
  show Sem.pure (Value.int .i64 (IntKind.i64.wrap ((BitVec.ofInt 64 m &&& BitVec.ofInt 64 4294967295).toNat : Nat))) = _
  rw [e, e2]
 simp only [execOp, hx, hy, Sem.run_bind]
 simp [eqGuard, binOp, hb]
end
def eN (n : Int) : Bool := decide (0 ≤ n) && decide (n ≤ 4294967295)
def dQ (a b : Int) : Bool := eN a && eN b && decide (2147483648 < (b - a) % 4294967296)
def BA (l : List Int) : List (List Value) := l.map fun n => [.int .i64 n]
set_option maxHeartbeats 2000000 in
theorem RI (v : Value) (l : List Int) (w : World) (hv : Sl 1 w v (BA l)) : Calls Tryz.prog 152 #[v] w (bC w (.bool (l.all eN))) := by
 have hl : (BA l).length = l.length := by simp [BA]
 have hle := hv.le
 rw [hl] at hle
 go_enter Tryz.func152, Tryz.ntmps152
 refine_lift bS fun _ _ => ?_
 go_loopw [4, 7] (fun _ i wr => ∃ k : Nat, k ≤ l.length ∧ i = .int .i64 k ∧ wr = w ∧ (l.take k).all eN = true) (fun _ i _ => l.length - (intOf i).toNat)
 case atStart => exact ⟨0, Nat.zero_le _, rfl, rfl, by simp⟩
 case round =>
  obtain ⟨k, hk, rfl, rfl, hall⟩ := hrel
  by_cases hlt : k < l.length
  ·have el := hv.elem (i := k) (e := [.int .i64 l[k]]) (by simp [BA, hlt])
   refine_lift OA (fun _ hc _ => ?_) (fun _ _ _ hc => ?_) (fun _ _ _ hc _ => ?_)
   ·have h1 := ‹(4294967295 : Int) < l[k]›
    go_ret
    refine ⟨?_, Ext.refl _⟩
    rw [show l.all eN = false from List.all_eq_false.2 ⟨_, List.getElem_mem hlt, by simp [eN]; omega⟩]
    rfl
   ·have h1 := ‹l[k] ≤ (4294967295 : Int)›
    have h0 := ‹¬ l[k] < 0›
    exact ⟨⟨k + 1, by omega, by go_num, trivial, by rw [List.take_succ_eq_append_getElem hlt, List.all_append, hall]; simp [eN]; omega⟩, by simp [intOf]; omega⟩
   ·have h1 := ‹l[k] < 0›
    go_ret
    refine ⟨?_, Ext.refl _⟩
    rw [show l.all eN = false from List.all_eq_false.2 ⟨_, List.getElem_mem hlt, by simp [eN]; omega⟩]
    rfl
  ·have : k = l.length := by omega
   subst this
   rw [List.take_length] at hall
   refine_lift fG fun _ => ?_
   go_ret
   exact ⟨by rw [hall]; rfl, Ext.refl _⟩
def eL (a b : Int) : Int × Int :=
 if (eN a && eN b) = false then (0, 1) else if (b - a) % 4294967296 = 0 then (0, 0) else if (b - a) % 4294967296 < 2147483648 then (-1, 0) else if 2147483648 < (b - a) % 4294967296 then (1, 0) else (0, 5)
set_option maxHeartbeats 2000000 in
theorem KU (a b : Int) (w : World) : Calls Tryz.prog 96 #[.int .i64 a, .int .i64 b] w (bC w (.tuple #[.int .i64 (eL a b).1, .int .i64 (eL a b).2])) := by
 go_enter Tryz.func96, Tryz.ntmps96
 refine_lift gT fun _ _ => ?_
 refine_lift gO fun _ _ _ _ => ?_
 refine bR (e := 3) (k := 1) (bytes := 8) (xs := [.int .i64 a, .int .i64 b]) rfl rfl rfl (by simp [Value.cells]) (by decide +kernel) (by simp) ?_
 intro v1 w1 x1 _ sl1 _
 refine aA ?_
 refine_lift aP ?_
 refine aB (enters_of Tryz.func152 rfl rfl) rfl rfl (RI v1 [a, b] _ sl1) ?_; intro w2 x2; refine aA ?_
 have hx2 := x1.trans x2
 have hall : [a, b].all eN = (eN a && eN b) := by simp
 rw [hall]
 cases hok : (eN a && eN b) with
 | false =>
  refine_lift aP ?_
  go_ret2
  exact ⟨by rw [eL, if_pos hok]; rfl, hx2⟩
 | true =>
  have hb : 0 ≤ a ∧ a ≤ 4294967295 ∧ 0 ≤ b ∧ b ≤ 4294967295 := by
   simp only [eN, Bool.and_eq_true, decide_eq_true_eq] at hok
   omega
  refine_lift gO fun _ _ _ _ => ?_
  refine aN (Runs.and32 rfl rfl) ?_
  refine aA ?_
  refine_lift OT (fun _ _ => ?_) (fun _ _ _ => ?_) (fun _ _ _ => ?_) (fun _ => ?_)
  all_goals
   go_ret2
   refine ⟨?_, hx2⟩
   rw [eL, if_neg (by simp [hok])]
   first
    | (rw [if_pos (by omega)]; rfl)
    | (rw [if_neg (by omega), if_pos (by omega)]; rfl)
    | (rw [if_neg (by omega), if_neg (by omega), if_pos (by omega)]; rfl)
    | (rw [if_neg (by omega), if_neg (by omega), if_neg (by omega)]; rfl)
theorem GL (a b : Int) (w : World) : Calls Tryz.prog 45 #[.int .i64 a, .int .i64 b] w (bC w (.bool (dQ a b))) := by
 have h : eL a b = (0, 1) ∧ dQ a b = false ∨ eL a b = (0, 0) ∧ dQ a b = false ∨ eL a b = (-1, 0) ∧ dQ a b = false ∨ eL a b = (1, 0) ∧ dQ a b = true ∨ eL a b = (0, 5) ∧ dQ a b = false := by
  unfold eL dQ
  cases hok : (eN a && eN b) with
  | false => simp
  | true =>
   simp only [Bool.true_eq_false, if_false, Bool.true_and]
   generalize (b - a) % 4294967296 = d
   by_cases h1 : d = 0
   ·simp [h1]
   ·by_cases h2 : d < 2147483648
    ·have : ¬ 2147483648 < d := by omega
     simp [h1, h2, this]
    ·by_cases h3 : 2147483648 < d
     ·simp [h1, h2, h3]
     ·simp [h1, h2, h3]
 go_enter Tryz.func45, Tryz.ntmps45
 refine_lift bS fun _ _ => ?_
 refine aB (enters_of Tryz.func96 rfl rfl) rfl rfl (KU a b _) ?_; intro w1 x1; refine aA ?_
 rcases h with ⟨h1, h2⟩ | ⟨h1, h2⟩ | ⟨h1, h2⟩ | ⟨h1, h2⟩ | ⟨h1, h2⟩
 all_goals
  rw [h1]
  refine_lift aP ?_
  go_ret
  exact ⟨by rw [h2]; rfl, x1⟩
structure SetsN (B : Nat) (w : World) (css0 css : List (List Value)) (l : List RSet) (k : Nat) : Prop where
 len : css.length = l.length
 new : ∀ (i : Nat) (s : RSet), l[i]? = some s → i < k → ∃ x, css[i]? = some [aH s.name, .int .i64 s.kind, .int .i64 s.ttl, x] ∧ Own B 1 9 w x (aM s.data)
 old : ∀ i, k ≤ i → css[i]? = css0[i]?
theorem SetsN.ext {B : Nat} {w w' : World} {css0 css : List (List Value)} {l : List RSet} {k : Nat} (h : SetsN B w css0 css l k) (hx : Ext w w') : SetsN B w' css0 css l k :=
 ⟨h.len, fun i s hi hk => let ⟨x, a, b⟩ := h.new i s hi hk; ⟨x, a, b.ext hx⟩, h.old⟩
theorem SetsN.mv {B : Nat} {w w' : World} {css0 css : List (List Value)} {l : List RSet} {k : Nat} {row : Option Nat} (h : SetsN B w css0 css l k) (hm : Mv row w w') (hne : ∀ x es, Own B 1 9 w x es → x.ownBlock = none ∨ x.ownBlock ≠ row) : SetsN B w' css0 css l k :=
 ⟨h.len, fun i s hi hk => let ⟨x, a, b⟩ := h.new i s hi hk; ⟨x, a, b.mv hm (hne x _ b)⟩, h.old⟩
theorem SetsN.step {B : Nat} {w : World} {css0 css : List (List Value)} {l : List RSet} {k : Nat} (h : SetsN B w css0 css l k) (hk : k < l.length) {y : Value} (hy : Own B 1 9 w y (aM l[k].data)) :
 SetsN B w css0 (css.set k [aH l[k].name, .int .i64 l[k].kind, .int .i64 l[k].ttl, y]) l (k + 1) := by
 refine ⟨by rw [List.length_set, h.len], fun i s hi hik => ?_, fun i hi => ?_⟩
 ·by_cases e : k = i
  ·subst e
   rw [List.getElem?_eq_getElem hk] at hi
   cases hi
   exact ⟨y, List.getElem?_set_self (by rw [h.len]; exact hk), hy⟩
  ·obtain ⟨x, a, b⟩ := h.new i s hi (by omega)
   exact ⟨x, by rw [List.getElem?_set_ne e]; exact a, b⟩
 ·rw [List.getElem?_set_ne (by omega)]; exact h.old i (by omega)
theorem SetsN.done {B : Nat} {w : World} {css0 css : List (List Value)} {l : List RSet} (h : SetsN B w css0 css l l.length) : SetsW B w css l :=
 ⟨h.len, fun i s hi => h.new i s hi (List.getElem?_eq_some_iff.1 hi).1⟩
set_option maxHeartbeats 6000000 in
theorem vT (o : List UInt8) (v : Value) (l : List RSet) (w : World) (hv : SetsAt w v l) (hl : l.length ≤ 100000) (hb : ∀ s ∈ l, s.data.length ≤ 1000000) :
 Calls Tryz.prog 44 #[.agg #[aH o, v]] w (jK w fun r w' => ∃ y, r = .agg #[aH o, y] ∧ SetsV w.heap.size w' y l) := by
 obtain ⟨css0, hv0, hvs⟩ := hv.rows
 have hlen0 := hvs.len
 go_enter Tryz.func44, Tryz.ntmps44
 refine_lift rF ?_; intro _ _ _
 refine dL (vs := [aH o, v]) rfl rfl ?_
 intro w1 x1 s1 hz1
 refine aA ?_
 refine aF (z := aZ) rfl (by decide +kernel) ?_
 intro w2 x2 s2 h2
 refine aA ?_
 have hz2 := x2.at hz1
 have hx2 := x1.trans x2
 have hp2 := aE hz2
 have z1 := x1.size
 refine_lift bS fun _ _ => ?_
 refine aI (enters_of Tryz.func87 rfl rfl) rfl rfl (DE v css0 _ (hv0.ext hx2) (hvs.ext hx2).cell (by rw [hlen0]; omega)) ?_
 intro y w8 x8 ho8
 have hx8 := hx2.trans x8
 have h8 := x8.at h2
 have hz8 := x8.at hz2
 have hp8 := aE hz8
 refine aA ?_
 refine_lift aP ?_
 refine cT (n := 1) hz8 rfl rfl rfl (by simp) (by decide +kernel) ho8.one ?_
 intro w9 p9
 have hx9 : Ext w w9 := hx8.move p9.mv (by rintro k ⟨⟩; exact Nat.le_refl _)
 have hz9 : w9.heap[w.heap.size]? = some (.cells [aH o, y].toArray 25 (0, 0)) := p9.this
 have h9 := p9.at h8 (by omega)
 have ho9 := ho8.mv p9.mv (.inr (ho8.neBlock hz8 (by decide)))
 have hzB : w1.heap.size < w2.heap.size := by omega
 have hzW := hx2.size
 have hB9 : w2.heap.size ≤ w9.heap.size := by have a1 := x8.size; have a2 := p9.size; omega
 have hne : w.heap.size ≠ w1.heap.size := by omega
 have hsl9 := ho9.sl
 have hpz9 := aE hz9
 clear p9 hz8 hp8 h8 ho8 hp2 hz2 hz1 h2
 refine_lift bS fun _ _ => ?_
 generalize hrb : w1.heap.size = rb at *
 generalize w2.heap.size = B at *
 clear hpz9 hsl9
 go_loopw [3, 4, 12] (fun _ _ i wr => ∃ (k : Nat) (css : List (List Value)), k ≤ l.length ∧ i = .int .i64 k ∧ Ext w wr ∧ B ≤ wr.heap.size ∧ wr.heap[w.heap.size]? = some (.cells [aH o, y].toArray 25 (0, 0)) ∧ wr.heap[rb]? = some (.cells aZ.toArray 25 (0, 0)) ∧ Own B 4 119 wr y css ∧ SetsN B wr css0 css l k) (fun _ _ i _ => l.length - (intOf i).toNat)
 case atStart => exact ⟨0, css0, Nat.zero_le _, rfl, hx9, hB9, hz9, h9, ho9, ⟨hlen0, by omega, fun i _ => rfl⟩⟩
 case round =>
  obtain ⟨k, css, hk, rfl, hx, hBr, hbz, hbr, ho, hs⟩ := hrel
  have hpz := aE hbz
  have hsl := ho.sl
  have hlen := hs.len
  by_cases hlt : k < l.length
  ·obtain ⟨x, hc0, hxd0⟩ := hvs.at' k _ (List.getElem?_eq_getElem hlt)
   have hc : css[k]? = some [aH l[k].name, .int .i64 l[k].kind, .int .i64 l[k].ttl, x] := by rw [hs.old k (Nat.le_refl _)]; exact hc0
   have hxd := hxd0.ext hx
   have hpe := hsl.elem hc
   have hbk := hb _ (List.getElem_mem hlt)
   refine_lift nX ?_; intro _ _ _ _ _ _
   refine aF (z := iS) rfl (by decide +kernel) ?_
   intro w10 x10 s10 h10
   refine aA ?_
   refine_lift aP ?_
   refine aD (v := .agg #[aH l[k].name, .int .i64 l[k].kind, .int .i64 l[k].ttl, x]) rfl rfl rfl h10 (show aO Tryz.prog 119 4 = true by decide +kernel) rfl (fU rfl rfl rfl hxd.one) ?_
   intro w11 p11
   have x11 : Ext wr w11 := x10.move p11.mv (by rintro k ⟨⟩; exact Nat.le_refl _)
   have hbs : w11.heap[wr.heap.size]? = some (.cells [aH l[k].name, .int .i64 l[k].kind, .int .i64 l[k].ttl, x].toArray 119 (0, 0)) := p11.this
   have hx11 := hx.trans x11
   have hbz11 := x11.at hbz
   have hbr11 := x11.at hbr
   have ho11 := ho.ext x11
   have hs11 := hs.ext x11
   have hps := aE hbs
   have hpz11 := aE hbz11
   have hsl11 := ho11.sl
   have hpe11 := hsl11.elem hc
   have hxd11 := hxd.ext x11
   clear p11 h10 x10 hpe hpz hsl
   refine_lift aP ?_
   refine bT 8 (Ext w11) (by decide +kernel) ?_
   intro w12 x12 _
   refine ⟨x12, ?_⟩
   refine dR 0 ?_; refine dR 1 ?_; refine dR 2 ?_; refine dR 3 ?_; refine dR 4 ?_
   refine bL (i := 5) (by decide +kernel) rfl rfl ?_
   refine aI (enters_of Tryz.func88 rfl rfl) rfl rfl (SP x l[k].data _ (hxd11.ext x12) (by omega)) ?_
   intro u w13 x13 ou
   refine aA ?_
   have x1113 := x12.trans x13
   refine aK ⟨cQ x1113, ?_⟩
   refine dR 6 ?_; refine dR 7 ?_
   refine bL (i := 8) (by decide +kernel) rfl rfl ?_
   have ho13 := ho11.ext x1113
   refine kO (i := k) (j := 3) rfl rfl rfl ho13 hc (by decide) (by decide +kernel) ou.one ?_
   intro w14 o14 m14
   refine aK ⟨bV rfl, ?_⟩
   refine cN (by decide +kernel) ?_
   have hx13 := hx11.trans x1113
   have x14 : Ext w w14 := ho13.mvx m14 hx13 hzW
   have hbz14 := m14.at (x1113.at hbz11) (fun e => ho13.neBlock (x1113.at hbz11) (by decide) e.symm)
   have hbr14 := m14.at (x1113.at hbr11) (fun e => ho13.neBlock (x1113.at hbr11) (by decide) e.symm)
   have ou14 := ou.mv m14 (ou.ne ho13 (by decide))
   have hs14 := (hs11.ext x1113).mv m14 (fun x es hx => hx.ne ho13 (by decide))
   have hB14 : B ≤ w14.heap.size := by have a1 := x1113.size; have a2 := m14.size; have a3 := x11.size; omega
   have ouk : Own B 1 9 w14 u (aM l[k].data) := ou14.weaken (by have a1 := x12.size; have a2 := x11.size; omega)
   clear hps hpz11 hsl11 hpe11 hbs hbz11 hbr11 hs11 ho13 ho11 hxd11
   refine_lift aP ?_
   exact ⟨⟨k + 1, _, by omega, by go_num, x14, hB14, hbz14, hbr14, o14, hs14.step hlt ouk⟩, by simp [intOf]; omega⟩
  ·have : k = l.length := by omega
   subst this
   refine_lift kT fun _ _ _ => ?_
   refine aD (v := .agg #[aH o, y]) rfl rfl rfl hbr (show aO Tryz.prog 25 2 = true by decide +kernel) rfl (cX ho.one) ?_
   intro w11 p11
   have x11 : Ext w w11 := hx.move p11.mv (by rintro k ⟨⟩; omega)
   have hfin : SetsV w.heap.size w11 y l := by
    have : SetsV B wr y l := ⟨css, ho, hs.done⟩
    exact (this.put hbr (by decide) (by decide) p11).weaken hzW
   refine_lift aP ?_
   exact bodyPost_ret (dU (cs := [aH o, y]) rfl rfl p11.this (show cY Tryz.prog 25 2 = true by decide +kernel)) rfl ⟨_, rfl, x11, y, rfl, hfin⟩
section
variable {P : Program} {a : Act} {w : World} {d : Option Nat} {ty : TypeId} {ps : String} {af : Array Edge} {g : Option (Nat × Bool)}
theorem Runs.isNil {t u : TypeId} {x y : Operand} {p : Option Addr} (hx : a.eval x = .pointer p) (hy : a.eval y = .pointer none) (ht : P.underlying t = some (.pointer (P.pointee t))) :
 Runs P (Oper.mk d (.binOp .eql t x y u) ty ps af g) a w (.bool p.isNone) := by
 constructor
 simp [execOp, hx, hy, eqGuard, run_eql_pointer_nil w t p ht]
end
structure DelsV (B : Nat) (w : World) (v : Value) (ds : List DeltaR) : Prop where
 out : ∃ css, OwnOff B 4 90 w v css ∧ css.length = ds.length ∧ ∀ (i : Nat) (d : DeltaR), ds[i]? = some d → ∃ g n, css[i]? = some [.int .i64 d.fr, .int .i64 d.to, g, n] ∧ Own B 4 47 w g (aC d.gone) ∧ Own B 4 47 w n (aC d.new)
theorem DelsV.nil (B : Nat) (w : World) : DelsV B w (.slice none 0 0) [] := ⟨[], OwnOff.nil _ _ _ _, rfl, by simp⟩
theorem DelsV.ext {B : Nat} {w w' : World} {v : Value} {ds : List DeltaR} (h : DelsV B w v ds) (hx : Ext w w') : DelsV B w' v ds := by
 obtain ⟨css, h1, h2, h3⟩ := h
 exact ⟨css, h1.ext hx, h2, fun i d hi => let ⟨g, n, a, b, c⟩ := h3 i d hi; ⟨g, n, a, b.ext hx, c.ext hx⟩⟩
theorem DelsV.put {B b t : Nat} {w w' : World} {v : Value} {ds : List DeltaR} {cs : Array Value} {fz : Nat × Nat} {o : Obj} (h : DelsV B w v ds) (hb : w.heap[b]? = some (.cells cs t fz)) (h1 : t ≠ 90) (h2 : t ≠ 47) (hp : Put w w' b o) : DelsV B w' v ds := by
 obtain ⟨css, a, c, e⟩ := h
 exact ⟨css, a.mv hp.mv (.inr (a.neBlock hb h1)), c, fun i d hi => let ⟨g, n, x, y, z⟩ := e i d hi; ⟨g, n, x, y.mv hp.mv (.inr (y.neBlock hb h2)), z.mv hp.mv (.inr (z.neBlock hb h2))⟩⟩
theorem DelsV.len {B : Nat} {w : World} {v : Value} {ds : List DeltaR} (h : DelsV B w v ds) : ∃ css, Sl 4 w v css ∧ css.length = ds.length := let ⟨css, a, c, _⟩ := h; ⟨css, a.sl, c⟩
def jC (o : List UInt8) (v : Value) (room : Int) (dv : Value) : List Value := [aH o, v, .int .i64 room, dv]
structure JAt (w0 w : World) (b : Nat) (o : List UInt8) (l : List RSet) (room : Int) (ds : List DeltaR) : Prop where
 ge : w0.heap.size ≤ b
 ext : Ext w0 w
 out : ∃ v dv, w.heap[b]? = some (.cells (jC o v room dv).toArray 84 (0, 0)) ∧ SetsV w0.heap.size w v l ∧ DelsV w0.heap.size w dv ds
theorem JAt.grow {w0 w w' : World} {b : Nat} {o : List UInt8} {l : List RSet} {room : Int} {ds : List DeltaR} (h : JAt w0 w b o l room ds) (hx : Ext w w') : JAt w0 w' b o l room ds := by
 obtain ⟨h1, h2, v, dv, h3, h4, h5⟩ := h
 exact ⟨h1, h2.trans hx, v, dv, hx.at h3, h4.ext hx, h5.ext hx⟩
theorem nN {w : World} {b : Nat} {o : List UInt8} {v dv : Value} {room : Int} (h : w.heap[b]? = some (.cells (jC o v room dv).toArray 84 (0, 0))) :
 Pts w (.pointer (some ⟨b, 0, none⟩)) (jC o v room dv) ∧ Pts w (bG (.pointer (some ⟨b, 0, none⟩)) 0) [aH o, v] := by
 have hp := aE h
 exact ⟨hp, (hp.part 0).front 2⟩
theorem SetsV.sets {B : Nat} {w : World} {v : Value} {l : List RSet} (h : SetsV B w v l) : SetsAt w v l := by
 obtain ⟨css, h1, h2⟩ := h
 exact h2.sets.sets h1.sl
theorem DK {w0 w : World} {b : Nat} {o : List UInt8} {l : List RSet} {room : Int} {ds : List DeltaR} (h : JAt w0 w b o l room ds) (hb : ∀ s ∈ l, s.data.length ≤ 1000000) (hd : ∀ s ∈ l, ∀ d ∈ s.data, d.length ≤ 4611686018427387904) :
 Calls Tryz.prog 32 #[.pointer (some ⟨b, 0, none⟩)] w (bC w (.int .i64 (bD o l).serial)) := by
 obtain ⟨v, dv, hbk, hs, hds⟩ := h.out
 obtain ⟨hp, hp0⟩ := nN hbk
 go_enter Tryz.func32, Tryz.ntmps32
 refine_lift gO fun _ _ _ _ => ?_
 refine aN (Runs.isNil rfl rfl (by kernel_rfl)) ?_
 refine aA ?_
 refine_lift kT fun _ _ _ => ?_
 refine aB (enters_of Tryz.func31 rfl rfl) rfl rfl (qV o v l _ hs.sets hb hd) ?_; intro w1 x1; refine aA ?_
 refine_lift aP ?_
 refine aF (z := aX) rfl (by decide +kernel) ?_
 intro w2 x2 s2 h2
 refine aA ?_
 refine aD (v := .agg (bD o l).cells.toArray) rfl rfl rfl h2 (show aO Tryz.prog 67 7 = true by decide +kernel) rfl (dS _) ?_
 intro w3 p3
 have x3 : Ext w1 w3 := x2.move p3.mv (by rintro k ⟨⟩; exact Nat.le_refl _)
 have hs3 := aE (cs := (bD o l).cells) p3.this
 refine_lift aP ?_
 go_ret
 exact ⟨rfl, x1.trans x3⟩
theorem PK {w0 w : World} {b : Nat} {o : List UInt8} {l : List RSet} {room : Int} {ds : List DeltaR} (h : JAt w0 w b o l room ds) (hl : l.length ≤ 100000) (hb : ∀ s ∈ l, s.data.length ≤ 1000000) :
 Calls Tryz.prog 33 #[.pointer (some ⟨b, 0, none⟩)] w (jK w fun r w' => ∃ y, r = .agg #[aH o, y] ∧ SetsV w.heap.size w' y l) := by
 obtain ⟨v, dv, hbk, hs, hds⟩ := h.out
 go_enter Tryz.func33, Tryz.ntmps33
 refine_lift rF ?_; intro _ _ _
 refine aF (z := aZ) rfl (by decide +kernel) ?_
 intro w1 x1 s1 h1
 refine aA ?_
 have hbk1 := x1.at hbk
 obtain ⟨hp, hp0⟩ := nN hbk1
 have hs1 := hs.ext x1
 refine_lift gO fun _ _ _ _ => ?_
 refine aN (Runs.isNil rfl rfl (by kernel_rfl)) ?_
 refine aA ?_
 refine_lift kT fun _ _ _ => ?_
 refine aI (enters_of Tryz.func44 rfl rfl) rfl rfl (vT o v l _ hs1.sets hl hb) ?_
 rintro r w2 x2 ⟨y, rfl, hy⟩
 have h2 := x2.at h1
 have hy1 : y.oneCell' = true := by obtain ⟨_, _, _, rfl⟩ := hy.slf; rfl
 refine aA ?_
 refine_lift aP ?_
 refine aD (v := .agg #[aH o, y]) rfl rfl rfl h2 (show aO Tryz.prog 25 2 = true by decide +kernel) rfl (cX hy1) ?_
 intro w3 p3
 have x3 : Ext w w3 := (x1.trans x2).move p3.mv (by rintro k ⟨⟩; exact Nat.le_refl _)
 refine_lift aP ?_
 exact bodyPost_ret (dU (cs := [aH o, y]) rfl rfl p3.this (show cY Tryz.prog 25 2 = true by decide +kernel)) rfl ⟨_, rfl, x3, y, rfl, (hy.put h2 (by decide) (by decide) p3).weaken x1.size⟩
def iW (o : List UInt8) (l : List RSet) (room : Int) : Int := if aQ o l ≠ 0 then aQ o l else if room < 0 ∨ 20 < room then 1 else 0
theorem OF (o : List UInt8) (v : Value) (l : List RSet) (room : Int) (w : World) (hv : SetsAt w v l) (hl : l.length ≤ 100000) (hb : ∀ s ∈ l, s.data.length ≤ 1000000) :
 Calls Tryz.prog 14 #[.agg #[aH o, v], .int .i64 room] w fun e w' => (iW o l room ≠ 0 ∧ e = .returned (.tuple #[.pointer none, .int .i64 (iW o l room)]) ∧ Ext w w') ∨
  (iW o l room = 0 ∧ ∃ b, e = .returned (.tuple #[.pointer (some ⟨b, 0, none⟩), .int .i64 0]) ∧ JAt w w' b o l room []) := by
 go_enter Tryz.func14, Tryz.ntmps14
 refine_lift rF ?_; intro _ _ _
 refine aT (vs := [aH o, v]) rfl rfl ?_
 intro p w1 x1 hp
 refine aA ?_
 have hv1 := hv.ext x1
 refine_lift gO fun _ _ _ _ => ?_
 refine aB (enters_of Tryz.func34 rfl rfl) rfl rfl (tV o v l _ hv1 hb) ?_; intro w2 x2; refine aA ?_
 have hx2 := x1.trans x2
 have hp2 := hp.ext x2
 have hv2 := hv1.ext x2
 refine_lift JH (fun _ _ _ hc _ => ?_) (fun _ hc _ _ _ => ?_) (fun _ _ _ hc => ?_) (fun _ => ?_)
 ·have q : ¬ aQ o l = 0 := by simpa using (by assumption : (!decide (aQ o l = 0)) = true)
  have hE : iW o l room = aQ o l := by rw [iW, if_pos q]
  go_ret2
  exact .inl ⟨by rw [hE]; exact q, by rw [hE]; rfl, hx2⟩
 ·have hE : iW o l room = 1 := by
   have q : aQ o l = 0 := by simpa using (by assumption : (!decide (aQ o l = 0)) = false)
   rw [iW, if_neg (by simp [q]), if_pos (by omega)]
  go_ret2
  exact .inl ⟨by rw [hE]; decide, by rw [hE]; rfl, hx2⟩
 ·have q : aQ o l = 0 := by simpa using (by assumption : (!decide (aQ o l = 0)) = false)
  have hE : iW o l room = 0 := by
   have h1 := ‹¬ room < 0›
   have h2 := ‹room ≤ 20›
   rw [iW, if_neg (by simp [q]), if_neg (by omega)]
  refine aI (enters_of Tryz.func44 rfl rfl) rfl rfl (vT o v l _ hv2 hl hb) ?_
  rintro r w3 x3 ⟨y, rfl, hy⟩
  obtain ⟨ya, yn, yc, hys⟩ := hy.slf
  refine aA ?_
  refine_lift aP ?_
  refine aU (v := .agg (jC o y room (.slice none 0 0)).toArray) rfl (Runs.build (vals := [(0, .agg #[aH o, y]), (1, .int .i64 room)]) rfl (by rw [hys]; kernel_rfl)) ?_
  refine aA ?_
  refine dL (vs := jC o y room (.slice none 0 0)) rfl rfl ?_
  intro w4 x4 s4 b4
  refine aA ?_
  refine_lift aP ?_
  go_ret2
  have hx3 := hx2.trans x3
  exact .inr ⟨hE, w3.heap.size, rfl, hx3.size, hx3.trans x4, y, _, b4, (hy.ext x4).weaken hx2.size, DelsV.nil _ _⟩
 ·have hE : iW o l room = 1 := by
   have q : aQ o l = 0 := by simpa using (by assumption : (!decide (aQ o l = 0)) = false)
   rw [iW, if_neg (by simp [q]), if_pos (by omega)]
  go_ret2
  exact .inl ⟨by rw [hE]; decide, by rw [hE]; rfl, hx2⟩
end Go.Proofs.X
