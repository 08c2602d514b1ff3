/- Laws and walks that the proof of the statement is made of (part 17). -/
import Derived.Test.YteofaejlmdplhaaGreatP16
set_option linter.unusedSimpArgs false
set_option linter.unusedVariables false
namespace Go.Proofs.X
open Go.RowKit
set_option maxRecDepth 100000
theorem nV {α : Type} {p : α → Bool} {l : List α} {k : Nat} (h : k < l.length) : (l.take (k + 1)).filter p = (l.take k).filter p ++ if p l[k] = true then [l[k]] else [] := by
 rw [List.take_succ_eq_append_getElem h, List.filter_append]
 congr 1
 simp [List.filter_cons]
theorem iP {α : Type} (p : α → Bool) (l : List α) : (l.filter p).length ≤ l.length := List.length_filter_le p l
theorem lL (r : Rec) : aS r = decide (r.kind = 6) := rfl
set_option maxHeartbeats 2000000 in
theorem rD (v : Value) (l : List Rec) (w : World) (hv : Sl 4 w v (aC l)) (hl : l.length ≤ 100000) : Calls Tryz.prog 55 #[v] w (jK w fun r w' => Own w.heap.size 4 47 w' r (aC (fJ l))) := by
 have hlen := aG l
 go_enter Tryz.func55, Tryz.ntmps55
 refine_lift kT ?_; intro _ _ _
 go_loopw [3, 4] (fun o i wr => ∃ k : Nat, k ≤ l.length ∧ i = .int .i64 k ∧ Ext w wr ∧ Own w.heap.size 4 47 wr o (aC ((l.take k).filter aS))) (fun _ i _ => l.length - (intOf i).toNat)
 case atStart => exact ⟨0, Nat.zero_le _, rfl, Ext.refl _, by simpa [aC] using Own.nil _ _ _ _⟩
 case round =>
  obtain ⟨k, hk, rfl, hx, ho⟩ := hrel
  have hu2 := hv.ext hx
  by_cases hlt : k < l.length
  ·have hpe := hu2.elem (dI hlt)
   have hst := nV (p := aS) hlt
   have hll := iP aS (l.take k)
   rw [List.length_take] at hll
   have hcl := aG ((l.take k).filter aS)
   cases hm : aS l[k] with
   | false =>
    rw [hm, if_neg (by decide), List.append_nil] at hst
    have hm6 : ¬ l[k].kind = 6 := by rw [lL] at hm; simpa using hm
    refine_lift bS fun _ _ => ?_
    exact ⟨⟨k + 1, by omega, by go_num, hx, by rw [hst]; exact ho⟩, by simp [intOf]; omega⟩
   | true =>
    rw [hm, if_pos rfl] at hst
    have hm6 : l[k].kind = 6 := by rw [lL] at hm; simpa using hm
    refine_lift MG ?_; intro _ _ _ _ _
    refine JE [aH l[k].name, .int .i64 l[k].kind, .int .i64 l[k].ttl, aH l[k].data] hx ho (by omega) ?_ (iV rfl)
    intro s5 v5 w5 w6 x5 m6 x6 o6
    refine aA ?_
    refine_lift aP ?_
    refine ⟨⟨k + 1, by omega, by go_num, x6, ?_⟩, by simp [intOf]; omega⟩
    rw [hst]
    simpa [aC, Rec.cells] using o6
  ·have : k = l.length := by omega
   subst this
   rw [List.take_length] at ho
   have hx0 := hx
   clear hu2
   refine_lift kT fun _ _ _ => ?_
   go_loopw [3, 5] (fun o i wr => ∃ k : Nat, k ≤ l.length ∧ i = .int .i64 k ∧ Ext w wr ∧ Own w.heap.size 4 47 wr o (aC (l.filter aS ++ (l.take k).filter fun r => !aS r))) (fun _ i _ => l.length - (intOf i).toNat)
   case atStart => exact ⟨0, Nat.zero_le _, rfl, hx, by simpa [aC] using ho⟩
   case round =>
    clear ho hx hx0
    obtain ⟨k, hk, rfl, hx, ho⟩ := hrel
    have hu2 := hv.ext hx
    by_cases hlt : k < l.length
    ·have hpe := hu2.elem (dI hlt)
     have hst := nV (p := fun r => !aS r) hlt
     have hl1 := iP aS l
     have hll := iP (fun r => !aS r) (l.take k)
     rw [List.length_take] at hll
     have hcl := aG (l.filter aS ++ (l.take k).filter fun r => !aS r)
     rw [List.length_append] at hcl
     cases hm : aS l[k] with
     | true =>
      rw [hm, if_neg (by decide), List.append_nil] at hst
      have hm6 : l[k].kind = 6 := by rw [lL] at hm; simpa using hm
      (repeat' first | ((with_reducible refine cI ?_); go_step) | ((with_reducible refine bJ ?_); first | refine fD ?_ | (refine cZ ?_ ?_ <;> intro hc)) | fail)
      all_goals first
       | (exfalso; have hh := ‹(!decide (l[k].kind = 6)) = true›; simp [hm6] at hh; done)
       | skip
      exact ⟨⟨k + 1, by omega, by go_num, hx, by rw [hst]; exact ho⟩, by simp [intOf]; omega⟩
     | false =>
      rw [hm, if_pos (by decide)] at hst
      have hm6 : ¬ l[k].kind = 6 := by rw [lL] at hm; simpa using hm
      (repeat' first | ((with_reducible refine cI ?_); go_step) | ((with_reducible refine bJ ?_); first | refine fD ?_ | (refine cZ ?_ ?_ <;> intro hc)) | fail)
      all_goals first
       | (exfalso; have hh := ‹(!decide (l[k].kind = 6)) = false›; simp [hm6] at hh; done)
       | skip
      refine JE [aH l[k].name, .int .i64 l[k].kind, .int .i64 l[k].ttl, aH l[k].data] hx ho (by omega) ?_ (iV rfl)
      intro s5 v5 w5 w6 x5 m6 x6 o6
      refine aA ?_
      refine_lift aP ?_
      refine ⟨⟨k + 1, by omega, by go_num, x6, ?_⟩, by simp [intOf]; omega⟩
      rw [hst]
      simpa [aC, Rec.cells] using o6
    ·have : k = l.length := by omega
     subst this
     rw [List.take_length] at ho
     refine_lift fG fun _ => ?_
     go_ret
     exact ⟨_, rfl, hx, ho⟩
set_option maxHeartbeats 2000000 in
theorem EA (o : List UInt8) (v : Value) (l : List RSet) (w : World) (hv : SetsAt w v l) (hz : aQ o l = 0) (hb : ∀ s ∈ l, s.data.length ≤ 1000000) :
 Calls Tryz.prog 42 #[.agg #[aH o, v]] w (bC w (.agg #[aH (soaRec o l).name, .int .i64 (soaRec o l).kind, .int .i64 (soaRec o l).ttl, aH (soaRec o l).data])) := by
 obtain ⟨s, hf, hs, hn, hk, hdat, hpar, hlen⟩ := (eW hz).soaSet
 have hR : soaRec o l = ⟨o, 6, s.ttl, gR o l⟩ := by rw [soaRec, hf]; show fZ s _ = _; rw [fZ, hn, hk]
 rw [hR]
 clear hpar hR
 generalize gR o l = dd at *
 go_enter Tryz.func42, Tryz.ntmps42
 refine_lift gT fun _ _ => ?_
 refine aT (vs := [aH o, v]) rfl rfl ?_
 intro p w1 x1 hp
 refine aA ?_
 refine aF (z := AZ) rfl (by decide +kernel) ?_
 intro w2 x2 s2 h2
 refine aA ?_
 have hx2 := x1.trans x2
 have hp2 := hp.ext x2
 have hv2 := hv.ext hx2
 refine_lift bS fun _ _ => ?_
 refine aI (enters_of Tryz.func95 rfl rfl) rfl rfl (AT v l o 6 _ hv2 hb) ?_
 intro r4 w4 x4 hr4
 rw [hf] at hr4
 obtain ⟨y, rfl, oy⟩ := hr4
 have hx4 := hx2.trans x4
 refine_lift aP ?_
 refine aF (z := iS) rfl (by decide +kernel) ?_
 intro w5 x5 s5 h5
 refine aA ?_
 refine aD (v := .agg #[aH s.name, .int .i64 s.kind, .int .i64 s.ttl, y]) rfl rfl rfl h5 (show aO Tryz.prog 119 4 = true by decide +kernel) rfl (fU rfl rfl rfl oy.one) ?_
 intro w6 p6
 have x6 : Ext w4 w6 := x5.move p6.mv (by rintro k ⟨⟩; exact Nat.le_refl _)
 have hp6 := aE (cs := [aH s.name, .int .i64 s.kind, .int .i64 s.ttl, y]) p6.this
 have hy6 := oy.sl.ext x6
 rw [hdat] at hy6
 have hx6 := hx4.trans x6
 have h6 := (x4.trans x6).at h2
 have hy0 := hy6.elem (i := 0) (e := [aH dd]) rfl
 have hpz := hp2.ext (x4.trans x6)
 clear p6 h5 x5
 have hl1 : (aM [dd]).length = 1 := rfl
 refine_lift bS fun _ _ => ?_
 refine bT 9 (Ext w6) (by decide +kernel) ?_
 intro w7 x7 _
 refine ⟨x7, ?_⟩
 refine dR 0 ?_; refine dR 1 ?_; refine dR 2 ?_; refine dR 3 ?_; refine dR 4 ?_; refine dR 5 ?_
 refine jL 6 rfl (fun _ => Runs.idxW (n := 0) rfl hy6 (by rw [hl1]; omega) (by decide +kernel)) ?_
 refine aA ?_
 refine dR 7 ?_
 refine jL 8 (v := .agg #[aH o, .int .i64 6, .int .i64 s.ttl, aH dd]) rfl (fun _ => Runs.build rfl (by kernel_rfl)) ?_
 refine aA ?_
 refine bL (i := 9) (by decide +kernel) rfl rfl ?_
 refine aD (v := .agg #[aH o, .int .i64 6, .int .i64 s.ttl, aH dd]) rfl rfl rfl (x7.at h6) (show aO Tryz.prog 47 4 = true by decide +kernel) rfl (fU rfl rfl rfl rfl) ?_
 intro w8 p8
 refine aK ⟨bV rfl, ?_⟩
 refine cN (by decide +kernel) ?_
 have x8 : Ext w w8 := (hx6.trans x7).move p8.mv (by rintro k ⟨⟩; exact x1.size)
 refine_lift aP ?_
 refine bodyPost_ret (dU (cs := [aH o, .int .i64 6, .int .i64 s.ttl, aH dd]) rfl rfl p8.this (show cY Tryz.prog 47 4 = true by decide +kernel)) rfl ⟨rfl, x8⟩
theorem EB {o : List UInt8} {l : List RSet} (h : ZoneOk o l) : gL o l = soaRec o l :: (aL l).filter (fun r => !aS r) ++ [soaRec o l] := by
 obtain ⟨os, q, hr⟩ := h.recs
 rw [hr.whole h]
 have e : (aL l).filter (fun r => !aS r) = os := by
  rw [hr.eq, eU, List.filter_append, List.filter_cons, (oM h).2.1]
  rw [Bool.not_true, if_neg (by decide), ← List.filter_append, List.take_append_drop, List.filter_eq_self.2]
  intro r hr'
  rw [hr.non r hr']; rfl
 rw [e]
set_option maxHeartbeats 2000000 in
theorem AB (o : List UInt8) (v : Value) (l : List RSet) (w : World) (hv : SetsAt w v l) (hb : ∀ s ∈ l, s.data.length ≤ 1000000) (hd : ∀ s ∈ l, ∀ d ∈ s.data, d.length ≤ 4611686018427387904) :
 Calls Tryz.prog 12 #[.agg #[aH o, v]] w (jK w fun r w' => ∃ y, r = .tuple #[y, .int .i64 (aQ o l)] ∧ Own w.heap.size 4 47 w' y (aC (gL o l))) := by
 go_enter Tryz.func12, Tryz.ntmps12
 refine_lift rF ?_; intro _ _ _
 refine aT (vs := [aH o, v]) rfl rfl ?_
 intro p w1 x1 hp
 refine aA ?_
 refine_lift bS fun _ _ => ?_
 refine aB (enters_of Tryz.func41 rfl rfl) rfl rfl (vG o v l _ (hv.ext x1) hb hd) ?_; intro w2 x2; refine aA ?_
 have hx2 := x1.trans x2
 by_cases hz : aQ o l = 0
 ·have hok := eW hz
  obtain ⟨zl, zb, zd, zr⟩ := nO hok
  rw [hz]
  refine_lift bS fun _ _ => ?_
  refine aB (enters_of Tryz.func42 rfl rfl) rfl rfl (EA o v l _ (hv.ext hx2) hz hb) ?_; intro w3 x3; refine aA ?_
  have hx3 := hx2.trans x3
  have hp3 := hp.ext (x2.trans x3)
  refine_lift aP ?_
  refine aF (z := AZ) rfl (by decide +kernel) ?_
  intro w4 x4 s4 h4
  refine aA ?_
  refine aD (v := .agg (soaRec o l).cells.toArray) rfl rfl rfl h4 (show aO Tryz.prog 47 4 = true by decide +kernel) rfl (fU rfl rfl rfl rfl) ?_
  intro w5 p5
  have x5 : Ext w3 w5 := x4.move p5.mv (by rintro k ⟨⟩; exact Nat.le_refl _)
  have hp5 := aE (cs := [aH (soaRec o l).name, .int .i64 (soaRec o l).kind, .int .i64 (soaRec o l).ttl, aH (soaRec o l).data]) p5.this
  have hpz5 := hp3.ext x5
  have hx5 := hx3.trans x5
  clear p5 h4 x4
  refine_lift bS fun _ _ => ?_
  refine bR (e := 47) (k := 4) (bytes := 48) (xs := [.agg #[aH (soaRec o l).name, .int .i64 (soaRec o l).kind, .int .i64 (soaRec o l).ttl, aH (soaRec o l).data]]) rfl rfl rfl (by simp [Value.cells]) (by decide +kernel) (by simp) ?_
  intro v6 w6 x6 _ _ o6
  refine aA ?_
  have hx6 := hx5.trans x6
  have hp6 := hp5.ext x6
  have hz6 := hpz5.ext x6
  refine_lift bS fun _ _ => ?_
  refine aI (enters_of Tryz.func43 rfl rfl) rfl rfl (qC v l _ (hv.ext hx6) (by omega)) ?_
  intro r7 w7 x7 o7
  refine aA ?_
  have hw7 := o6.ext x7
  have x57 := x6.trans x7
  have hne7 : r7.ownBlock = none ∨ r7.ownBlock ≠ v6.ownBlock := by
   cases hr : r7.ownBlock with
   | none => exact .inl rfl
   | some b =>
    refine .inr fun e => ?_
    have h1 := (o7.block b hr).1
    have h2 := (o6.block b e.symm).2
    omega
  have hwh := EB hok
  have hB5 := hx5.size
  clear hpz5 hp3 hp6 hz6 o6 hx3 hx2 hx6 x1 x2 x3 x5 x6 x7 hp s4
  generalize aL l = L at *
  generalize soaRec o l = h at *
  have hlen := aG L
  refine_lift bS fun _ _ => ?_
  go_loopw [6, 8] (fun u i wr => ∃ k : Nat, k ≤ L.length ∧ i = .int .i64 k ∧ Ext w5 wr ∧ Own w5.heap.size 4 47 wr u (aC (h :: (L.take k).filter fun r => !aS r)) ∧ Own w6.heap.size 4 47 wr r7 (aC L) ∧ (r7.ownBlock = none ∨ r7.ownBlock ≠ u.ownBlock)) (fun _ i _ => L.length - (intOf i).toNat)
  case atStart => exact ⟨0, Nat.zero_le _, rfl, x57, hw7, o7, hne7⟩
  case round =>
   clear hw7 o7 hne7 x57
   obtain ⟨k, hk, rfl, hx, ho, o7, hne⟩ := hrel
   have hu2 := o7.sl
   have hh2 := hp5.ext hx
   have hll := iP (fun r => !aS r) (L.take k)
   rw [List.length_take] at hll
   have hcl := aG (h :: (L.take k).filter fun r => !aS r)
   rw [List.length_cons] at hcl
   by_cases hlt : k < L.length
   ·have hpe := hu2.elem (dI hlt)
    have hst := nV (p := fun r => !aS r) hlt
    cases hm : aS L[k] with
    | true =>
     rw [hm, if_neg (by decide), List.append_nil] at hst
     have hm6 : L[k].kind = 6 := by rw [lL] at hm; simpa using hm
     (repeat' first | ((with_reducible refine cI ?_); go_step) | ((with_reducible refine bJ ?_); first | refine fD ?_ | (refine cZ ?_ ?_ <;> intro hc)) | fail)
     all_goals first
      | (exfalso; have hh := ‹(!decide (L[k].kind = 6)) = true›; simp [hm6] at hh; done)
      | skip
     exact ⟨⟨k + 1, by omega, by go_num, hx, by rw [hst]; exact ho, o7, hne⟩, by simp [intOf]; omega⟩
    | false =>
     rw [hm, if_pos (by decide)] at hst
     have hm6 : ¬ L[k].kind = 6 := by rw [lL] at hm; simpa using hm
     (repeat' first | ((with_reducible refine cI ?_); go_step) | ((with_reducible refine bJ ?_); first | refine fD ?_ | (refine cZ ?_ ?_ <;> intro hc)) | fail)
     all_goals first
      | (exfalso; have hh := ‹(!decide (L[k].kind = 6)) = false›; simp [hm6] at hh; done)
      | skip
     refine bR (e := 47) (k := 4) (bytes := 48) (xs := [.agg #[aH L[k].name, .int .i64 L[k].kind, .int .i64 L[k].ttl, aH L[k].data]]) rfl rfl rfl (by simp [Value.cells]) (by decide +kernel) (by simp) ?_
     intro v8 w8 x8 _ sl8 _
     refine aA ?_
     refine_lift aP ?_
     refine bW (B := w5.heap.size) (e := 47) (k := 4) rfl (ho.ext x8) rfl sl8 (by simp [Value.cells, aH, Value.oneCell']) (hx.trans x8).size (by rw [hcl]; simp; omega) ?_
     intro v9 w9 o9 m9 k9
     refine aA ?_
     refine_lift aP ?_
     have o7' := (o7.ext x8).mv m9 hne
     refine ⟨⟨k + 1, by omega, by go_num, (ho.ext x8).mvx m9 (hx.trans x8) (Nat.le_refl _), ?_, o7', ?_⟩, by simp [intOf]; omega⟩
     ·rw [hst]
      simpa [aC, Rec.cells, Value.cells] using o9
     ·rcases k9 with e | e
      ·rw [e]; exact hne
      ·cases hr : r7.ownBlock with
       | none => exact .inl rfl
       | some b =>
        refine .inr fun e2 => ?_
        have h1 := ((o7.ext x8).block b hr).2
        rw [e] at e2
        have := Option.some.inj e2
        omega
   ·have : k = L.length := by omega
    subst this
    rw [List.take_length] at ho hcl hll
    have hx0 := hx5.trans hx
    refine_lift kT fun _ _ _ => ?_
    refine JE [aH h.name, .int .i64 h.kind, .int .i64 h.ttl, aH h.data] hx0 (ho.weaken hB5) (by omega) ?_ (iV rfl)
    intro s v' w8 w9 x8 m9 x9 o9
    refine aA ?_
    refine_lift aP ?_
    go_ret2
    refine ⟨_, rfl, x9, v', by rw [hz]; rfl, ?_⟩
    rw [hwh]
    simpa [aC, Rec.cells] using o9
 ·have hz' : (!decide (aQ o l = 0)) = true := by simp [hz]
  refine_lift rQ (fun _ _ _ => ?_) (fun _ => ?_)
  all_goals first
   | (exfalso
      have hh := ‹(!decide (aQ o l = 0)) = false›
      rw [hz'] at hh
      cases hh
      done)
   | skip
  go_ret2
  exact ⟨_, rfl, hx2, _, rfl, by rw [gL, if_neg hz]; exact Own.nil _ _ _ _⟩
theorem wX {ds : List DeltaR} {k : Nat} (h : k < ds.length) : fT (ds.take (k + 1)) = fT (ds.take k) ++ (fJ ds[k].gone ++ fJ ds[k].new) := by
 unfold fT
 rw [List.take_succ_eq_append_getElem h]
 simp only [List.map_append, List.map_cons, List.map_nil, List.flatten_append, List.flatten_cons, List.flatten_nil, List.append_nil]
theorem mR : ∀ l : List Rec, (fJ l).length = l.length := by
 intro l
 unfold fJ
 rw [List.length_append]
 induction l with
 | nil => rfl
 | cons r l ih =>
  cases h : aS r
  ·simp only [List.filter_cons, h, Bool.not_false, if_true, Bool.false_eq_true, if_false, List.length_cons]; omega
  ·simp only [List.filter_cons, h, Bool.not_true, if_true, Bool.false_eq_true, if_false, List.length_cons]; omega
theorem AC (ds : List DeltaR) (k : Nat) : (fT (ds.take k)).length ≤ (fT ds).length := by
 conv => rhs; rw [← List.take_append_drop k ds]
 unfold fT
 rw [List.map_append, List.flatten_append, List.length_append]
 omega
theorem AD : ∀ (ds : List DeltaR), (∀ d ∈ ds, d.gone.length ≤ 4000 ∧ d.new.length ≤ 4000) → (fT ds).length ≤ 8000 * ds.length
 | [], _ => by simp [fT]
 | d :: ds, h => by
   have ih := AD ds fun e he => h e (List.mem_cons_of_mem _ he)
   have hd := h d (List.mem_cons_self ..)
   unfold fT at ih ⊢
   simp only [List.map_cons, List.flatten_cons, List.length_append, mR, List.length_cons]
   omega
theorem JOk.tell {o : List UInt8} {l : List RSet} {room : Int} {ds : List DeltaR} (h : JOk o l room ds) {es : List DeltaR} (he : es.length ≤ ds.length) (hm : ∀ d ∈ es, d ∈ ds) : (fT es).length ≤ 160000 := by
 have := AD es fun d hd => h.each d (hm d hd)
 have h1 := h.len
 have h2 := h.fits
 omega
def DOne (ds : List DeltaR) : Prop := ∀ d ∈ ds, (d.gone.filter aS).length ≤ 1 ∧ (d.new.filter aS).length ≤ 1
theorem DOne.next {o : List UInt8} {l : List RSet} {room : Int} {ds : List DeltaR} (h : DOne ds) (hO : JOk o l room ds) (o' : List UInt8) (l' : List RSet) : DOne (nP room o l ds o' l') := by
 unfold nP
 split
 ·rename_i hE
  obtain ⟨rfl, hz', _⟩ := GO hE
  intro d hd
  have hd' : d ∈ ds ++ [qZ o' l o' l'] := by
   unfold mX at hd
   exact List.mem_of_mem_drop hd
  rcases List.mem_append.1 hd' with hd | hd
  ·exact h d hd
  ·rw [List.mem_singleton.1 hd, (OE (LB hO.zone hz')).2.2.2]
   unfold eQ
   exact ⟨sH hO.zone _, sH hz' _⟩
 ·exact h
theorem AE (o : List UInt8) (l : List RSet) (ds : List DeltaR) (s : Int) : ∀ d ∈ (cU o l ds s).1, d ∈ ds := by
 intro d hd
 unfold cU at hd
 split at hd
 ·simp at hd
 ·split at hd
  ·exact List.mem_of_mem_drop hd
  ·simp at hd
theorem AF (o : List UInt8) (l : List RSet) (ds : List DeltaR) (s : Int) : (cU o l ds s).1.length ≤ ds.length := by
 unfold cU
 split
 ·simp
 ·split
  ·simp
  ·simp
set_option maxHeartbeats 2000000 in
theorem IS {w0 w : World} {b : Nat} {o : List UInt8} {l : List RSet} {room : Int} {ds : List DeltaR} (h : KAt w0 w b o l room ds) (hO : JOk o l room ds) (s : Int) :
 Calls Tryz.prog 19 #[.pointer (some ⟨b, 0, none⟩), .int .i64 s] w (jK w fun r w' => ∃ y, r = .tuple #[y, .int .i64 0] ∧ Own w.heap.size 4 47 w' y (aC (wP o l ds s))) := by
 obtain ⟨bl, bb, bd, bn, bg⟩ := hO.small
 have hS := IE h bb bd bn bg s
 have hzz := jZ hO.zone
 have hsub : ∀ d ∈ (cU o l ds s).1, d ∈ ds := AE o l ds s
 have hsl : (cU o l ds s).1.length ≤ ds.length := AF o l ds s
 have htl := hO.tell hsl hsub
 have hgl : ∀ d ∈ (cU o l ds s).1, d.gone.length ≤ 100000 ∧ d.new.length ≤ 100000 := fun d hd => bg d (hsub d hd)
 have hX : wP o l ds s = if (cU o l ds s).2 = false then gL o l else if (cU o l ds s).1 = [] then [soaRec o l] else soaRec o l :: (fT (cU o l ds s).1 ++ [soaRec o l]) := rfl
 rw [hX]
 clear hX hsub
 generalize cU o l ds s = R at *
 obtain ⟨E, B⟩ := R
 simp only at hS hsl htl hgl ⊢
 go_enter Tryz.func19, Tryz.ntmps19
 (repeat' first | ((with_reducible refine cI ?_); go_step) | ((with_reducible refine bJ ?_); first | refine gN ?_ | (refine cZ ?_ ?_ <;> intro hc)) | fail)
 refine aI (enters_of Tryz.func54 rfl rfl) rfl rfl hS ?_
 rintro _ w1 x1 ⟨dv, rfl, hD⟩
 refine aA ?_
 have hJ := h.grow x1
 obtain ⟨kv, ev, hcb, hcs, hcd⟩ := hJ.out
 have hkp := (lJ hcb).2
 have hkv := hcs.sets
 cases B with
 | false =>
  (repeat' first | ((with_reducible refine cI ?_); go_step) | ((with_reducible refine bJ ?_); first | refine gN ?_ | (refine cZ ?_ ?_ <;> intro hc)) | fail)
  refine aI (enters_of Tryz.func12 rfl rfl) rfl rfl (AB o kv l _ hkv bb bd) ?_
  rintro _ w2 x2 ⟨y, rfl, oy⟩
  refine aA ?_
  (repeat' first | ((with_reducible refine cI ?_); go_step) | ((with_reducible refine bJ ?_); first | refine gN ?_ | (refine cZ ?_ ?_ <;> intro hc)) | fail)
  go_ret2
  exact ⟨_, rfl, x1.trans x2, y, by rw [hzz]; rfl, by simpa using oy.weaken x1.size⟩
 | true =>
  (repeat' first | ((with_reducible refine cI ?_); go_step) | ((with_reducible refine bJ ?_); first | refine gN ?_ | (refine cZ ?_ ?_ <;> intro hc)) | fail)
  refine aB (enters_of Tryz.func42 rfl rfl) rfl rfl (EA o kv l _ hkv hzz bb) ?_; intro w2 x2; refine aA ?_
  refine aF (z := AZ) rfl (by decide +kernel) ?_
  intro w3 x3 s3 h3
  refine aA ?_
  refine aD (v := .agg (soaRec o l).cells.toArray) rfl rfl rfl h3 (show aO Tryz.prog 47 4 = true by decide +kernel) rfl (fU rfl rfl rfl rfl) ?_
  intro w4 p4
  have x4 : Ext w2 w4 := x3.move p4.mv (by rintro k ⟨⟩; exact Nat.le_refl _)
  have hp4 := aE (cs := [aH (soaRec o l).name, .int .i64 (soaRec o l).kind, .int .i64 (soaRec o l).ttl, aH (soaRec o l).data]) p4.this
  have hx4 := (x1.trans x2).trans x4
  have hD4 := hD.ext (x2.trans x4)
  clear p4 h3 x3 s3
  generalize w2.heap.size = hb at *
  (repeat' first | ((with_reducible refine cI ?_); go_step) | ((with_reducible refine bJ ?_); first | refine gN ?_ | (refine cZ ?_ ?_ <;> intro hc)) | fail)
  refine bR (e := 47) (k := 4) (bytes := 48) (xs := [.agg #[aH (soaRec o l).name, .int .i64 (soaRec o l).kind, .int .i64 (soaRec o l).ttl, aH (soaRec o l).data]]) rfl rfl rfl (by simp [Value.cells]) (by decide +kernel) (by simp) ?_
  intro v5 w5 x5 _ _ o5
  refine aA ?_
  have hx5 := hx4.trans x5
  have hD5 := hD4.ext x5
  have hp5 := hp4.ext x5
  obtain ⟨css, hsl5, hcl, hat⟩ := hD5.each
  clear hcb hkp hkv hD hS hcs hcd hJ
  by_cases hE : E = []
  ·have hc0 : (css.length : Int) = 0 := by rw [hcl, hE]; rfl
   (repeat' first | ((with_reducible refine cI ?_); go_step) | ((with_reducible refine bJ ?_); first | refine gN ?_ | (refine cZ ?_ ?_ <;> intro hc)) | fail)
   all_goals first
    | (exfalso; omega)
    | skip
   go_ret2
   refine ⟨_, rfl, hx5, v5, rfl, ?_⟩
   rw [if_neg (by simp), if_pos hE]
   simpa [aC, Rec.cells, Value.cells] using o5.weaken hx4.size
  ·have hc0 : ¬ (css.length : Int) = 0 := by
    have := List.length_pos_iff.2 hE
    omega
   (repeat' first | ((with_reducible refine cI ?_); go_step) | ((with_reducible refine bJ ?_); first | refine gN ?_ | (refine cZ ?_ ?_ <;> intro hc)) | fail)
   all_goals first
    | (exfalso; omega)
    | skip
   have hD0 : Own w4.heap.size 4 47 w5 v5 (aC (soaRec o l :: fT (E.take 0))) := by simpa [aC, Rec.cells, Value.cells, fT] using o5
   have hcw := hx4.size
   clear hD5 hp5 hsl5 hcl hat hc0 o5
   obtain ⟨css4, hsl4, hcl, hat4⟩ := hD4.each
   go_loopw [9, 10] (fun u i wr => ∃ k : Nat, k ≤ E.length ∧ i = .int .i64 k ∧ Ext w4 wr ∧ Own w4.heap.size 4 47 wr u (aC (soaRec o l :: fT (E.take k)))) (fun _ i _ => E.length - (intOf i).toNat)
   case atStart => exact ⟨0, Nat.zero_le _, rfl, x5, hD0⟩
   case round =>
    clear hD0 x5 hx5
    obtain ⟨k, hk, rfl, hx, ho⟩ := hrel
    have hsl := hsl4.ext hx
    by_cases hlt : k < E.length
    ·obtain ⟨g, n, hc, sg, sn⟩ := hat4 k _ (List.getElem?_eq_getElem hlt)
     have hpe := hsl.elem hc
     have hgl1 := hgl _ (List.getElem_mem hlt)
     have hst := wX hlt
     have ht1 : (fT (E.take (k + 1))).length ≤ 160000 := Nat.le_trans (AC E (k + 1)) htl
     have hr1 := mR E[k].gone
     have hr2 := mR E[k].new
     rw [hst, List.length_append, List.length_append] at ht1
     (repeat' first | ((with_reducible refine cI ?_); go_step) | ((with_reducible refine bJ ?_); first | refine gN ?_ | (refine cZ ?_ ?_ <;> intro hc)) | fail)
     refine aI (enters_of Tryz.func55 rfl rfl) rfl rfl (rD g E[k].gone _ (sg.ext hx) hgl1.1) ?_
     intro v6 w6 x6 o6
     refine aA ?_
     refine bW (B := w4.heap.size) (e := 47) (k := 4) rfl (ho.ext x6) rfl o6.sl eK (hx.trans x6).size (by rw [aG, aG, List.length_cons]; omega) ?_
     intro v7 w7 o7 m7 _
     refine aA ?_
     have x7 : Ext w4 w7 := (ho.ext x6).mvx m7 (hx.trans x6) (Nat.le_refl _)
     rw [← kF, List.cons_append] at o7
     clear hsl hpe o6 m7 x6 ho hx
     have hsl := hsl4.ext x7
     have hpe := hsl.elem hc
     (repeat' first | ((with_reducible refine cI ?_); go_step) | ((with_reducible refine bJ ?_); first | refine gN ?_ | (refine cZ ?_ ?_ <;> intro hc)) | fail)
     refine aI (enters_of Tryz.func55 rfl rfl) rfl rfl (rD n E[k].new _ (sn.ext x7) hgl1.2) ?_
     intro v8 w8 x8 o8
     refine aA ?_
     refine bW (B := w4.heap.size) (e := 47) (k := 4) rfl (o7.ext x8) rfl o8.sl eK (x7.trans x8).size (by rw [aG, aG, List.length_cons, List.length_append]; omega) ?_
     intro v9 w9 o9 m9 _
     refine aA ?_
     have x9 : Ext w4 w9 := (o7.ext x8).mvx m9 (x7.trans x8) (Nat.le_refl _)
     rw [← kF, List.cons_append, List.append_assoc, ← hst] at o9
     (repeat' first | ((with_reducible refine cI ?_); go_step) | ((with_reducible refine bJ ?_); first | refine gN ?_ | (refine cZ ?_ ?_ <;> intro hc)) | fail)
     exact ⟨⟨k + 1, by omega, by go_num, x9, o9⟩, by simp [intOf]; omega⟩
    ·have : k = E.length := by omega
     subst this
     rw [List.take_length] at ho
     have hp9 := hp4.ext hx
     have hx9 := hx4.trans hx
     (repeat' first | ((with_reducible refine cI ?_); go_step) | ((with_reducible refine bJ ?_); first | refine gN ?_ | (refine cZ ?_ ?_ <;> intro hc)) | fail)
     refine JE [aH (soaRec o l).name, .int .i64 (soaRec o l).kind, .int .i64 (soaRec o l).ttl, aH (soaRec o l).data] hx9 (ho.weaken hcw) (by rw [aG, List.length_cons]; omega) ?_ (iV rfl)
     intro s v' w8 w9 x8 m9 x9 o9
     refine aA ?_
     (repeat' first | ((with_reducible refine cI ?_); go_step) | ((with_reducible refine bJ ?_); first | refine gN ?_ | (refine cZ ?_ ?_ <;> intro hc)) | fail)
     go_ret2
     refine ⟨_, rfl, x9, v', rfl, ?_⟩
     rw [if_neg (by simp), if_neg hE]
     simpa [aC, Rec.cells] using o9
set_option maxHeartbeats 2000000 in
theorem PS (n : Nat) (w : World) (hn : n ≤ 1000000) : Calls Tryz.prog 103 #[.slice none 0 0, .int .i64 n] w (jK w fun r w' => Own w.heap.size 4 47 w' r []) := by
 have hs := Sl.nil 4 w
 go_enter Tryz.func103, Tryz.ntmps103
 refine_lift nX ?_; intro _ _ _ _ _ _
 refine aN (Runs.capC (k := 4) (l := 0) (c := 0) (ad := none) rfl (by decide +kernel)) ?_
 refine aA ?_
 refine_lift aP ?_
 rw [show ((0 : Nat) : Int) = 0 from rfl, show ((([] : List (List Value)).length : Nat) : Int) = 0 from rfl]
 refine_lift rP (fun _ => ?_) (fun _ => ?_)
 ·have h0 : 0 < n := by omega
  refine_lift aP ?_
  refine aN (Runs.capC (k := 4) (l := 0) (c := 0) (ad := none) rfl (by decide +kernel)) ?_
  refine aA ?_
  refine_lift aP ?_
  refine JF (e := 47) (k := 4) (n := n) (z := AZ) rfl (by exact congrArg (Value.int .i64) (show ((n : Int) - (0 - 0)) = (n : Int) by omega)) h0 hn ?_
  intro g cap w1 x1 o1
  refine aA ?_
  have hrl : (List.replicate n AZ).length = n := by simp
  have hs1 := o1.sl
  have hs' := hs.ext x1
  refine_lift aP ?_
  refine aN (Runs.takeC (k := 4) (n := 0) (l := n) (c := cap) (ad := some ⟨g, 0, none⟩) rfl rfl (Nat.zero_le _) (by decide +kernel)) ?_
  refine aA ?_
  refine_lift aP ?_
  go_ret
  refine ⟨_, rfl, x1, ?_⟩
  have o2 := o1.short (m := 0) (Nat.zero_le _)
  have e : (if cap = 0 then some (⟨g, 0, none⟩ : Addr) else Option.map (fun x : Addr => x.add (0 * 4)) (some (⟨g, 0, none⟩ : Addr))) = some (⟨g, 0, none⟩ : Addr) := by
   by_cases hq : cap = 0
   ·rw [if_pos hq]
   ·rw [if_neg hq]; simp [cJ]
  rw [e]
  exact o2
 ·refine_lift aP ?_
  go_ret
  exact ⟨_, rfl, Ext.refl _, Own.nil _ _ _ _⟩
theorem AG {us : List Value} {k : Nat} (h : k < us.length) : (us.map fun u => [u])[k]? = some [us[k]] := by simp [h]
set_option maxHeartbeats 2000000 in
theorem MB (v : Value) (us : List Value) (ls : List (List Rec)) (w : World) (hv : Sl 1 w v (us.map fun u => [u])) (hl : us.length = ls.length) (hu : ∀ k (h1 : k < us.length) (h2 : k < ls.length), Sl 4 w us[k] (aC ls[k])) (hb : ls.flatten.length ≤ 400000) :
 Calls Tryz.prog 53 #[v] w (jK w fun r w' => Own w.heap.size 4 47 w' r (aC ls.flatten)) := by
 have hle := hv.le
 have hul : (us.map fun u => [u]).length = us.length := by simp
 go_enter Tryz.func53, Tryz.ntmps53
 refine_lift kT ?_; intro _ _ _
 go_loopw [3, 5, 11] (fun sz _ i wr => ∃ k : Nat, k ≤ us.length ∧ i = .int .i64 k ∧ sz = .int .i64 ((ls.take k).flatten.length : Nat) ∧ Ext w wr) (fun _ _ i _ => us.length - (intOf i).toNat)
 case atStart => exact ⟨0, Nat.zero_le _, rfl, rfl, Ext.refl _⟩
 case round =>
  obtain ⟨k, hk, rfl, rfl, hx⟩ := hrel
  have hv2 := hv.ext hx
  have hst : ∀ m, ((ls.take m).flatten.length) ≤ 400000 := by
   intro m
   have : (ls.take m).flatten.length + (ls.drop m).flatten.length = ls.flatten.length := by rw [← List.length_append, ← List.flatten_append, List.take_append_drop]
   omega
  by_cases hlt : k < us.length
  ·have hpe := hv2.elem (AG hlt)
   have hue := (hu k hlt (by omega)).ext hx
   have hst1 := hst (k + 1)
   have hst0 := hst k
   have hlt2 : k < ls.length := by omega
   have htk : (ls.take (k + 1)).flatten.length = (ls.take k).flatten.length + ls[k].length := by rw [List.take_succ_eq_append_getElem hlt2, List.flatten_append, List.length_append]; simp
   have hrl := aG ls[k]
   refine_lift bS fun _ _ => ?_
   refine ⟨⟨k + 1, by omega, by go_num, congrArg (Value.int .i64) (by rw [htk, hrl]; omega), hx⟩, by simp [intOf]; omega⟩
  ·have : k = us.length := by omega
   subst this
   have hfu : ls.take us.length = ls := by rw [hl, List.take_length]
   rw [hfu]
   refine_lift kT fun _ _ _ => ?_
   refine aI (enters_of Tryz.func103 rfl rfl) rfl rfl (PS ls.flatten.length _ (by omega)) ?_
   intro u w1 x1 o1
   refine aA ?_
   have hx1 := hx.trans x1
   have hv3 := hv.ext hx1
   refine_lift bS fun _ _ => ?_
   go_loopw [6, 8, 27] (fun o _ i wr' => ∃ k : Nat, k ≤ us.length ∧ i = .int .i64 k ∧ Ext w wr' ∧ Own w.heap.size 4 47 wr' o (aC (ls.take k).flatten)) (fun _ _ i _ => us.length - (intOf i).toNat)
   case atStart => exact ⟨0, Nat.zero_le _, rfl, hx1, by simpa [aC] using o1.weaken hx.size⟩
   case round =>
    obtain ⟨k, hk, rfl, hx4, ho⟩ := hrel
    have hv4 := hv.ext hx4
    by_cases hlt : k < us.length
    ·have hpe := hv4.elem (AG hlt)
     have hue := (hu k hlt (by omega)).ext hx4
     have hlt2 : k < ls.length := by omega
     have htk : (ls.take (k + 1)).flatten = (ls.take k).flatten ++ ls[k] := by rw [List.take_succ_eq_append_getElem hlt2, List.flatten_append]; simp
     have hst1 := hst (k + 1)
     rw [htk, List.length_append] at hst1
     refine_lift gO ?_; intro _ _ _ _
     refine bW (B := w.heap.size) (e := 47) rfl ho rfl hue eK hx4.size (by rw [aG, aG]; omega) ?_
     intro v5 w5 o5 m5 _
     have x5 := ho.mvx m5 hx4 (Nat.le_refl _)
     refine aA ?_
     refine_lift aP ?_
     refine ⟨⟨k + 1, by omega, by go_num, x5, ?_⟩, by simp [intOf]; omega⟩
     rw [htk, aC, List.map_append]
     exact o5
    ·have : k = us.length := by omega
     subst this
     rw [hfu] at ho
     refine_lift fG fun _ => ?_
     go_ret
     exact ⟨_, rfl, hx4, ho⟩
theorem Sl.cell1 {k : Nat} {w : World} {v : Value} {es : List (List Value)} (h : Sl k w v es) : v.cells.toList = [v] := by obtain ⟨_, _, _, rfl⟩ := h.slf; rfl
theorem RR {u1 u2 u3 : Value} {w : World} {a b c : List Rec} (h1 : Sl 4 w u1 (aC a)) (h2 : Sl 4 w u2 (aC b)) (h3 : Sl 4 w u3 (aC c)) :
 ∀ k (h : k < [u1, u2, u3].length) (h' : k < [a, b, c].length), Sl 4 w [u1, u2, u3][k] (aC [a, b, c][k])
 | 0, _, _ => h1
 | 1, _, _ => h2
 | 2, _, _ => h3
theorem PT {u1 u2 u3 : Value} (h1 : u1.cells.toList = [u1]) (h2 : u2.cells.toList = [u2]) (h3 : u3.cells.toList = [u3]) : ∀ x ∈ [u1, u2, u3], x.cells.size = 1 := by
 intro x hx
 simp only [List.mem_cons, List.not_mem_nil, or_false] at hx
 rcases hx with rfl | rfl | rfl
 ·rw [← Array.length_toList, h1]; rfl
 ·rw [← Array.length_toList, h2]; rfl
 ·rw [← Array.length_toList, h3]; rfl
theorem PU {u1 u2 u3 : Value} (h1 : u1.cells.toList = [u1]) (h2 : u2.cells.toList = [u2]) (h3 : u3.cells.toList = [u3]) : [u1, u2, u3].map (·.cells.toList) = [u1, u2, u3].map fun u => [u] := by
 simp [h1, h2, h3]
theorem Runs.cutH {P : Program} {a : Act} {w : World} {d : Option Nat} {ty : TypeId} {ps : String} {af : Array Edge} {g : Option (Nat × Bool)} {t : TypeId} {x hi mx : Operand} {k n : Nat} {es : List (List Value)} (h2 : a.eval hi = .int .i64 (n : Nat)) (h3 : a.eval mx = .int .i64 (n : Nat)) (h : Sl k w (a.eval x) es) (hn : n ≤ es.length) (ht : dH P t k = true) :
 Runs P (Oper.mk d (.slice t x none (some hi) (some mx)) ty ps af g) a w (X.PQ (a.eval x) k 0 n) := by
 obtain ⟨ad, cap, h4, h5, _⟩ := h
 obtain ⟨e, ie, ht, hie, hz⟩ := cK ht
 constructor
 simp [execOp, h4, h2, h3, Instr.sliceAt, Instr.slice, run_underlying ht, Instr.sliceBounds, Instr.sliceBound, asIntOf, sizeOf, typeInfo, hie, hz, show n ≤ cap by omega, X.PQ]
set_option maxHeartbeats 2000000 in
theorem EC {w0 w : World} {b : Nat} {o : List UInt8} {l : List RSet} {room : Int} {ds : List DeltaR} (h : JAt w0 w b o l room ds) (hO : JOk o l room ds) (h1 : DOne ds) (s : Int) :
 Calls Tryz.prog 18 #[.pointer (some ⟨b, 0, none⟩), .int .i64 s] w (jK w fun r w' => ∃ y, r = .tuple #[y, .int .i64 0] ∧ Sl 4 w' y (aC (wP o l ds s))) := by
 obtain ⟨bl, bb, bd, bn, bg⟩ := hO.small
 have bg' : ∀ d ∈ ds, d.gone.length ≤ 1000000 ∧ d.new.length ≤ 1000000 := fun d hd => by have := bg d hd; omega
 have hS : ∀ w2, Ext w w2 → _ := fun w2 x => NB (h.grow x) bb bd bn bg' s
 have hzz := jZ hO.zone
 have hsub : ∀ d ∈ (cU o l ds s).1, d ∈ ds := AE o l ds s
 have hsl : (cU o l ds s).1.length ≤ ds.length := AF o l ds s
 have htl := hO.tell hsl hsub
 have hgl : ∀ d ∈ (cU o l ds s).1, d.gone.length ≤ 100000 ∧ d.new.length ≤ 100000 := fun d hd => bg d (hsub d hd)
 have hol : ∀ d ∈ (cU o l ds s).1, (d.gone.filter aS).length ≤ 1 ∧ (d.new.filter aS).length ≤ 1 := fun d hd => h1 d (hsub d hd)
 have hX : wP o l ds s = if (cU o l ds s).2 = false then gL o l else if (cU o l ds s).1 = [] then [soaRec o l] else soaRec o l :: (fT (cU o l ds s).1 ++ [soaRec o l]) := rfl
 rw [hX]
 clear hX hsub h1 bg bg'
 generalize cU o l ds s = R at *
 obtain ⟨E, B⟩ := R
 simp only at hS hsl htl hgl hol ⊢
 go_enter Tryz.func18, Tryz.ntmps18
 (repeat' first | ((with_reducible refine cI ?_); go_step) | ((with_reducible refine bJ ?_); first | refine gN ?_ | (refine cZ ?_ ?_ <;> intro hc)) | fail)
 refine aI (enters_of Tryz.func33 rfl rfl) rfl rfl (PK h bl bb) ?_
 rintro _ w1 x1 ⟨zy, rfl, hz⟩
 refine aA ?_
 have hW := BH o zy l w1 hz.sets bb
 rw [hzz] at hW
 refine aI (enters_of Tryz.func11 rfl rfl) rfl rfl hW ?_
 rintro _ w2 x2 ⟨y, rfl, oy⟩
 refine aA ?_
 have hx2 := x1.trans x2
 (repeat' first | ((with_reducible refine cI ?_); go_step) | ((with_reducible refine bJ ?_); first | refine gN ?_ | (refine cZ ?_ ?_ <;> intro hc)) | fail)
 refine aI (enters_of Tryz.func51 rfl rfl) rfl rfl (hS _ hx2) ?_
 rintro _ w3 x3 ⟨dv, rfl, hD⟩
 refine aA ?_
 have hx3 := hx2.trans x3
 have sy := oy.sl.ext x3
 have hB := x1.size
 clear hW hS hz oy h
 cases B with
 | false =>
  (repeat' first | ((with_reducible refine cI ?_); go_step) | ((with_reducible refine bJ ?_); first | refine gN ?_ | (refine cZ ?_ ?_ <;> intro hc)) | fail)
  go_ret2
  exact ⟨_, rfl, hx3, y, rfl, sy⟩
 | true =>
  have hwh := EB hO.zone
  have hwl : 1 ≤ (aC (gL o l)).length := by rw [aG, hwh]; simp
  (repeat' first | ((with_reducible refine cI ?_); go_step) | ((with_reducible refine bJ ?_); first | refine gN ?_ | (refine cZ ?_ ?_ <;> intro hc)) | fail)
  have hcv := (sy.cutX (m := 0) (n := 1) (by omega) hwl)
  have hce : ((aC (gL o l)).take 1).drop 0 = aC [soaRec o l] := by rw [hwh]; simp [aC]
  rw [hce] at hcv
  refine aN (v := X.PQ y 4 0 1) (Runs.cutH (k := 4) (n := 1) rfl rfl sy hwl (by decide +kernel)) ?_
  refine aA ?_
  generalize X.PQ y 4 0 1 = hd at *
  clear hce hwl hwh
  obtain ⟨css, hsl3, hcl, hat⟩ := hD.each
  by_cases hE : E = []
  ·have hc0 : (css.length : Int) = 0 := by rw [hcl, hE]; rfl
   (repeat' first | ((with_reducible refine cI ?_); go_step) | ((with_reducible refine bJ ?_); first | refine gN ?_ | (refine cZ ?_ ?_ <;> intro hc)) | fail)
   all_goals first
    | (exfalso; omega)
    | skip
   go_ret2
   refine ⟨_, rfl, hx3, hd, rfl, ?_⟩
   rw [if_neg (by simp), if_pos hE]
   exact hcv
  ·have hc0 : ¬ (css.length : Int) = 0 := by
    have := List.length_pos_iff.2 hE
    omega
   (repeat' first | ((with_reducible refine cI ?_); go_step) | ((with_reducible refine bJ ?_); first | refine gN ?_ | (refine cZ ?_ ?_ <;> intro hc)) | fail)
   all_goals first
    | (exfalso; omega)
    | skip
   refine aI (enters_of Tryz.func52 rfl rfl) rfl rfl (nM hd [soaRec o l] _ hcv (by simp)) ?_
   intro v4 w4 x4 o4
   refine aA ?_
   have hx4 := hx3.trans x4
   have hd4 := hcv.ext x4
   have s0 : fT (E.take 0) = [] := rfl
   have o40 : Own w.heap.size 4 47 w4 v4 (aC (soaRec o l :: fT (E.take 0))) := o4.weaken hx3.size
   clear o4 hcv hc0 hzz
   (repeat' first | ((with_reducible refine cI ?_); go_step) | ((with_reducible refine bJ ?_); first | refine gN ?_ | (refine cZ ?_ ?_ <;> intro hc)) | fail)
   go_loopw [11, 46] (fun u i wr => ∃ k : Nat, k ≤ E.length ∧ i = .int .i64 k ∧ Ext w4 wr ∧ Own w.heap.size 4 47 wr u (aC (soaRec o l :: fT (E.take k)))) (fun _ i _ => E.length - (intOf i).toNat)
   case atStart => exact ⟨0, Nat.zero_le _, rfl, Ext.refl _, o40⟩
   case round =>
    clear o40
    obtain ⟨k, hk, rfl, hx, ho⟩ := hrel
    have hx3r := x4.trans hx
    have hsl := hsl3.ext hx3r
    by_cases hlt : k < E.length
    ·obtain ⟨g, n, hc, sg, sn⟩ := hat k _ (List.getElem?_eq_getElem hlt)
     have hpe := hsl.elem hc
     have hgl1 := hgl _ (List.getElem_mem hlt)
     have hol1 := hol _ (List.getElem_mem hlt)
     have hst := wX hlt
     have ht1 : (fT (E.take (k + 1))).length ≤ 160000 := Nat.le_trans (AC E (k + 1)) htl
     rw [hst, List.length_append, List.length_append] at ht1
     have hkc : k < css.length := by omega
     (repeat' first | ((with_reducible refine cI ?_); go_step) | ((with_reducible refine bJ ?_); first | refine gN ?_ | (refine cZ ?_ ?_ <;> intro hc)) | fail)
     refine aF (z := hY) rfl (by decide +kernel) ?_
     intro wB xB sB hB1
     refine aA ?_
     refine aD (v := .agg #[.int .i64 E[k].fr, .int .i64 E[k].to, g, n]) rfl rfl rfl hB1 (show aO Tryz.prog 90 4 = true by decide +kernel) rfl (fU rfl rfl sg.one sn.one) ?_
     intro wC pC
     have xC : Ext wr wC := xB.move pC.mv (by rintro k ⟨⟩; exact Nat.le_refl _)
     have hpd := aE (cs := [.int .i64 E[k].fr, .int .i64 E[k].to, g, n]) pC.this
     have hx3C := hx3r.trans xC
     have hoC := (ho.ext xC).sl
     have sg1 := sg.ext hx3C
     have sn1 := sn.ext hx3C
     clear pC hB1 xB hpe hsl
     (repeat' first | ((with_reducible refine cI ?_); go_step) | ((with_reducible refine bJ ?_); first | refine gN ?_ | (refine cZ ?_ ?_ <;> intro hc)) | fail)
     refine cE (S := fun w' => Ext wC w') (by decide +kernel) ?_
     intro w5 x5 _
     refine rE 0 ?_; refine aA ?_; refine rE 1 ?_; refine aA ?_; refine rE 2 ?_; refine aA ?_; refine rE 4 ?_; refine aA ?_; refine rE 5 ?_; refine aA ?_
     refine aY (i := 3) (by decide +kernel) rfl rfl ?_
     refine aI (enters_of Tryz.func39 rfl rfl) rfl rfl (wT g E[k].gone _ (sg1.ext x5) hol1.1 (by omega)) ?_
     intro u6 w6 x6 o6
     refine aA ?_
     have x56 := x5.trans x6
     refine aK ⟨x56, ?_⟩
     refine aY (i := 6) (by decide +kernel) rfl rfl ?_
     refine aI (enters_of Tryz.func39 rfl rfl) rfl rfl (wT n E[k].new _ (sn1.ext x56) hol1.2 (by omega)) ?_
     intro u7 w7 x7 o7
     refine aA ?_
     have x57 := x56.trans x7
     refine aK ⟨x57, ?_⟩
     refine aY (i := 7) (by decide +kernel) rfl rfl ?_
     have s5 := hoC.ext x57
     have s6 := o6.sl.ext x7
     have s7 := o7.sl
     refine bR (e := 31) (k := 1) (bytes := 24) (xs := [u11, u6, u7]) rfl rfl rfl (PT s5.cell1 s6.cell1 s7.cell1) (by decide +kernel) (by simp) ?_
     intro v8 w8 x8 _ sl8 _
     refine aA ?_
     have x58 := x57.trans x8
     refine aK ⟨x58, ?_⟩
     refine aY (i := 8) (by decide +kernel) rfl rfl ?_
     have es8 : [u11, u6, u7].map (·.cells.toList) = [u11, u6, u7].map fun u => [u] := PU s5.cell1 s6.cell1 s7.cell1
     rw [es8] at sl8
     refine aI (enters_of Tryz.func53 rfl rfl) rfl rfl (MB v8 [u11, u6, u7] [soaRec o l :: fT (E.take k), fJ E[k].gone, fJ E[k].new] _ sl8 rfl (RR (s5.ext x8) (s6.ext x8) (s7.ext x8)) (by simp only [List.flatten_cons, List.flatten_nil, List.append_nil, List.length_append, List.length_cons]; omega)) ?_
     intro v9 w9 x9 o9
     refine aA ?_
     have x59 := x58.trans x9
     refine aK ⟨x59, ?_⟩
     refine rE 9 ?_; refine aA ?_
     refine cL (by decide +kernel) ?_
     have xr9 := hx.trans (xC.trans x59)
     have ow9 : Own w.heap.size 4 47 w9 v9 (aC (soaRec o l :: fT (E.take (k + 1)))) := by
      have := o9.weaken ((hx4.trans hx).trans (xC.trans x58)).size
      rw [hst]
      simpa [List.append_assoc] using this
     (repeat' first | ((with_reducible refine cI ?_); go_step) | ((with_reducible refine bJ ?_); first | refine gN ?_ | (refine cZ ?_ ?_ <;> intro hc)) | fail)
     exact ⟨⟨k + 1, by omega, by go_num, xr9, ow9⟩, by simp [intOf]; omega⟩
    ·have : k = E.length := by omega
     subst this
     rw [List.take_length] at ho
     have hd9 := hd4.ext hx
     have hx9 := hx4.trans hx
     have hkc : ¬ E.length < css.length := by omega
     (repeat' first | ((with_reducible refine cI ?_); go_step) | ((with_reducible refine bJ ?_); first | refine gN ?_ | (refine cZ ?_ ?_ <;> intro hc)) | fail)
     refine bW (B := w.heap.size) (e := 47) (k := 4) rfl ho rfl hd9 eK hx9.size (by rw [aG, aG, List.length_cons]; simp; omega) ?_
     intro v' w9 o9 m9 _
     refine aA ?_
     have x9 : Ext w w9 := ho.mvx m9 hx9 (Nat.le_refl _)
     (repeat' first | ((with_reducible refine cI ?_); go_step) | ((with_reducible refine bJ ?_); first | refine gN ?_ | (refine cZ ?_ ?_ <;> intro hc)) | fail)
     go_ret2
     refine ⟨_, rfl, x9, v', rfl, ?_⟩
     rw [if_neg (by simp), if_neg hE]
     have := o9.sl
     rw [← kF] at this
     exact this
theorem PV : gC [1, 97] DM = 0 := by decide +kernel
theorem PW : dF [1, 97] DM = mN := by decide +kernel
theorem PX : eA [1, 97] DM = [1, 97] := by decide +kernel
theorem PY : ∀ s ∈ mN, ∀ d ∈ s.data, d.length ≤ 1000000 := by decide +kernel
theorem PZ : (aL mN).length ≤ 5000 := by decide +kernel
end Go.Proofs.X
set_option linter.unusedSimpArgs false
set_option linter.unusedVariables false
namespace Go.Proofs.X
open Go.RowKit
end Go.Proofs.X
set_option linter.unusedSimpArgs false
set_option linter.unusedVariables false
namespace Go.Proofs.X
open Go.RowKit
end Go.Proofs.X
set_option linter.unusedSimpArgs false
set_option linter.unusedVariables false
namespace Go.Proofs.X
open Go.RowKit
set_option maxRecDepth 100000
section
variable {P : Program} {a : Act} {w : World} {d : Option Nat} {ty : TypeId} {ps : String} {af : Array Edge} {g : Option (Nat × Bool)}
end
section
variable {P : Program} {ts : List Value} {df : List Deferred} {w : World} {d : Option Nat} {ty : TypeId} {ps : String} {af : Array Edge} {g : Option (Nat × Bool)}
theorem Runs.neqBSame {t u : TypeId} {x y : Operand} {b : Bool} (hx : (Act.mk ts.toArray df).eval x = .bool b) (hy : (Act.mk ts.toArray df).eval y = .bool b) (ht : rX P t = true) : Runs P (Oper.mk d (.binOp .neq t x y u) ty ps af g) (Act.mk ts.toArray df) w (.bool false) := by
 have h := Runs.neqB2 (P := P) (ts := ts) (df := df) (w := w) (d := d) (ty := ty) (ps := ps) (af := af) (g := g) (t := t) (u := u) hx hy ht
 rwa [show (b != b) = false by cases b <;> rfl] at h
end
def ED (m : MsgR) : Bool := decide (m.qs.length ≤ 12) && m.qs.all (fun q => decide (q.1.length ≤ 300)) && (fQ m.an && fQ m.au && fQ m.ex)
set_option maxHeartbeats 4000000 in
theorem MC (m : MsgR) (q a u e : Value) (w : World) (hm : MsgV w m q a u e) : Calls Tryz.prog 24 #[.agg (cR m q a u e).toArray] w (bC w (.bool (ED m))) := by
 have hql := bN m.qs
 have hqle := hm.qs.le
 go_enter Tryz.func24, Tryz.ntmps24
 refine_lift gT fun _ _ => ?_
 refine aT (vs := cR m q a u e) rfl rfl ?_
 intro p w1 x1 hp
 refine aA ?_
 unfold cR at hp
 have hq1 := hm.qs.ext x1
 refine_lift JL (fun _ _ _ => ?_) (fun _ => ?_)
 ·go_ret
  refine ⟨?_, x1⟩
  have : decide (m.qs.length ≤ 12) = false := decide_eq_false (by omega)
  rw [ED, this]
  rfl
 ·have hB : decide (m.qs.length ≤ 12) = true := decide_eq_true (by omega)
  have hC : ED m = (m.qs.all (fun q => decide (q.1.length ≤ 300)) && (fQ m.an && fQ m.au && fQ m.ex)) := by
   rw [ED, hB, Bool.true_and]
  go_loopw [3] (fun i wr => ∃ k : Nat, k ≤ m.qs.length ∧ i = .int .i64 k ∧ Ext w1 wr ∧ (m.qs.take k).all (fun q => decide (q.1.length ≤ 300)) = true) (fun i _ => m.qs.length - (intOf i).toNat)
  case atStart => exact ⟨0, Nat.zero_le _, rfl, Ext.refl _, rfl⟩
  case round =>
   obtain ⟨k, hk, rfl, hx, hall⟩ := hrel
   have hq2 := hq1.ext hx
   have hp2 := hp.ext hx
   by_cases hlt : k < m.qs.length
   ·have h1 := hq2.elem (lK hlt)
    refine_lift SJ (fun _ _ => ?_) (fun _ _ _ _ => ?_)
    ·go_ret
     refine ⟨?_, x1.trans hx⟩
     rw [hC, dP hlt (decide_eq_false (by omega))]
     rfl
    ·exact ⟨⟨k + 1, by omega, rfl, hx, gW hlt hall (decide_eq_true (by omega))⟩, by simp [intOf]; omega⟩
   ·have hk2 : k = m.qs.length := by omega
    subst hk2
    rw [List.take_length] at hall
    rw [hall, Bool.true_and] at hC
    refine_lift SB fun _ _ _ => ?_
    refine aB (enters_of Tryz.func25 rfl rfl) rfl rfl (t7 a m.an _ ((hm.an.ext x1).ext hx)) ?_; intro w4 x4; refine aA ?_
    have hx4 := hx.trans x4
    have hp4 := hp.ext hx4
    cases h4 : fQ m.an with
    | false =>
     refine_lift cV ?_
     go_ret
     refine ⟨?_, x1.trans hx4⟩
     rw [hC, h4]
     rfl
    | true =>
     refine_lift cV ?_
     refine aB (enters_of Tryz.func25 rfl rfl) rfl rfl (t7 u m.au _ ((hm.au.ext x1).ext hx4)) ?_; intro w5 x5; refine aA ?_
     have hx5 := hx4.trans x5
     have hp5 := hp.ext hx5
     cases h5 : fQ m.au with
     | false =>
      refine_lift cV ?_
      go_ret
      refine ⟨?_, x1.trans hx5⟩
      rw [hC, h4, h5]
      rfl
     | true =>
      refine_lift cV ?_
      refine aB (enters_of Tryz.func25 rfl rfl) rfl rfl (t7 e m.ex _ ((hm.ex.ext x1).ext hx5)) ?_; intro w6 x6; refine aA ?_
      have hx6 := hx5.trans x6
      refine_lift cV ?_
      go_ret
      refine ⟨?_, x1.trans hx6⟩
      rw [hC, h4, h5]
      cases fQ m.ex <;> rfl
theorem IT {r q : xX} {w : World} : (Op.equalIn 10000 78 (.agg #[aH r.1, .int .i64 r.2]) (.agg #[aH q.1, .int .i64 q.2])).run Tryz.prog w = .ok (decide (r = q)) w := by
 have hS : Tryz.prog.underlying 78 = some (.struct (Tryz.prog.fieldsOf 78)) := by kernel_rfl
 rw [show (10000 : Nat) = 9999 + 1 from rfl, run_equalIn_agg w 9999 78 _ _ hS (by kernel_rfl)]
 simp only [Program.fieldsOf, Tryz.underlying78]
 have u3 := Tryz.underlying3
 have u31 := Tryz.underlying22
 have a3 := Tryz.isAgg3
 have a31 := Tryz.isAgg22
 have z3 := Tryz.sizeOf3
 have z31 := Tryz.sizeOf22
 unfold aH
 go_simp
 obtain ⟨a1, a2⟩ := r
 obtain ⟨b1, b2⟩ := q
 simp only [Prod.mk.injEq]
 by_cases h1 : a1 = b1 <;> by_cases h2 : a2 = b2 <;> simp [h1, h2]
theorem Runs.neqQst {r q : xX} {x y : Operand} {a : Act} {w : World} {d : Option Nat} {u ty : TypeId} {ps : String} {af : Array Edge} {g : Option (Nat × Bool)}
 (hx : a.eval x = .agg #[aH r.1, .int .i64 r.2]) (hy : a.eval y = .agg #[aH q.1, .int .i64 q.2]) :
 Runs Tryz.prog (Oper.mk d (.binOp .neq 78 x y u) ty ps af g) a w (.bool (!decide (r = q))) := by
 constructor
 have hg := run_eqGuard_agg (P := Tryz.prog) w .neq 78 x y #[aH r.1, .int .i64 r.2] #[aH q.1, .int .i64 q.2] (by kernel_rfl)
 simp only [execOp, hx, hy, Sem.run_bind, hg, Result.andThen_ok, run_neq_struct, IT, Sem.run_pure]
section
variable {P : Program} {ts : List Value} {df : List Deferred} {w : World} {d : Option Nat} {ty : TypeId} {ps : String} {af : Array Edge} {g : Option (Nat × Bool)}
theorem Runs.neqBDiff {t u : TypeId} {x y : Operand} {a b : Bool} (hab : ¬ a = b) (hx : (Act.mk ts.toArray df).eval x = .bool a) (hy : (Act.mk ts.toArray df).eval y = .bool b) (ht : rX P t = true) : Runs P (Oper.mk d (.binOp .neq t x y u) ty ps af g) (Act.mk ts.toArray df) w (.bool true) := by
 have h := Runs.neqB2 (P := P) (ts := ts) (df := df) (w := w) (d := d) (ty := ty) (ps := ps) (af := af) (g := g) (t := t) (u := u) hx hy ht
 rwa [show (a != b) = true by cases a <;> cases b <;> simp_all] at h
end
def iX (m : MsgR) : Int × Bool × Int × Bool × Bool × Bool × Bool × Int × Int := (m.id, m.resp, m.op, m.auth, m.trunc, m.want, m.avail, m.rcode, m.size)
theorem QA {m n : MsgR} (h : iX m = iX n) (h1 : m.qs = n.qs) : decide (m = n) = (decide (m.an = n.an) && decide (m.au = n.au) && decide (m.ex = n.ex)) := by
 cases m; cases n
 simp only [iX, Prod.mk.injEq] at h h1
 simp only [MsgR.mk.injEq]
 obtain ⟨rfl, rfl, rfl, rfl, rfl, rfl, rfl, rfl, rfl⟩ := h
 subst h1
 simp [Bool.decide_and, Bool.and_assoc]
theorem kG {m n : MsgR} (h : ¬ (iX m = iX n ∧ m.qs = n.qs)) : decide (m = n) = false := by
 refine decide_eq_false fun e => h ?_
 rw [e]; exact ⟨rfl, rfl⟩
set_option maxHeartbeats 8000000 in
theorem NT (m n : MsgR) (q a u e q' a' u' e' : Value) (w : World) (hm : MsgV w m q a u e) (hn : MsgV w n q' a' u' e') : Calls Tryz.prog 78 #[.agg (cR m q a u e).toArray, .agg (cR n q' a' u' e').toArray] w (bC w (.bool (decide (m = n)))) := by
 have hql := bN m.qs
 have hql' := bN n.qs
 have hqle := hm.qs.le
 go_enter Tryz.func78, Tryz.ntmps78
 refine_lift gT fun _ _ => ?_
 refine aT (vs := cR m q a u e) rfl rfl ?_
 intro p w1 x1 hp
 refine aA ?_
 refine aT (vs := cR n q' a' u' e') rfl rfl ?_
 intro p' w2 x2 hp'
 refine aA ?_
 have hp2 := hp.ext x2
 have hx2 := x1.trans x2
 have hq2 := hm.qs.ext hx2
 have hq2' := hn.qs.ext hx2
 unfold cR at hp' hp2
 clear hp x1 x2
 ((with_reducible refine bJ ?_); (first | (refine fY ?_; refine rJ ?_) | (refine iH ?_; refine jG ?_; (with_reducible refine bJ ?_); refine fY ?_; refine rJ ?_)))
 (first | ((with_reducible refine cI ?_); go_step) | fail)
 (first | ((with_reducible refine cI ?_); go_step) | fail)
 (first | ((with_reducible refine cI ?_); go_step) | fail)
 (first | ((with_reducible refine cI ?_); go_step) | fail)
 (first | ((with_reducible refine cI ?_); go_step) | fail)
 simp only [List.append]
 by_cases e0 : m.id = n.id
 ·skip
  by_cases e1 : m.resp = n.resp
  ·skip
   by_cases e2 : m.op = n.op
   ·skip
    by_cases e3 : m.auth = n.auth
    ·skip
     by_cases e4 : m.trunc = n.trunc
     ·skip
      by_cases e5 : m.want = n.want
      ·skip
       by_cases e6 : m.avail = n.avail
       ·skip
        by_cases e7 : m.rcode = n.rcode
        ·skip
         by_cases e8 : m.size = n.size
         ·skip
          by_cases e9 : m.qs.length = n.qs.length
          ·have e9' : ((bQ m.qs).length : Int) = ((bQ n.qs).length : Int) := by rw [bN, bN]; omega
           rw [e0] at hp2
           rw [e1] at hp2
           rw [e2] at hp2
           rw [e3] at hp2
           rw [e4] at hp2
           rw [e5] at hp2
           rw [e6] at hp2
           rw [e7] at hp2
           rw [e8] at hp2
           refine_lift cV ?_
           refine aN (Runs.neqBSame rfl rfl (by decide +kernel)) ?_
           refine aA ?_
           refine_lift cV ?_
           refine aN (Runs.neqBSame rfl rfl (by decide +kernel)) ?_
           refine aA ?_
           refine_lift cV ?_
           refine aN (Runs.neqBSame rfl rfl (by decide +kernel)) ?_
           refine aA ?_
           refine_lift cV ?_
           refine aN (Runs.neqBSame rfl rfl (by decide +kernel)) ?_
           refine aA ?_
           refine_lift cV ?_
           refine aN (Runs.neqBSame rfl rfl (by decide +kernel)) ?_
           refine aA ?_
           refine_lift JL (fun _ _ _ => ?_) (fun _ => ?_)
           all_goals first
            | (exfalso; have hh := ‹(!decide (((bQ m.qs).length : Int) = ((bQ n.qs).length : Int))) = true›; simp [e9'] at hh; done)
            | skip
           have hH : iX m = iX n := by simp only [iX, e0, e1, e2, e3, e4, e5, e6, e7, e8]
           go_loopw [5] (fun i wr => ∃ k : Nat, k ≤ m.qs.length ∧ i = .int .i64 k ∧ Ext w2 wr ∧ m.qs.take k = n.qs.take k) (fun i _ => m.qs.length - (intOf i).toNat)
           case atStart => exact ⟨0, Nat.zero_le _, rfl, Ext.refl _, rfl⟩
           case round =>
            obtain ⟨k, hk, rfl, hx, hall⟩ := hrel
            have hqx := hq2.ext hx
            have hqx' := hq2'.ext hx
            have hpx := hp2.ext hx
            have hpx' := hp'.ext hx
            by_cases hlt : k < m.qs.length
            ·have hlt2 : k < n.qs.length := by omega
             have hpa := hqx.elem (lK hlt)
             have hpb := hqx'.elem (lK hlt2)
             refine_lift ME ?_; intro _ _ _ _ _ _
             refine bE (by decide +kernel) (by decide +kernel) ?_
             refine_lift OR ?_
             refine eY (fun w' _ => Runs.neqQst (r := m.qs[k]) (q := n.qs[k]) rfl rfl) ?_
             refine aA ?_
             refine_lift OR ?_
             intro w4 x4
             refine_lift xO (fun _ => ?_) (fun _ => ?_)
             ·have hne := ‹(!decide (m.qs[k] = n.qs[k])) = true›
              have hab : m.qs ≠ n.qs := lG hlt hlt2 (by simpa using hne)
              go_ret
              refine ⟨?_, hx2.trans (hx.trans x4)⟩
              rw [kG (fun h => hab h.2)]; rfl
             ·have heq := ‹(!decide (m.qs[k] = n.qs[k])) = false›
              exact ⟨⟨k + 1, by omega, by go_num, hx.trans x4, eG hall hlt hlt2 (by simpa using heq)⟩, by simp [intOf]; omega⟩
            ·have : k = m.qs.length := by omega
             subst this
             have hab : m.qs = n.qs := by rw [List.take_length, e9, List.take_length] at hall; exact hall
             refine_lift SB fun _ _ _ => ?_
             refine aB (enters_of Tryz.func13 rfl rfl) rfl rfl (kM a a' m.an n.an _ ((hm.an.ext hx2).ext hx) ((hn.an.ext hx2).ext hx)) ?_; intro w4 x4; refine aA ?_
             have hx4 := hx.trans x4
             have hp4 := hp2.ext hx4
             have hp4' := hp'.ext hx4
             have hF := QA hH hab
             by_cases c4 : m.an = n.an
             ·rw [decide_eq_true c4] at hF ⊢
              refine_lift cV ?_
              refine aB (enters_of Tryz.func13 rfl rfl) rfl rfl (kM u u' m.au n.au _ ((hm.au.ext hx2).ext hx4) ((hn.au.ext hx2).ext hx4)) ?_; intro w6 x6; refine aA ?_
              have hx6 := hx4.trans x6
              have hp6 := hp2.ext hx6
              have hp6' := hp'.ext hx6
              by_cases c6 : m.au = n.au
              ·rw [decide_eq_true c6] at hF ⊢
               refine_lift cV ?_
               refine aB (enters_of Tryz.func13 rfl rfl) rfl rfl (kM e e' m.ex n.ex _ ((hm.ex.ext hx2).ext hx6) ((hn.ex.ext hx2).ext hx6)) ?_; intro w7 x7; refine aA ?_
               refine_lift cV ?_
               go_ret
               refine ⟨?_, hx2.trans (hx6.trans x7)⟩
               rw [hF]; rfl
              ·rw [decide_eq_false c6] at hF ⊢
               refine_lift cV ?_
               go_ret
               refine ⟨?_, hx2.trans hx6⟩
               rw [hF]; rfl
             ·rw [decide_eq_false c4] at hF ⊢
              refine_lift cV ?_
              go_ret
              refine ⟨?_, hx2.trans hx4⟩
              rw [hF]; rfl
          ·have e9' : ¬ ((bQ m.qs).length : Int) = ((bQ n.qs).length : Int) := by rw [bN, bN]; omega
           rw [e0] at hp2
           rw [e1] at hp2
           rw [e2] at hp2
           rw [e3] at hp2
           rw [e4] at hp2
           rw [e5] at hp2
           rw [e6] at hp2
           rw [e7] at hp2
           rw [e8] at hp2
           refine_lift cV ?_
           refine aN (Runs.neqBSame rfl rfl (by decide +kernel)) ?_
           refine aA ?_
           refine_lift cV ?_
           refine aN (Runs.neqBSame rfl rfl (by decide +kernel)) ?_
           refine aA ?_
           refine_lift cV ?_
           refine aN (Runs.neqBSame rfl rfl (by decide +kernel)) ?_
           refine aA ?_
           refine_lift cV ?_
           refine aN (Runs.neqBSame rfl rfl (by decide +kernel)) ?_
           refine aA ?_
           refine_lift cV ?_
           refine aN (Runs.neqBSame rfl rfl (by decide +kernel)) ?_
           refine aA ?_
           refine_lift JL (fun _ _ _ => ?_) (fun _ => ?_)
           all_goals first
            | (exfalso; have hh := ‹(!decide (((bQ m.qs).length : Int) = ((bQ n.qs).length : Int))) = false›; simp [e9'] at hh; done)
            | skip
           go_ret
           refine ⟨?_, hx2⟩
           rw [kG (by rintro ⟨_, e⟩; exact e9 (congrArg List.length e))]; rfl
         ·skip
          rw [e0] at hp2
          rw [e1] at hp2
          rw [e2] at hp2
          rw [e3] at hp2
          rw [e4] at hp2
          rw [e5] at hp2
          rw [e6] at hp2
          rw [e7] at hp2
          refine_lift cV ?_
          refine aN (Runs.neqBSame rfl rfl (by decide +kernel)) ?_
          refine aA ?_
          refine_lift cV ?_
          refine aN (Runs.neqBSame rfl rfl (by decide +kernel)) ?_
          refine aA ?_
          refine_lift cV ?_
          refine aN (Runs.neqBSame rfl rfl (by decide +kernel)) ?_
          refine aA ?_
          refine_lift cV ?_
          refine aN (Runs.neqBSame rfl rfl (by decide +kernel)) ?_
          refine aA ?_
          refine_lift cV ?_
          refine aN (Runs.neqBSame rfl rfl (by decide +kernel)) ?_
          refine aA ?_
          refine_lift QV (fun hc _ _ _ => ?_) (fun hc => ?_) (fun hc _ => ?_)
          all_goals first
           | (exfalso; have hh := ‹(!decide (m.size = n.size)) = false›; simp [e8] at hh; done)
           | skip
          go_ret
          refine ⟨?_, hx2⟩
          rw [kG (by rintro ⟨e, _⟩; simp only [iX, Prod.mk.injEq] at e; exact e8 e.2.2.2.2.2.2.2.2)]; rfl
        ·skip
         rw [e0] at hp2
         rw [e1] at hp2
         rw [e2] at hp2
         rw [e3] at hp2
         rw [e4] at hp2
         rw [e5] at hp2
         rw [e6] at hp2
         refine_lift cV ?_
         refine aN (Runs.neqBSame rfl rfl (by decide +kernel)) ?_
         refine aA ?_
         refine_lift cV ?_
         refine aN (Runs.neqBSame rfl rfl (by decide +kernel)) ?_
         refine aA ?_
         refine_lift cV ?_
         refine aN (Runs.neqBSame rfl rfl (by decide +kernel)) ?_
         refine aA ?_
         refine_lift cV ?_
         refine aN (Runs.neqBSame rfl rfl (by decide +kernel)) ?_
         refine aA ?_
         refine_lift cV ?_
         refine aN (Runs.neqBSame rfl rfl (by decide +kernel)) ?_
         refine aA ?_
         refine_lift PA (fun hc hc _ _ _ => ?_) (fun hc hc => ?_) (fun hc => ?_) (fun hc hc _ => ?_)
         all_goals first
          | (exfalso; have hh := ‹(!decide (m.rcode = n.rcode)) = false›; simp [e7] at hh; done)
          | skip
         go_ret
         refine ⟨?_, hx2⟩
         rw [kG (by rintro ⟨e, _⟩; simp only [iX, Prod.mk.injEq] at e; exact e7 e.2.2.2.2.2.2.2.1)]; rfl
       ·skip
        rw [e0] at hp2
        rw [e1] at hp2
        rw [e2] at hp2
        rw [e3] at hp2
        rw [e4] at hp2
        rw [e5] at hp2
        refine_lift cV ?_
        refine aN (Runs.neqBSame rfl rfl (by decide +kernel)) ?_
        refine aA ?_
        refine_lift cV ?_
        refine aN (Runs.neqBSame rfl rfl (by decide +kernel)) ?_
        refine aA ?_
        refine_lift cV ?_
        refine aN (Runs.neqBSame rfl rfl (by decide +kernel)) ?_
        refine aA ?_
        refine_lift cV ?_
        refine aN (Runs.neqBSame rfl rfl (by decide +kernel)) ?_
        refine aA ?_
        refine_lift cV ?_
        refine aN (Runs.neqBDiff e6 rfl rfl (by decide +kernel)) ?_
        refine aA ?_
        refine_lift cV ?_
        go_ret
        refine ⟨?_, hx2⟩
        rw [kG (by rintro ⟨e, _⟩; simp only [iX, Prod.mk.injEq] at e; exact e6 e.2.2.2.2.2.2.1)]; rfl
      ·skip
       rw [e0] at hp2
       rw [e1] at hp2
       rw [e2] at hp2
       rw [e3] at hp2
       rw [e4] at hp2
       refine_lift cV ?_
       refine aN (Runs.neqBSame rfl rfl (by decide +kernel)) ?_
       refine aA ?_
       refine_lift cV ?_
       refine aN (Runs.neqBSame rfl rfl (by decide +kernel)) ?_
       refine aA ?_
       refine_lift cV ?_
       refine aN (Runs.neqBSame rfl rfl (by decide +kernel)) ?_
       refine aA ?_
       refine_lift cV ?_
       refine aN (Runs.neqBDiff e5 rfl rfl (by decide +kernel)) ?_
       refine aA ?_
       refine_lift cV ?_
       go_ret
       refine ⟨?_, hx2⟩
       rw [kG (by rintro ⟨e, _⟩; simp only [iX, Prod.mk.injEq] at e; exact e5 e.2.2.2.2.2.1)]; rfl
     ·skip
      rw [e0] at hp2
      rw [e1] at hp2
      rw [e2] at hp2
      rw [e3] at hp2
      refine_lift cV ?_
      refine aN (Runs.neqBSame rfl rfl (by decide +kernel)) ?_
      refine aA ?_
      refine_lift cV ?_
      refine aN (Runs.neqBSame rfl rfl (by decide +kernel)) ?_
      refine aA ?_
      refine_lift cV ?_
      refine aN (Runs.neqBDiff e4 rfl rfl (by decide +kernel)) ?_
      refine aA ?_
      refine_lift cV ?_
      go_ret
      refine ⟨?_, hx2⟩
      rw [kG (by rintro ⟨e, _⟩; simp only [iX, Prod.mk.injEq] at e; exact e4 e.2.2.2.2.1)]; rfl
    ·skip
     rw [e0] at hp2
     rw [e1] at hp2
     rw [e2] at hp2
     refine_lift cV ?_
     refine aN (Runs.neqBSame rfl rfl (by decide +kernel)) ?_
     refine aA ?_
     refine_lift cV ?_
     refine aN (Runs.neqBDiff e3 rfl rfl (by decide +kernel)) ?_
     refine aA ?_
     refine_lift cV ?_
     go_ret
     refine ⟨?_, hx2⟩
     rw [kG (by rintro ⟨e, _⟩; simp only [iX, Prod.mk.injEq] at e; exact e3 e.2.2.2.1)]; rfl
   ·skip
    rw [e0] at hp2
    rw [e1] at hp2
    refine_lift cV ?_
    refine aN (Runs.neqBSame rfl rfl (by decide +kernel)) ?_
    refine aA ?_
    refine_lift xO (fun hc => ?_) (fun hc => ?_)
    all_goals first
     | (exfalso; have hh := ‹(!decide (m.op = n.op)) = false›; simp [e2] at hh; done)
     | skip
    go_ret
    refine ⟨?_, hx2⟩
    rw [kG (by rintro ⟨e, _⟩; simp only [iX, Prod.mk.injEq] at e; exact e2 e.2.2.1)]; rfl
  ·skip
   rw [e0] at hp2
   refine_lift cV ?_
   refine aN (Runs.neqBDiff e1 rfl rfl (by decide +kernel)) ?_
   refine aA ?_
   refine_lift cV ?_
   go_ret
   refine ⟨?_, hx2⟩
   rw [kG (by rintro ⟨e, _⟩; simp only [iX, Prod.mk.injEq] at e; exact e1 e.2.1)]; rfl
 ·skip
  refine_lift xO (fun hc => ?_) (fun hc => ?_)
  all_goals first
   | (exfalso; have hh := ‹(!decide (m.id = n.id)) = false›; simp [e0] at hh; done)
   | skip
  go_ret
  refine ⟨?_, hx2⟩
  rw [kG (by rintro ⟨e, _⟩; simp only [iX, Prod.mk.injEq] at e; exact e0 e.1)]; rfl
end Go.Proofs.X
