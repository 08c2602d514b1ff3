/- Laws and walks that the proof of the statement is made of (part 15). -/
import Derived.Test.YteofaejlmdplhaaGreatP14
set_option linter.unusedSimpArgs false
set_option linter.unusedVariables false
namespace Go.Proofs.X
open Go.RowKit
set_option maxRecDepth 100000
theorem IL {l : List RSet} (h : dJ l = 0) {s : RSet} (hs : s ∈ l) : fB l s.name s.kind = some s := by
 obtain ⟨i, hi, rfl⟩ := List.mem_iff_getElem.1 hs
 exact zE h hi
theorem LQ {s : RSet} (h : fH s = true) : 1 ≤ s.data.length ∧ s.data.length ≤ 20 := by
 simp only [fH, Bool.and_eq_true, decide_eq_true_eq] at h
 exact ⟨h.1.1.2, h.1.2⟩
def soaRec (o : List UInt8) (l : List RSet) : Rec := fZ ((fB l o 6).getD zI) (gR o l)
structure Recs (o : List UInt8) (l : List RSet) (os : List Rec) (q : Nat) : Prop where
 le : q ≤ os.length
 eq : aL l = eU os q (soaRec o l)
 non : ∀ r ∈ os, aS r = false
 two : 1 ≤ os.length
theorem oM {o : List UInt8} {l : List RSet} (h : ZoneOk o l) : soaRec o l ∈ aL l ∧ aS (soaRec o l) = true ∧ (soaRec o l).name = o ∧ kP (soaRec o l) = (bD o l).serial := by
 obtain ⟨s, hf, hs, hn, hk, hd, hp, hl⟩ := h.soaSet
 have e : soaRec o l = fZ s (gR o l) := by rw [soaRec, hf]; rfl
 rw [e]
 refine ⟨?_, by simp [aS, fZ, hk], hn, ?_⟩
 ·unfold aL
  refine List.mem_flatten.2 ⟨dY s, List.mem_map_of_mem hs, ?_⟩
  unfold dY
  exact List.mem_map.2 ⟨gR o l, by rw [hd]; simp, rfl⟩
 ·unfold kP vV fZ
  rw [hp, bD, if_pos (jZ h)]
theorem DX {o : List UInt8} {l : List RSet} (h : ZoneOk o l) {r : Rec} (hr : r ∈ aL l) (hk : aS r = true) : r = soaRec o l := by
 obtain ⟨s, hs, d, hd, rfl⟩ := DF hr
 have h6 : s.kind = 6 := by
  unfold aS at hk
  exact of_decide_eq_true hk
 have hn := (h.one6 hs h6).1
 have hf : fB l o 6 = some s := by rw [← hn, ← h6]; exact IL h.chk hs
 rw [h.only hs h6] at hd
 rw [soaRec, hf, List.mem_singleton.1 hd]
 rfl
theorem zX {α : Type} {os : List α} {q : Nat} {x y : α} (h : q ≤ os.length) : y ∈ eU os q x ↔ y = x ∨ y ∈ os := by
 unfold eU
 rw [List.mem_append, List.mem_cons]
 constructor
 ·rintro (h1 | h1 | h1)
  ·exact .inr (List.mem_of_mem_take h1)
  ·exact .inl h1
  ·exact .inr (List.mem_of_mem_drop h1)
 ·rintro (h1 | h1)
  ·exact .inr (.inl h1)
  ·rw [← List.take_append_drop q os] at h1
   rcases List.mem_append.1 h1 with h1 | h1
   ·exact .inl h1
   ·exact .inr (.inr h1)
theorem ZoneOk.recs {o : List UInt8} {l : List RSet} (h : ZoneOk o l) : ∃ os q, Recs o l os q := by
 obtain ⟨h1, h2, h3, _⟩ := oM h
 have hnd := h.nodup
 have hle : ((aL l).filter aS).length ≤ 1 := by
  have hall : ∀ x ∈ (aL l).filter aS, x = soaRec o l := fun x hx => by
   obtain ⟨a, b⟩ := List.mem_filter.1 hx
   exact DX h a b
  have hn2 := hnd.filter (p := aS)
  match hm : (aL l).filter aS with
  | [] => simp
  | [a] => simp
  | a :: b :: t =>
   exfalso
   rw [hm] at hall hn2
   have e1 := hall a (by simp)
   have e2 := hall b (by simp)
   rw [e1, e2] at hn2
   simp at hn2
 rcases tW (aL l) hle with h4 | ⟨os, q, x, k1, k2, k3, k4⟩
 ·exact absurd (h4 _ h1) (by simp [h2])
 ·have hx : x = soaRec o l := DX h (by rw [k2]; exact (zX k1).2 (.inl rfl)) k3
  subst hx
  refine ⟨os, q, k1, k2, k4, ?_⟩
  obtain ⟨s, hs⟩ := Option.isSome_iff_exists.1 h.ns
  have hsf : s ∈ l ∧ s.kind = 2 := by
   unfold fB at hs
   have a := List.mem_of_find?_eq_some hs
   have b := List.find?_some hs
   refine ⟨a, ?_⟩
   simp only [ER, Bool.and_eq_true, decide_eq_true_eq] at b
   exact b.2
  obtain ⟨d1, d2⟩ := LQ (h.may hsf.1)
  have hr : fZ s (s.data[0]) ∈ aL l := by
   unfold aL
   refine List.mem_flatten.2 ⟨dY s, List.mem_map_of_mem hsf.1, ?_⟩
   unfold dY
   exact List.mem_map.2 ⟨s.data[0], List.getElem_mem _, rfl⟩
  rw [k2] at hr
  rcases (zX k1).1 hr with hr | hr
  ·exfalso
   have : aS (fZ s s.data[0]) = true := by rw [hr]; exact h2
   simp [aS, fZ, hsf.2] at this
  ·exact List.length_pos_of_mem hr
theorem Recs.head {o : List UInt8} {l : List RSet} {os : List Rec} {q : Nat} (h : Recs o l os q) (hz : ZoneOk o l) : fJ (aL l) = soaRec o l :: os := by
 rw [h.eq, sF h.non (oM hz).2.1]
 rfl
theorem Recs.whole {o : List UInt8} {l : List RSet} {os : List Rec} {q : Nat} (h : Recs o l os q) (hz : ZoneOk o l) : gL o l = soaRec o l :: os ++ [soaRec o l] := by
 rw [gL, if_pos (jZ hz), h.head hz]
 rfl
theorem FS {l : List Rec} (h : (l.filter aS).length ≤ 1) : (fJ l).Perm l := by
 rcases tW l h with h1 | ⟨os, q, x, h1, h2, h3, h4⟩
 ·rw [wN h1]
 ·rw [h2, sF h4 h3]
  unfold eU
  simp only [List.take_zero, List.nil_append, List.drop_zero]
  exact (List.perm_middle.trans (by rw [List.take_append_drop])).symm
theorem sH {o : List UInt8} {l : List RSet} (h : ZoneOk o l) (p : Rec → Bool) : (((aL l).filter p).filter aS).length ≤ 1 := by
 obtain ⟨os, q, hr⟩ := h.recs
 have h1 : ((aL l).filter aS).length ≤ 1 := by
  have := hr.head h
  unfold fJ at this
  rw [hr.eq]
  have e : (eU os q (soaRec o l)).filter aS = [soaRec o l] := by
   unfold eU
   have a1 : (os.take q).filter aS = [] := List.filter_eq_nil_iff.2 fun r hm => by simp [hr.non r (List.mem_of_mem_take hm)]
   have a2 : (os.drop q).filter aS = [] := List.filter_eq_nil_iff.2 fun r hm => by simp [hr.non r (List.mem_of_mem_drop hm)]
   rw [List.filter_append, List.filter_cons, if_pos (oM h).2.1, a1, a2]
   rfl
  rw [e]
  simp
 refine Nat.le_trans ?_ h1
 rw [List.filter_filter, ← List.countP_eq_length_filter, ← List.countP_eq_length_filter]
 exact List.countP_mono_left fun r _ hr => by simp at hr; exact hr.1
def fT (ds : List DeltaR) : List Rec := (ds.map fun d => fJ d.gone ++ fJ d.new).flatten
def wP (o : List UInt8) (l : List RSet) (ds : List DeltaR) (s : Int) : List Rec :=
 if (cU o l ds s).2 = false then gL o l else if (cU o l ds s).1 = [] then [soaRec o l] else soaRec o l :: (fT (cU o l ds s).1 ++ [soaRec o l])
def nS (a m q : Nat) : Nat := if q = m then a else q
def IM : Value := .func (.func 90) #[] #[]
def NO (B : Nat) (v : Value) (x : Option Rec) (os : List Rec) (K : Nat) : Prop := ∀ (a m b q : Nat) (w : World), a < m → m < b → b ≤ oT x os → b - a ≤ K → Sx x os q → (a ≤ q → q < b → q = a ∨ q = m) → Own B 4 47 w v (aC (iN x os q)) →
 Calls Tryz.prog 189 #[v, .int .i64 a, .int .i64 m, .int .i64 b, IM] w fun e w' => e = .returned (.tuple #[]) ∧ Own B 4 47 w' v (aC (iN x os (nS a m q))) ∧ Mv v.ownBlock w w'
theorem pJ {w : World} {v : Value} {D : List Rec} {i : Nat} (hs : Sl 4 w v (aC D)) (hi : i < D.length) : Pts w (bU v (i * 4)) [aH (D.getD i bM).name, .int .i64 (D.getD i bM).kind, .int .i64 (D.getD i bM).ttl, aH (D.getD i bM).data] := hs.elem (oL hi)
set_option maxHeartbeats 8000000 in
theorem OJ {B : Nat} (v : Value) (x : Option Rec) (os : List Rec) (hl : oT x os ≤ 1000000) : ∀ K, NO B v x os K := by
 intro K
 induction K with
 | zero => intro a m b q w h1 h2 h3 h4; omega
 | succ K ih =>
  intro a m b q w ham hmb hb hK hS hq ho
  have hDl := oH hS
  have hrl := aG (iN x os q)
  have hsl := ho.sl
  have hq' : q < a ∨ b ≤ q ∨ q = a ∨ q = m := by
   by_cases e1 : a ≤ q
   ·by_cases e2 : q < b
    ·exact .inr (.inr (hq e1 e2))
    ·omega
   ·omega
  unfold IM
  go_enter Tryz.func189, Tryz.ntmps189
  refine_lift TN ?_; intro _ _ _ _ _
  ((with_reducible refine bJ ?_); (first | (refine fY ?_; refine iI ?_) | (refine iH ?_; refine jG ?_; (with_reducible refine bJ ?_); refine fY ?_; refine iI ?_)))
  ((with_reducible refine bJ ?_); (first | (refine fY ?_; refine iI ?_) | (refine iH ?_; refine jG ?_; (with_reducible refine bJ ?_); refine fY ?_; refine iI ?_)))
  refine aN (Runs.subE (m - a) rfl rfl (by omega) (by omega)) ?_
  refine aA ?_
  by_cases h1 : m - a = 1
  ·((with_reducible refine bJ ?_); (first | (refine fY ?_; refine iI ?_) | (refine iH ?_; refine jG ?_; (with_reducible refine bJ ?_); refine fY ?_; refine iI ?_)))
   rw [decide_eq_true (by omega : ((m - a : Nat) : Int) = 1)]
   refine_lift bS fun _ _ => ?_
   go_loopw [10, 11, 12] (fun i j _ wr => ∃ i' j' : Nat, m ≤ i' ∧ i' ≤ j' ∧ j' ≤ b ∧ (q = m → i' ≤ m + 1 ∧ m + 1 ≤ j') ∧ (q ≠ m → i' = m) ∧ i = .int .i64 i' ∧ j = .int .i64 j' ∧ Ext w wr) (fun i j _ _ => (intOf j - intOf i).toNat)
   case atStart => exact ⟨m, b, by omega, by omega, by omega, fun _ => by omega, fun _ => rfl, rfl, rfl, Ext.refl _⟩
   case round =>
    obtain ⟨i, j, hi, hij, hj, hqy, hqn, rfl, rfl, hx⟩ := hrel
    by_cases hlt : i < j
    ·refine_lift gO ?_; intro _ _ _ _
     refine aN (Runs.toU (n := i + j) rfl (by decide +kernel) (by decide +kernel) (by omega)) ?_; refine aA ?_; refine aN (Runs.shrU (m := i + j) rfl rfl) ?_; refine aA ?_; refine aN (Runs.ofU (n := (i + j) / 2) rfl (by decide +kernel) (by decide +kernel) (by omega)) ?_; refine aA ?_
     refine_lift bS fun _ _ => ?_
     obtain ⟨c, hc⟩ : ∃ c, c = (i + j) / 2 := ⟨_, rfl⟩
     rw [← hc]
     have hsx := hsl.ext hx
     have hc1 : i ≤ c ∧ c < j := by omega
     have hA := pJ hsx (i := c) (by omega)
     have hC := pJ hsx (i := a) (by omega)
     refine bE (by decide +kernel) (by decide +kernel) ?_
     refine_lift dN ?_
     refine oI (enters_of Tryz.func90 rfl rfl) rfl rfl rfl (fun w' _ => BD _ _ w') ?_
     refine aA ?_
     refine_lift dN ?_
     rw [BE hS (by omega) (by omega)]
     refine_lift dN ?_
     intro w3 x3
     have hx3 := hx.trans x3
     clear hA hC hsx
     by_cases hcq : c = q
     ·have hqm : q = m := by
       rcases hq (by omega) (by omega) with e | e <;> omega
      rw [decide_eq_true hcq, decide_eq_false (by omega : ¬ a = q)]
      simp only [Bool.not_false, Bool.and_true]
      refine_lift aP ?_
      exact ⟨⟨c + 1, j, by omega, by omega, hj, fun e => by have := hqy e; omega, fun e => absurd hqm e, by go_num, rfl, hx3⟩, by simp [intOf]; omega⟩
     ·rw [decide_eq_false hcq]
      simp only [Bool.false_and]
      refine_lift aP ?_
      exact ⟨⟨i, c, by omega, by omega, by omega, fun e => by have := hqy e; omega, hqn, rfl, rfl, hx3⟩, by simp [intOf]; omega⟩
    ·have hij2 : j = i := by omega
     subst hij2
     refine_lift kT fun _ _ _ => ?_
     have hox := ho.ext hx
     go_loopw [13] (fun k w2 => ∃ kk p : Nat, (kk = a ∧ p = q ∨ kk = a + 1 ∧ q = m ∧ p = a) ∧ k = .int .i64 kk ∧ Own B 4 47 w2 v (aC (iN x os p)) ∧ Mv v.ownBlock w w2) (fun k _ => m - (intOf k).toNat)
     case atStart => exact ⟨a, q, .inl ⟨rfl, rfl⟩, rfl, hox, hx.mv _⟩
     case round =>
      obtain ⟨kk, p, hkp, rfl, ho2, m2⟩ := hrel
      (repeat' first | ((with_reducible refine cI ?_); go_step) | ((with_reducible refine bJ ?_); first | refine fD ?_ | (refine cZ ?_ ?_ <;> intro hc)) | fail)
      ·obtain ⟨rfl, rfl⟩ : kk = a ∧ p = q := by
        rcases hkp with e | ⟨e1, e2, e3⟩
        ·exact e
        ·have := hqy e2; omega
       have hqm : p = m := by
        by_cases e : p = m
        ·exact e
        ·have := hqn e; omega
       obtain rfl : p = kk + 1 := by omega
       refine bT 15 (Ext wr) (by decide +kernel) ?_; intro w4 x4 _; refine ⟨x4, ?_⟩; have hsl3 := ho2.sl; have hpI := pJ hsl3 (i := kk) (by omega); have hpJ := pJ hsl3 (i := kk + 1) (by omega); refine iB 0 ?_; refine iB 1 ?_; refine iB 2 ?_; refine iB 3 ?_; refine jL 4 rfl (fun _ => Runs.inc rfl rfl (by omega)) ?_; refine aA ?_; refine iB 5 ?_; refine iB 6 ?_; refine jL 7 rfl (fun _ => Runs.inc rfl rfl (by omega)) ?_; refine aA ?_; refine dR 8 ?_; refine dR 9 ?_; refine iB 10 ?_; refine iB 11 ?_; refine dR 12 ?_; refine dR 13 ?_; refine jL 14 rfl (fun _ => Runs.idxW (n := kk) rfl hsl3 (by omega) (by decide +kernel)) ?_; refine aA ?_; refine bL (i := 15) (by decide +kernel) rfl rfl ?_; refine eT (i := kk) (f := ((iN x os (kk + 1)).getD (kk + 1) bM).cells) rfl rfl rfl (ho2.ext x4) (by omega) rfl rfl (Rec.cells1 _) (by decide +kernel) ?_; intro w5 o5 m5; refine aK ⟨bV rfl, ?_⟩; refine jL 16 rfl (fun _ => Runs.idxW (n := kk + 1) rfl hsl3 (by omega) (by decide +kernel)) ?_; refine aA ?_; refine bL (i := 17) (by decide +kernel) rfl rfl ?_; refine eT (i := kk + 1) (f := ((iN x os (kk + 1)).getD (kk) bM).cells) rfl rfl rfl o5 (by rw [List.length_set]; omega) rfl rfl (Rec.cells1 _) (by decide +kernel) ?_; intro w6 o6 m6; refine aK ⟨bV rfl, ?_⟩; refine cN (by decide +kernel) ?_; rw [fS, fS] at o6; clear hpI hpJ hsl3
       have hsw := (FP hS (by omega)).2
       unfold NM at hsw
       rw [hsw] at o6
       refine_lift aP ?_
       exact ⟨⟨kk + 1, kk, .inr ⟨rfl, hqm, rfl⟩, by go_num, o6, ((m2.trans (x4.mv _)).trans m5).trans m6⟩, by simp [intOf]; omega⟩
      ·((try simp only [Exit.inBlock, Exit.then]); refine bodyPost_ret (results_none rfl _ _ _) rfl ?_)
       have e : p = nS a m q := by
        unfold nS
        rcases hkp with ⟨e1, e2⟩ | ⟨e1, e2, e3⟩
        ·by_cases e : q = m
         ·have := hqy e; omega
         ·rw [if_neg e, e2]
        ·rw [if_pos e2, e3]
       exact ⟨rfl, by rw [← e]; exact ho2, m2⟩
  ·((with_reducible refine bJ ?_); (first | (refine fY ?_; refine iI ?_) | (refine iH ?_; refine jG ?_; (with_reducible refine bJ ?_); refine fY ?_; refine iI ?_)))
   rw [decide_eq_false (by omega : ¬ ((m - a : Nat) : Int) = 1)]
   refine_lift tK (fun _ _ _ => ?_) (fun _ _ _ _ _ => ?_)
   ·have h2 : b = m + 1 := by
     have := ‹(b : Int) - (m : Int) = 1›
     omega
    go_loopw [14, 15, 16] (fun i j _ wr => ∃ i' j' : Nat, a ≤ i' ∧ i' ≤ j' ∧ j' ≤ m ∧ (q = m → i' = a) ∧ (q ≠ m → j' = m) ∧ i = .int .i64 i' ∧ j = .int .i64 j' ∧ Ext w wr) (fun i j _ _ => (intOf j - intOf i).toNat)
    case atStart => exact ⟨a, m, by omega, by omega, by omega, fun _ => rfl, fun _ => rfl, rfl, rfl, Ext.refl _⟩
    case round =>
     obtain ⟨i, j, hi, hij, hj, hqy, hqn, rfl, rfl, hx⟩ := hrel
     by_cases hlt : i < j
     ·refine_lift gO ?_; intro _ _ _ _
      refine aN (Runs.toU (n := i + j) rfl (by decide +kernel) (by decide +kernel) (by omega)) ?_; refine aA ?_; refine aN (Runs.shrU (m := i + j) rfl rfl) ?_; refine aA ?_; refine aN (Runs.ofU (n := (i + j) / 2) rfl (by decide +kernel) (by decide +kernel) (by omega)) ?_; refine aA ?_
      refine_lift bS fun _ _ => ?_
      obtain ⟨c, hc⟩ : ∃ c, c = (i + j) / 2 := ⟨_, rfl⟩
      rw [← hc]
      have hsx := hsl.ext hx
      have hc1 : i ≤ c ∧ c < j := by omega
      have hA := pJ hsx (i := c) (by omega)
      have hC := pJ hsx (i := m) (by omega)
      refine bE (by decide +kernel) (by decide +kernel) ?_
      refine_lift dN ?_
      refine oI (enters_of Tryz.func90 rfl rfl) rfl rfl rfl (fun w' _ => BD _ _ w') ?_
      refine aA ?_
      refine_lift dN ?_
      rw [BE hS (by omega) (by omega)]
      refine_lift dN ?_
      intro w3 x3
      have hx3 := hx.trans x3
      clear hA hC hsx
      by_cases hqm : q = m
      ·rw [decide_eq_true hqm.symm, decide_eq_false (by omega : ¬ c = q)]
       simp only [Bool.not_false, Bool.and_true, Bool.not_true]
       refine_lift aP ?_
       exact ⟨⟨i, c, by omega, by omega, by omega, hqy, fun e => absurd hqm e, rfl, rfl, hx3⟩, by simp [intOf]; omega⟩
      ·rw [decide_eq_false (fun e => hqm e.symm : ¬ m = q)]
       simp only [Bool.false_and, Bool.not_false]
       refine_lift aP ?_
       exact ⟨⟨c + 1, j, by omega, by omega, by omega, fun e => absurd e hqm, hqn, by go_num, rfl, hx3⟩, by simp [intOf]; omega⟩
     ·have hij2 : j = i := by omega
      subst hij2
      refine_lift kT fun _ _ _ => ?_
      have hox := ho.ext hx
      go_loopw [17] (fun k w2 => ∃ kk p : Nat, (q = m ∧ a ≤ kk ∧ p = kk ∨ q ≠ m ∧ p = q) ∧ kk ≤ m ∧ (q ≠ m → kk = m) ∧ k = .int .i64 kk ∧ Own B 4 47 w2 v (aC (iN x os p)) ∧ Mv v.ownBlock w w2) (fun k _ => (intOf k).toNat)
      case atStart =>
       refine ⟨m, q, ?_, Nat.le_refl _, fun _ => rfl, rfl, hox, hx.mv _⟩
       by_cases e : q = m
       ·exact .inl ⟨e, by omega, e⟩
       ·exact .inr ⟨e, rfl⟩
      case round =>
       obtain ⟨kk, p, hkp, hkm, hkn, rfl, ho2, m2⟩ := hrel
       (repeat' first | ((with_reducible refine cI ?_); go_step) | ((with_reducible refine bJ ?_); first | refine fD ?_ | (refine cZ ?_ ?_ <;> intro hc)) | fail)
       ·have hk2 : j < kk := by
         have := ‹(j : Int) < (kk : Int)›
         omega
        have hqm : q = m := by
         by_cases e : q = m
         ·exact e
         ·have := hqn e; have := hkn e; omega
        have hp : p = kk := by
         rcases hkp with ⟨_, _, e⟩ | ⟨e, _⟩
         ·exact e
         ·exact absurd hqm e
        have hja := hqy hqm
        obtain ⟨n, rfl⟩ : ∃ n, kk = n + 1 := ⟨kk - 1, by omega⟩
        subst hp
        have hSp : Sx x os (n + 1) := hS.to (by omega) (by omega)
        have hDp := oH hSp
        have hrp := aG (iN x os (n + 1))
        refine bT 15 (Ext wr) (by decide +kernel) ?_; intro w4 x4 _; refine ⟨x4, ?_⟩; have hsl3 := ho2.sl; have hpI := pJ hsl3 (i := n + 1) (by omega); have hpJ := pJ hsl3 (i := n) (by omega); refine iB 0 ?_; refine iB 1 ?_; refine iB 2 ?_; refine iB 3 ?_; refine jL 4 rfl (fun _ => Runs.pred (m := n) rfl rfl (by omega)) ?_; refine aA ?_; refine iB 5 ?_; refine iB 6 ?_; refine jL 7 rfl (fun _ => Runs.pred (m := n) rfl rfl (by omega)) ?_; refine aA ?_; refine dR 8 ?_; refine dR 9 ?_; refine iB 10 ?_; refine iB 11 ?_; refine dR 12 ?_; refine dR 13 ?_; refine jL 14 rfl (fun _ => Runs.idxW (n := n + 1) rfl hsl3 (by omega) (by decide +kernel)) ?_; refine aA ?_; refine bL (i := 15) (by decide +kernel) rfl rfl ?_; refine eT (i := n + 1) (f := ((iN x os (n + 1)).getD (n) bM).cells) rfl rfl rfl (ho2.ext x4) (by omega) rfl rfl (Rec.cells1 _) (by decide +kernel) ?_; intro w5 o5 m5; refine aK ⟨bV rfl, ?_⟩; refine jL 16 rfl (fun _ => Runs.idxW (n := n) rfl hsl3 (by omega) (by decide +kernel)) ?_; refine aA ?_; refine bL (i := 17) (by decide +kernel) rfl rfl ?_; refine eT (i := n) (f := ((iN x os (n + 1)).getD (n + 1) bM).cells) rfl rfl rfl o5 (by rw [List.length_set]; omega) rfl rfl (Rec.cells1 _) (by decide +kernel) ?_; intro w6 o6 m6; refine aK ⟨bV rfl, ?_⟩; refine cN (by decide +kernel) ?_; rw [fS, fS] at o6; clear hpI hpJ hsl3
        have hsw := (FP hSp (by omega)).1
        unfold NM at hsw
        rw [hsw] at o6
        refine_lift aP ?_
        exact ⟨⟨n, n, .inl ⟨hqm, by omega, rfl⟩, by omega, fun e => absurd hqm e, by go_num, o6, ((m2.trans (x4.mv _)).trans m5).trans m6⟩, by simp [intOf]⟩
       ·((try simp only [Exit.inBlock, Exit.then]); refine bodyPost_ret (results_none rfl _ _ _) rfl ?_)
        have hk2 : kk ≤ j := by
         have := ‹(kk : Int) ≤ (j : Int)›
         omega
        have e : p = nS a m q := by
         unfold nS
         rcases hkp with ⟨e1, e2, e3⟩ | ⟨e1, e2⟩
         ·have := hqy e1
          rw [if_pos e1]; omega
         ·rw [if_neg e1, e2]
        exact ⟨rfl, by rw [← e]; exact ho2, m2⟩
   ·have h2 : ¬ b = m + 1 := by
     have := ‹¬ (b : Int) - (m : Int) = 1›
     omega
    refine aN (Runs.toU (n := a + b) rfl (by decide +kernel) (by decide +kernel) (by omega)) ?_; refine aA ?_; refine aN (Runs.shrU (m := a + b) rfl rfl) ?_; refine aA ?_; refine aN (Runs.ofU (n := (a + b) / 2) rfl (by decide +kernel) (by decide +kernel) (by omega)) ?_; refine aA ?_
    obtain ⟨d, hd⟩ : ∃ d, d = (a + b) / 2 := ⟨_, rfl⟩
    rw [← hd]
    have hd1 : a < d ∧ d < b := by omega
    obtain ⟨t, hT⟩ : ∃ t, (q = m ∧ d ≤ m ∧ t + 1 = d) ∨ (q ≠ m ∧ d < m ∧ t = d) ∨ (q ≠ m ∧ m ≤ d ∧ t = m) ∨ (q = m ∧ m < d ∧ t = m) := by
     by_cases e1 : q = m <;> by_cases e2 : d ≤ m <;> by_cases e3 : d < m
     all_goals first
      | exact ⟨d - 1, .inl ⟨e1, e2, by omega⟩⟩
      | exact ⟨d, .inr (.inl ⟨e1, e3, rfl⟩)⟩
      | exact ⟨m, .inr (.inr (.inl ⟨e1, by omega, rfl⟩))⟩
      | exact ⟨m, .inr (.inr (.inr ⟨e1, by omega, rfl⟩))⟩
    refine_lift CD (fun _ _ _ => ?_) (fun _ _ _ => ?_)
    all_goals
     go_loopw [20, 21, 23] (fun i j _ wr => ∃ i' j' : Nat, a ≤ i' ∧ d + m ≤ i' + b ∧ i' ≤ t ∧ t ≤ j' ∧ (j' = t ∨ d < m ∧ j' = d ∨ m ≤ d ∧ j' = m) ∧ i = .int .i64 i' ∧ j = .int .i64 j' ∧ Ext w wr) (fun i j _ _ => (intOf j - intOf i).toNat)
     case atStart =>
      first
       | exact ⟨a, m, by omega, by omega, by omega, by omega, by omega, rfl, rfl, Ext.refl _⟩
       | exact ⟨d + m - b, d, by omega, by omega, by omega, by omega, by omega, by rw [show (d : Int) + (m : Int) - (b : Int) = ((d + m - b : Nat) : Int) by omega], rfl, Ext.refl _⟩
     case round =>
      obtain ⟨i, j, hi, hib, ER, htj, hj, rfl, rfl, hx⟩ := hrel
      by_cases hlt : i < j
      ·refine_lift gO ?_; intro _ _ _ _
       refine aN (Runs.toU (n := i + j) rfl (by decide +kernel) (by decide +kernel) (by omega)) ?_; refine aA ?_; refine aN (Runs.shrU (m := i + j) rfl rfl) ?_; refine aA ?_; refine aN (Runs.ofU (n := (i + j) / 2) rfl (by decide +kernel) (by decide +kernel) (by omega)) ?_; refine aA ?_
       refine_lift bS fun _ _ => ?_
       obtain ⟨c, hc⟩ : ∃ c, c = (i + j) / 2 := ⟨_, rfl⟩
       rw [← hc]
       have hsx := hsl.ext hx
       have hc1 : i ≤ c ∧ c < j := by omega
       have hA := pJ hsx (i := d + m - 1 - c) (by omega)
       have hC := pJ hsx (i := c) (by omega)
       rw [show d + m - 1 - c = ((d : Int) + (m : Int) - 1 - (c : Int)).toNat by omega] at hA
       refine bE (by decide +kernel) (by decide +kernel) ?_
       refine_lift dN ?_
       refine oI (enters_of Tryz.func90 rfl rfl) rfl rfl rfl (fun w' _ => BD _ _ w') ?_
       refine aA ?_
       refine_lift dN ?_
       rw [show ((d : Int) + (m : Int) - 1 - (c : Int)).toNat = d + m - 1 - c by omega]
       rw [BE hS (by omega) (by omega)]
       refine_lift dN ?_
       intro w3 x3
       have hx3 := hx.trans x3
       clear hA hC hsx
       by_cases hct : c = t
       ·rw [decide_eq_true (by omega : d + m - 1 - c = q), decide_eq_false (by omega : ¬ c = q)]
        simp only [Bool.not_false, Bool.and_true, Bool.not_true]
        refine_lift aP ?_
        exact ⟨⟨i, c, by omega, by omega, by omega, by omega, by omega, rfl, rfl, hx3⟩, by simp [intOf]; omega⟩
       ·have hct2 : c < t := by omega
        rw [decide_eq_false (by omega : ¬ d + m - 1 - c = q)]
        simp only [Bool.false_and, Bool.not_false]
        refine_lift aP ?_
        exact ⟨⟨c + 1, j, by omega, by omega, by omega, by omega, by omega, by go_num, rfl, hx3⟩, by simp [intOf]; omega⟩
      ·have hjt : j = t := by omega
       have hi2 : i = t := by omega
       subst hjt
       subst hi2
       have hox := ho.ext hx
       have hmx := hx.mv v.ownBlock
       clear hlt hib hi htj hj ER
       rcases hT with ⟨hqm, hdm, ht1⟩ | ⟨hqm, hdm, ht1⟩ | ⟨hqm, hdm, ht1⟩ | ⟨hqm, hdm, ht1⟩
       ·have hsa : nS a m q = a := if_pos hqm
        subst hqm
        refine_lift QF fun _ _ _ _ _ => ?_
        rw [decide_eq_true (by omega : (i : Int) < (q : Int)), show (d : Int) + (q : Int) - (i : Int) = ((q + 1 : Nat) : Int) by omega]
        refine_lift QE fun _ => ?_
        rw [decide_eq_true (by omega : (q : Int) < ((q + 1 : Nat) : Int))]
        refine_lift yK ?_
        refine bB (enters_of Tryz.func224 rfl rfl) rfl rfl (LO v x os i q _ wr hS hox (by omega) (by omega) hl) ?_; rintro _ w5 ⟨rfl, o5, m5⟩; refine ⟨_, rfl, ?_⟩; refine aA ?_
        have hSi : Sx x os i := hS.to (by omega) (by omega)
        have hSa : Sx x os a := hS.to (by omega) (by omega)
        refine_lift SA fun _ _ _ _ => ?_
        by_cases hai : a < i
        ·rw [decide_eq_true (by omega : (a : Int) < (i : Int))]
         refine_lift QE fun _ => ?_
         rw [decide_eq_true (by omega : (i : Int) < (d : Int))]
         refine_lift yK ?_
         refine bB (enters_of Tryz.func189 rfl rfl) rfl rfl (ih a i d i w5 hai (by omega) (by omega) (by omega) hSi (fun _ _ => .inr rfl) o5) ?_; rintro _ w6 ⟨rfl, o6, m6⟩; refine ⟨_, rfl, ?_⟩; refine aA ?_
         have hs2 : nS a i i = a := if_pos rfl
         rw [hs2] at o6
         refine_lift QM fun _ _ => ?_
         rw [decide_eq_true (by omega : (d : Int) < ((q + 1 : Nat) : Int))]
         refine_lift QE fun _ => ?_
         rw [decide_eq_true (by omega : ((q + 1 : Nat) : Int) < (b : Int))]
         refine_lift yK ?_
         refine bB (enters_of Tryz.func189 rfl rfl) rfl rfl (ih d (q + 1) b a w6 (by omega) (by omega) (by omega) (by omega) hSa (fun e _ => by omega) o6) ?_; rintro _ w7 ⟨rfl, o7, m7⟩; refine ⟨_, rfl, ?_⟩; refine aA ?_
         have hs3 : nS d (q + 1) a = a := if_neg (by omega)
         rw [hs3] at o7
         refine_lift yK ?_
         go_end0
         exact ⟨rfl, by rw [hsa]; exact o7, ((hmx.trans m5).trans m6).trans m7⟩
        ·first
          | (exfalso; omega)
          | (obtain rfl : i = a := by omega
             rw [decide_eq_false (by omega : ¬ (i : Int) < (i : Int))]
             (repeat' first | ((with_reducible refine cI ?_); go_step) | ((with_reducible refine bJ ?_); refine fD ?_) | fail)
             rw [decide_eq_true (by omega : (d : Int) < ((q + 1 : Nat) : Int))]
             (repeat' first | ((with_reducible refine cI ?_); go_step) | ((with_reducible refine bJ ?_); refine fD ?_) | fail)
             rw [decide_eq_true (by omega : ((q + 1 : Nat) : Int) < (b : Int))]
             (repeat' first | ((with_reducible refine cI ?_); go_step) | ((with_reducible refine bJ ?_); refine fD ?_) | fail)
             refine bB (enters_of Tryz.func189 rfl rfl) rfl rfl (ih d (q + 1) b i w5 (by omega) (by omega) (by omega) (by omega) hSa (fun e _ => by omega) o5) ?_; rintro _ w7 ⟨rfl, o7, m7⟩; refine ⟨_, rfl, ?_⟩; refine aA ?_
             have hs3 : nS d (q + 1) i = i := if_neg (by omega)
             rw [hs3] at o7
             (repeat' first | ((with_reducible refine cI ?_); go_step) | ((with_reducible refine bJ ?_); refine fD ?_) | fail)
             go_end0
             exact ⟨rfl, by rw [hsa]; exact o7, (hmx.trans m5).trans m7⟩)
       ·first
         | (exfalso; omega)
         | (have hsa : nS a m q = q := if_neg hqm
            refine_lift QF fun _ _ _ _ _ => ?_
            rw [decide_eq_true (by omega : (i : Int) < (m : Int)), show (d : Int) + (m : Int) - (i : Int) = ((m : Nat) : Int) by omega]
            refine_lift QF fun _ _ _ _ _ => ?_
            rw [decide_eq_false (by omega : ¬ (m : Int) < (m : Int))]
            refine_lift yK ?_
            rw [decide_eq_true (by omega : (a : Int) < (i : Int))]
            refine_lift TM fun _ _ _ => ?_
            rw [decide_eq_false (by omega : ¬ (i : Int) < (d : Int))]
            refine_lift yK ?_
            rw [decide_eq_true (by omega : (d : Int) < (m : Int))]
            refine_lift QE fun _ => ?_
            rw [decide_eq_true (by omega : (m : Int) < (b : Int))]
            refine_lift yK ?_
            refine bB (enters_of Tryz.func189 rfl rfl) rfl rfl (ih d m b q wr hdm hmb hb (by omega) hS (fun e e2 => by omega) hox) ?_; rintro _ w7 ⟨rfl, o7, m7⟩; refine ⟨_, rfl, ?_⟩; refine aA ?_
            have hs3 : nS d m q = q := if_neg hqm
            rw [hs3] at o7
            refine_lift yK ?_
            go_end0
            exact ⟨rfl, by rw [hsa]; exact o7, hmx.trans m7⟩)
       ·first
         | (exfalso; omega)
         | (have hsa : nS a m q = q := if_neg hqm
            by_cases hid : i < d
            ·refine_lift QF fun _ _ _ _ _ => ?_
             rw [decide_eq_false (by omega : ¬ (i : Int) < (m : Int)), show (d : Int) + (m : Int) - (i : Int) = (d : Int) by omega]
             refine_lift SA fun _ _ _ _ => ?_
             rw [decide_eq_true (by omega : (a : Int) < (i : Int))]
             refine_lift QE fun _ => ?_
             refine bB (enters_of Tryz.func189 rfl rfl) rfl rfl (ih a i d q wr (by omega) hid (by omega) (by omega) hS (fun e e2 => by omega) hox) ?_; rintro _ w7 ⟨rfl, o7, m7⟩; refine ⟨_, rfl, ?_⟩; refine aA ?_
             have hs3 : nS a i q = q := if_neg (by omega)
             rw [hs3] at o7
             refine_lift QM fun _ _ => ?_
             rw [decide_eq_false (by omega : ¬ (d : Int) < (d : Int))]
             refine_lift yK ?_
             go_end0
             exact ⟨rfl, by rw [hsa]; exact o7, hmx.trans m7⟩
            ·refine_lift QF fun _ _ _ _ _ => ?_
             rw [decide_eq_false (by omega : ¬ (i : Int) < (m : Int)), show (d : Int) + (m : Int) - (i : Int) = (d : Int) by omega]
             refine_lift SA fun _ _ _ _ => ?_
             rw [decide_eq_true (by omega : (a : Int) < (i : Int))]
             refine_lift TM fun _ _ _ => ?_
             rw [decide_eq_false (by omega : ¬ (d : Int) < (d : Int))]
             refine_lift yK ?_
             go_end0
             exact ⟨rfl, by rw [hsa]; exact hox, hmx⟩)
       ·first
         | (exfalso; omega)
         | (have hsa : nS a m q = a := if_pos hqm
            refine_lift QF fun _ _ _ _ _ => ?_
            rw [decide_eq_false (by omega : ¬ (i : Int) < (m : Int)), show (d : Int) + (m : Int) - (i : Int) = (d : Int) by omega]
            refine_lift SA fun _ _ _ _ => ?_
            rw [decide_eq_true (by omega : (a : Int) < (i : Int))]
            refine_lift QE fun _ => ?_
            rw [decide_eq_true (by omega : (i : Int) < (d : Int))]
            refine_lift yK ?_
            refine bB (enters_of Tryz.func189 rfl rfl) rfl rfl (ih a i d q wr (by omega) (by omega) (by omega) (by omega) hS (fun e e2 => by omega) hox) ?_; rintro _ w7 ⟨rfl, o7, m7⟩; refine ⟨_, rfl, ?_⟩; refine aA ?_
            have hs3 : nS a i q = a := if_pos (by omega)
            rw [hs3] at o7
            refine_lift QM fun _ _ => ?_
            rw [decide_eq_false (by omega : ¬ (d : Int) < (d : Int))]
            refine_lift yK ?_
            go_end0
            exact ⟨rfl, by rw [hsa]; exact o7, hmx.trans m7⟩)
def wQ (s q : Nat) : Nat := s * (q / s)
theorem wR (s q : Nat) : wQ s q ≤ q := Nat.mul_div_le q s
theorem wS {s q k : Nat} (hs : 0 < s) (h1 : s * k ≤ q) (h2 : q < s * k + s) : wQ s q = s * k := by
 have : q / s = k := by
  refine Nat.div_eq_of_lt_le ?_ ?_
  ·rw [Nat.mul_comm]; exact h1
  ·rw [Nat.mul_comm, Nat.mul_succ]; exact h2
 rw [wQ, this]
theorem BF {s q a k : Nat} (hs : 0 < s) (ha : a = 2 * s * k) (h1 : a ≤ q) (h2 : q < a + 2 * s) : wQ (2 * s) q = a ∧ (q < a + s → wQ s q = a) ∧ (a + s ≤ q → wQ s q = a + s) := by
 have e1 : s * (2 * k) = a := by rw [ha, ← Nat.mul_assoc, Nat.mul_comm s 2]
 have e2 : s * (2 * k + 1) = a + s := by rw [Nat.mul_succ, e1]
 refine ⟨by rw [ha]; exact wS (by omega) (by omega) (by omega), fun h => ?_, fun h => ?_⟩
 ·rw [← e1]; exact wS hs (by omega) (by omega)
 ·rw [← e2]; exact wS hs (by omega) (by omega)
theorem LR {s q : Nat} (h : q < s) : wQ s q = 0 := by rw [wQ, Nat.div_eq_of_lt h, Nat.mul_zero]
def nT (N s a q : Nat) : Nat := if q < N then (if q < a then wQ (2 * s) q else wQ s q) else q
theorem DY {N s a k q b : Nat} (hs : 0 < s) (ha : a = 2 * s * k) (hb : b ≤ a + 2 * s) (hbN : b ≤ N) (h1 : a ≤ nT N s a q) (h2 : nT N s a q < b) : nT N s a q = a ∨ nT N s a q = a + s := by
 have h2q := wR (2 * s) q
 have hfar : a + 2 * s ≤ q → a + 2 * s ≤ wQ s q := fun h => by
  have e : a + 2 * s = s * (2 * (k + 1)) := by rw [ha, ← Nat.mul_assoc, Nat.mul_comm s 2, Nat.mul_succ]
  rw [e] at h ⊢
  exact Nat.mul_le_mul_left s ((Nat.le_div_iff_mul_le hs).2 (by rw [Nat.mul_comm]; exact h))
 unfold nT at h1 h2 ⊢
 by_cases c1 : q < N
 ·rw [if_pos c1] at h1 h2 ⊢
  by_cases c2 : q < a
  ·rw [if_pos c2] at h1; omega
  ·rw [if_neg c2] at h1 h2 ⊢
   by_cases c3 : q < a + 2 * s
   ·have := BF hs ha (by omega) c3
    by_cases c4 : q < a + s
    ·exact .inl (this.2.1 c4)
    ·exact .inr (this.2.2 (by omega))
   ·have := hfar (by omega); omega
 ·rw [if_neg c1] at h2; omega
theorem zY {N s a k q : Nat} (hs : 0 < s) (ha : a = 2 * s * k) (hN : a + s < N) : nS a (a + s) (nT N s a q) = nT N s (a + 2 * s) q := by
 have h2q := wR (2 * s) q
 have hfar : a + 2 * s ≤ q → a + 2 * s ≤ wQ s q := fun h => by
  have e : a + 2 * s = s * (2 * (k + 1)) := by rw [ha, ← Nat.mul_assoc, Nat.mul_comm s 2, Nat.mul_succ]
  rw [e] at h ⊢
  exact Nat.mul_le_mul_left s ((Nat.le_div_iff_mul_le hs).2 (by rw [Nat.mul_comm]; exact h))
 unfold nT nS
 by_cases c1 : q < N
 ·simp only [if_pos c1]
  by_cases c2 : q < a
  ·rw [if_pos c2, if_neg (by omega), if_pos (by omega)]
  ·rw [if_neg c2]
   by_cases c3 : q < a + 2 * s
   ·have := BF hs ha (by omega) c3
    rw [if_pos c3, this.1]
    by_cases c4 : q < a + s
    ·rw [this.2.1 c4, if_neg (by omega)]
    ·rw [this.2.2 (by omega), if_pos rfl]
   ·have := hfar (by omega)
    rw [if_neg c3, if_neg (by omega)]
 ·simp only [if_neg c1]
  rw [if_neg (by omega)]
theorem LS {N s a k q : Nat} (hs : 0 < s) (ha : a = 2 * s * k) (hN : N ≤ a + s) : nT N s a q = if q < N then wQ (2 * s) q else q := by
 unfold nT
 by_cases c1 : q < N
 ·rw [if_pos c1, if_pos c1]
  by_cases c2 : q < a
  ·rw [if_pos c2]
  ·rw [if_neg c2]
   have := BF (q := q) hs ha (by omega) (by omega)
   rw [this.1, this.2.1 (by omega)]
 ·rw [if_neg c1, if_neg c1]
theorem LT {N s a q : Nat} (h : N ≤ a) : nT N s a q = if q < N then wQ (2 * s) q else q := by
 unfold nT
 by_cases c1 : q < N
 ·rw [if_pos c1, if_pos c1, if_pos (by omega)]
 ·rw [if_neg c1, if_neg c1]
theorem IN {N s q : Nat} : nT N s 0 q = if q < N then wQ s q else q := by
 unfold nT
 rw [if_neg (Nat.not_lt_zero q)]
set_option maxHeartbeats 8000000 in
theorem LU {B : Nat} (v : Value) (x : Option Rec) (os : List Rec) (q : Nat) (w : World) (hS : Sx x os q) (ho : Own B 4 47 w v (aC (iN x os q))) (hl : oT x os ≤ 1000000) :
 Calls Tryz.prog 147 #[v, .int .i64 (oT x os), IM] w fun e w' => e = .returned (.tuple #[]) ∧ Own B 4 47 w' v (aC (iN x os (if q < oT x os then 0 else q))) ∧ Mv v.ownBlock w w' := by
 generalize hN : oT x os = N at *
 unfold IM
 go_enter Tryz.func147, Tryz.ntmps147
 refine_lift kT ?_; intro _ _ _
 go_loopw [7, 8] (fun i j wr => ∃ a k : Nat, a = 20 * k ∧ a ≤ N ∧ i = .int .i64 a ∧ j = .int .i64 ((a + 20 : Nat) : Int) ∧ Own B 4 47 wr v (aC (iN x os (if q < a then wQ 20 q else q))) ∧ Mv v.ownBlock w wr) (fun i _ _ => N - (intOf i).toNat)
 case atStart => exact ⟨0, 0, rfl, Nat.zero_le _, rfl, rfl, by rw [if_neg (by omega)]; exact ho, Mv.refl _ _⟩
 case round =>
  obtain ⟨a, k, ha, haN, rfl, rfl, ho1, m1⟩ := hrel
  have hflq := wR 20 q
  have hS1 : Sx x os (if q < a then wQ 20 q else q) := by
   split
   ·exact hS.to (by omega) (by omega)
   ·exact hS
  by_cases hbn : a + 20 ≤ N
  ·refine_lift gO ?_; intro _ _ _ _
   refine bB (enters_of Tryz.func188 rfl rfl) rfl rfl (tF v x os _ a (a + 20) wr hS1 ho1 (by omega) (by omega) (by omega)) ?_; rintro _ w5 ⟨rfl, o5, m5⟩; refine ⟨_, rfl, ?_⟩; refine aA ?_
   have e : kW a (a + 20) (if q < a then wQ 20 q else q) = if q < a + 20 then wQ 20 q else q := by
    unfold kW
    by_cases c1 : q < a
    ·rw [if_pos c1, if_neg (by omega), if_pos (by omega)]
    ·rw [if_neg c1]
     by_cases c2 : q < a + 20
     ·rw [if_pos ⟨by omega, c2⟩, if_pos c2, ha]
      exact (wS (by omega) (by omega) (by omega)).symm
     ·rw [if_neg (by omega), if_neg c2]
   rw [e] at o5
   refine_lift aP ?_
   exact ⟨⟨a + 20, k + 1, by omega, hbn, rfl, by go_num, o5, m1.trans m5⟩, by simp [intOf]; omega⟩
  ·refine_lift kT fun _ _ _ => ?_
   refine bB (enters_of Tryz.func188 rfl rfl) rfl rfl (tF v x os _ a N wr hS1 ho1 (by omega) (by omega) (by omega)) ?_; rintro _ w5 ⟨rfl, o5, m5⟩; refine ⟨_, rfl, ?_⟩; refine aA ?_
   have e : kW a N (if q < a then wQ 20 q else q) = if q < N then wQ 20 q else q := by
    unfold kW
    by_cases c1 : q < a
    ·rw [if_pos c1, if_neg (by omega), if_pos (by omega)]
    ·rw [if_neg c1]
     by_cases c2 : q < N
     ·rw [if_pos ⟨by omega, c2⟩, if_pos c2, ha]
      exact (wS (by omega) (by omega) (by omega)).symm
     ·rw [if_neg (by omega), if_neg c2]
   rw [e] at o5
   have m5 := m1.trans m5
   clear ho1 m1 e hS1 ha haN hbn
   refine_lift aP ?_
   go_loopw [6, 7, 8, 9] (fun z _ _ _ wr => ∃ s : Nat, 20 ≤ s ∧ s ≤ 2000000 ∧ z = .int .i64 s ∧ Own B 4 47 wr v (aC (iN x os (if q < N then wQ s q else q))) ∧ Mv v.ownBlock w wr) (fun z _ _ _ _ => N - (intOf z).toNat)
   case atStart => exact ⟨20, Nat.le_refl _, by omega, rfl, o5, m5⟩
   case round =>
    obtain ⟨s, hs, hs2, rfl, ho1, m1⟩ := hrel
    have hsq := wR s q
    by_cases hsN : s < N
    ·refine_lift gO ?_; intro _ _ _ _
     rw [show (2 : Int) * (s : Int) = ((2 * s : Nat) : Int) by omega]
     go_loopw [7, 8] (fun i j w2 => ∃ a k : Nat, a = 2 * s * k ∧ a ≤ N ∧ i = .int .i64 a ∧ j = .int .i64 ((a + 2 * s : Nat) : Int) ∧ Own B 4 47 w2 v (aC (iN x os (nT N s a q))) ∧ Mv v.ownBlock w w2) (fun i _ _ => N - (intOf i).toNat)
     case atStart => exact ⟨0, 0, rfl, Nat.zero_le _, rfl, by rw [Nat.zero_add], by rw [IN]; exact ho1, m1⟩
     case round =>
      obtain ⟨a, k, ha, haN, rfl, rfl, ho2, m2⟩ := hrel
      have h2q := wR (2 * s) q
      have hS2 : Sx x os (nT N s a q) := by
       unfold nT
       split
       ·refine hS.to (by omega) ?_
        split <;> omega
       ·exact hS
      by_cases hbn : a + 2 * s ≤ N
      ·refine_lift gO ?_; intro _ _ _ _
       refine bB (enters_of Tryz.func189 rfl rfl) rfl rfl (OJ v x os (by omega) _ a (a + s) (a + 2 * s) _ wr (by omega) (by omega) (by omega) (Nat.le_refl _) hS2 (DY (by omega) ha (Nat.le_refl _) hbn) ho2) ?_; rintro _ w6 ⟨rfl, o6, m6⟩; refine ⟨_, rfl, ?_⟩; refine aA ?_
       rw [zY (by omega) ha (by omega)] at o6
       refine_lift aP ?_
       exact ⟨⟨a + 2 * s, k + 1, by rw [ha, Nat.mul_succ], hbn, rfl, by rw [show ((a + 2 * s : Nat) : Int) + 2 * (s : Int) = ((a + 2 * s + 2 * s : Nat) : Int) by omega], o6, m2.trans m6⟩, by simp [intOf]; omega⟩
      ·refine_lift EO (fun _ _ => ?_) (fun _ _ _ _ => ?_)
       ·have hm : a + s < N := by
         have := ‹(a : Int) + (s : Int) < (N : Int)›
         omega
        refine bB (enters_of Tryz.func189 rfl rfl) rfl rfl (OJ v x os (by omega) _ a (a + s) N _ wr (by omega) hm (by omega) (Nat.le_refl _) hS2 (DY (by omega) ha (by omega) (Nat.le_refl _)) ho2) ?_; rintro _ w6 ⟨rfl, o6, m6⟩; refine ⟨_, rfl, ?_⟩; refine aA ?_
        rw [zY (by omega) ha hm, LT (by omega)] at o6
        refine_lift aP ?_
        exact ⟨⟨2 * s, by omega, by omega, by rw [show (s : Int) * 2 = ((2 * s : Nat) : Int) by omega], o6, m2.trans m6⟩, by simp [intOf]; omega⟩
       ·have hm : N ≤ a + s := by
         have := ‹(N : Int) ≤ (a : Int) + (s : Int)›
         omega
        rw [LS (by omega) ha hm] at ho2
        exact ⟨⟨2 * s, by omega, by omega, by rw [show (s : Int) * 2 = ((2 * s : Nat) : Int) by omega], ho2, m2⟩, by simp [intOf]; omega⟩
    ·refine_lift fG fun _ => ?_
     go_end0
     have e : (if q < N then wQ s q else q) = if q < N then 0 else q := by
      by_cases c : q < N
      ·rw [if_pos c, if_pos c, LR (by omega)]
      ·rw [if_neg c, if_neg c]
     rw [e] at ho1
     exact ⟨rfl, ho1, m1⟩
set_option maxHeartbeats 4000000 in
theorem BG {B : Nat} (v : Value) (x : Option Rec) (os : List Rec) (q : Nat) (w : World) (hS : Sx x os q) (ho : Own B 4 47 w v (aC (iN x os q))) (hl : oT x os ≤ 1000000) :
 Calls Tryz.prog 89 #[v, IM] w fun e w' => e = .returned (.tuple #[]) ∧ Own B 4 47 w' v (aC (iN x os (if q < oT x os then 0 else q))) ∧ Mv v.ownBlock w w' := by
 have hsl := ho.sl
 have hrl := aG (iN x os q)
 have hDl := oH hS
 have hst := LU v x os q w hS ho hl
 unfold IM at hst ⊢
 go_enter Tryz.func89, Tryz.ntmps89
 refine_lift fG ?_; intro _
 rw [hrl, hDl]
 refine bB (enters_of Tryz.func147 rfl rfl) rfl rfl (hst) ?_; rintro _ w5 ⟨rfl, o5, m5⟩; refine ⟨_, rfl, ?_⟩; refine aA ?_
 refine_lift aP ?_
 go_end0
 exact ⟨rfl, o5, m5⟩
theorem PP {D : List Rec} (h : (D.filter aS).length ≤ 1) : ∃ x os q, Sx x os q ∧ iN x os q = D ∧ oT x os = D.length ∧ iN x os (if q < oT x os then 0 else q) = fJ D := by
 rcases tW D h with h1 | ⟨os, q, r, h1, h2, h3, h4⟩
 ·exact ⟨none, D, D.length, ⟨h1, fun r e => (by cases e), fun _ => Nat.le_refl _⟩, rfl, by simp [oT], (wN h1).symm⟩
 ·have e : oT (some r) os = os.length + 1 := rfl
  refine ⟨some r, os, q, ⟨h4, fun r' e => ⟨by cases e; exact h3, h1⟩, fun e => by cases e⟩, h2.symm, by rw [e, h2, jQ h1], ?_⟩
  rw [e, if_pos (by omega), h2, sF h4 h3]
  rfl
theorem IP {D : List Rec} (h : (D.filter aS).length ≤ 1) : (fJ D).length = D.length := (FS h).length_eq
theorem wT (v : Value) (D : List Rec) (w : World) (hv : Sl 4 w v (aC D)) (h1 : (D.filter aS).length ≤ 1) (hl : D.length ≤ 1000000) :
 Calls Tryz.prog 39 #[v] w (jK w fun r w' => Own w.heap.size 4 47 w' r (aC (fJ D))) := by
 obtain ⟨x, os, q, hS, hD, hN, hH⟩ := PP h1
 go_enter Tryz.func39, Tryz.ntmps39
 refine_lift kT ?_; intro _ _ _
 refine aI (enters_of Tryz.func52 rfl rfl) rfl rfl (nM v D w hv hl) ?_
 intro r w2 x2 o2
 refine aA ?_
 refine_lift bS fun _ _ => ?_
 rw [← hD] at o2
 refine bB (enters_of Tryz.func89 rfl rfl) rfl rfl (BG r x os q w2 hS o2 (by omega)) ?_; rintro _ w5 ⟨rfl, o5, m5⟩; refine ⟨_, rfl, ?_⟩; refine aA ?_
 rw [hH] at o5
 refine_lift aP ?_
 go_ret
 exact ⟨_, rfl, o2.mvx m5 x2 (Nat.le_refl _), o5⟩
set_option maxHeartbeats 4000000 in
theorem BH (o : List UInt8) (v : Value) (l : List RSet) (w : World) (hv : SetsAt w v l) (hb : ∀ s ∈ l, s.data.length ≤ 1000000) :
 Calls Tryz.prog 11 #[.agg #[aH o, v]] w (jK w fun r w' => ∃ y, r = .tuple #[y, .int .i64 (aQ o l)] ∧ Own w.heap.size 4 47 w' y (aC (gL o l))) := by
 go_enter Tryz.func11, Tryz.ntmps11
 refine_lift rF ?_; intro _ _ _
 refine aT (vs := [aH o, v]) rfl rfl ?_
 intro p w1 x1 hp
 refine aA ?_
 refine_lift gO fun _ _ _ _ => ?_
 refine aB (enters_of Tryz.func34 rfl rfl) rfl rfl (tV o v l _ (hv.ext x1) hb) ?_; intro w2 x2; refine aA ?_
 have hx2 := x1.trans x2
 by_cases hz : aQ o l = 0
 ·have hz' : (!decide (aQ o l = 0)) = false := by simp [hz]
  have hok := eW hz
  obtain ⟨zl, zb, zd, zr⟩ := nO hok
  obtain ⟨os, q, hr⟩ := hok.recs
  have hh := hr.head hok
  have h1 : ((aL l).filter aS).length ≤ 1 := by
   have := sH hok (fun _ => true)
   have e : (aL l).filter (fun _ => true) = aL l := List.filter_eq_self.2 (by simp)
   rwa [e] at this
  have hhl := IP h1
  rw [hz]
  refine_lift bS fun _ _ => ?_
  refine aI (enters_of Tryz.func40 rfl rfl) rfl rfl (RC v l _ (hv.ext hx2) (by omega)) ?_
  intro r3 w3 x3 o3
  refine aA ?_
  refine_lift aP ?_
  refine aI (enters_of Tryz.func39 rfl rfl) rfl rfl (wT r3 _ w3 o3.sl h1 (by omega)) ?_
  intro r4 w4 x4 o4
  have hs4 := o4.sl
  have hhd : cC (fJ (aL l)) = soaRec o l := by rw [hh]; rfl
  have hr0 : (aC (fJ (aL l)))[0]? = some [aH (soaRec o l).name, .int .i64 (soaRec o l).kind, .int .i64 (soaRec o l).ttl, aH (soaRec o l).data] := by rw [hh]; rfl
  have hpe := hs4.elem hr0
  refine aA ?_
  refine_lift bS fun _ _ => ?_
  refine aN (Runs.idxW (n := 0) rfl hs4 (by rw [aG, hh]; simp) (by decide +kernel)) ?_
  refine aA ?_
  refine_lift aP ?_
  have hB : w.heap.size ≤ w3.heap.size := (hx2.trans x3).size
  have hB4 := x4.size
  refine JE [aH (soaRec o l).name, .int .i64 (soaRec o l).kind, .int .i64 (soaRec o l).ttl, aH (soaRec o l).data] ((hx2.trans x3).trans x4) (o4.weaken hB) (by rw [aG]; omega) ?_ (iV rfl)
  intro s v' w5 w6 x5 m6 x6 o6
  refine aA ?_
  refine_lift aP ?_
  go_ret2
  refine ⟨_, rfl, x6, v', by rw [hz]; rfl, ?_⟩
  have e : aC (gL o l) = aC (fJ (aL l)) ++ [[aH (soaRec o l).name, .int .i64 (soaRec o l).kind, .int .i64 (soaRec o l).ttl, aH (soaRec o l).data]] := by
   rw [gL, if_pos hz, hhd]
   simp [aC, Rec.cells]
  rw [e]
  exact o6
 ·have hz' : (!decide (aQ o l = 0)) = true := by simp [hz]
  refine_lift rQ (fun _ _ _ => ?_) (fun _ => ?_)
  all_goals first
   | (exfalso
      have hh := ‹(!decide (aQ o l = 0)) = false›
      rw [hz'] at hh
      cases hh
      done)
   | skip
  go_ret2
  exact ⟨_, rfl, hx2, _, rfl, by rw [gL, if_neg hz]; exact Own.nil _ _ _ _⟩
def wU : List Rec := [⟨[1, 97], 6, 9, FL⟩, ⟨[1, 97], 2, 9, [2, 110, 115, 1, 97, 0]⟩, ⟨[2, 110, 115, 1, 97], 1, 9, [49, 49, 49, 49]⟩, ⟨[1, 97], 6, 9, FL⟩]
theorem RQ : gL [1, 97] mN = wU := by decide +kernel
def sA : SecR := BC [1, 97] 7
def sB : SecR := sA.heard 5 0
def sC : SecR := sB.got wU 1
def sD : SecR := sC.notify 6 2
theorem SV : ∀ q ∈ wU, q.data.length ≤ 1000000 := by decide +kernel
end Go.Proofs.X
set_option linter.unusedSimpArgs false
set_option linter.unusedVariables false
namespace Go.Proofs.X
open Go.RowKit
section
variable {retry n now : Int} (h1 : 1 ≤ retry) (h2 : retry ≤ 100000) (h3 : 0 ≤ n) (h4 : n ≤ 4294967295) (h5 : 0 ≤ now) (h6 : now ≤ 1000000)
include h5 h6
end
end Go.Proofs.X
set_option linter.unusedSimpArgs false
set_option linter.unusedVariables false
namespace Go.Proofs.X
open Go.RowKit
set_option maxRecDepth 100000
section
variable {now : Int} (h5 : 0 ≤ now) (h6 : now ≤ 1000000)
include h5 h6
end
section
variable {n now : Int} (h5 : 0 ≤ now) (h6 : now ≤ 1000000)
include h5 h6
end
structure OpsAt (w : World) (v : Value) (ps : List OpR) : Prop where
 out : ∃ css, Sl 4 w v css ∧ css.length = ps.length ∧ ∀ (i : Nat) (p : OpR), ps[i]? = some p → ∃ u, css[i]? = some [.int .i64 p.op, .int .i64 p.n, .int .i64 p.now, u] ∧ Sl 4 w u (aC p.l)
theorem OpsAt.ext {w w' : World} {v : Value} {ps : List OpR} (h : OpsAt w v ps) (hx : Ext w w') : OpsAt w' v ps := by
 obtain ⟨css, h1, h2, h3⟩ := h
 exact ⟨css, h1.ext hx, h2, fun i z hi => let ⟨u, a, b⟩ := h3 i z hi; ⟨u, a, b.ext hx⟩⟩
section
variable {P : Program} {w : World} {ts : List Value} {df : List Deferred} {d : Option Nat} {ty : TypeId} {ps : String} {af : Array Edge} {g : Option (Nat × Bool)}
end
theorem nU (n a b : Int) (w : World) : Calls Tryz.prog 120 #[.int .i64 n, .int .i64 a, .int .i64 b] w (bC w (.bool (eX n a b))) := by
 go_enter Tryz.func120, Tryz.ntmps120
 refine_lift xO (fun hc => ?_) (fun hc => ?_)
 all_goals
  go_ret
  refine ⟨?_, Ext.refl _⟩
  simp [eX]
  omega
theorem FT (q : xX) (w : World) : Calls Tryz.prog 123 #[.agg #[aH q.1, .int .i64 q.2]] w (bC w (.bool (BL q))) := by
 go_enter Tryz.func123, Tryz.ntmps123
 refine_lift gT fun _ _ => ?_
 refine aT (vs := [aH q.1, .int .i64 q.2]) rfl rfl ?_
 intro p w1 x1 hp
 refine aA ?_
 refine_lift kU fun _ _ => ?_
 refine aB (enters_of Tryz.func57 rfl rfl) rfl rfl ((show Calls Tryz.prog 57 #[aH q.1] w1 (bC w1 (.int .i64 (eC q.1))) from QI q.1 w1)) ?_; intro w2 x2; refine aA ?_
 have hp2 := hp.ext x2
 by_cases hcE : eC q.1 = 0
 ·rw [hcE]
  refine_lift cV ?_
  refine aB (enters_of Tryz.func120 rfl rfl) rfl rfl (nU q.2 1 65535 _) ?_; intro w3 x3; refine aA ?_
  have hp3 := hp2.ext x3
  cases hw : eX q.2 1 65535 with
  | false =>
   refine_lift cV ?_
   go_ret
   refine ⟨?_, (x1.trans x2).trans x3⟩
   simp only [eX] at hw
   simp [BL, hcE, hw]
  | true =>
   refine_lift cV ?_
   go_ret
   refine ⟨?_, (x1.trans x2).trans x3⟩
   simp only [eX] at hw
   simp [BL, hcE, hw]
 ·refine_lift xO (fun hc => ?_) (fun hc => ?_)
  all_goals first
   | (exfalso; contradiction)
   | skip
  go_ret
  refine ⟨?_, x1.trans x2⟩
  simp [BL, hcE]
theorem NP (r : Rec) (w : World) : Calls Tryz.prog 176 #[.agg #[aH r.name, .int .i64 r.kind, .int .i64 r.ttl, aH r.data]] w (bC w (.bool (!decide (aV r = 0)))) := by
 go_enter Tryz.func176, Tryz.ntmps176
 refine_lift gT fun _ _ => ?_
 refine aT (vs := [aH r.name, .int .i64 r.kind, .int .i64 r.ttl, aH r.data]) rfl rfl ?_
 intro p w1 x1 hp
 refine aA ?_
 refine_lift kU fun _ _ => ?_
 refine aB (enters_of Tryz.func60 rfl rfl) rfl rfl (RB r _) ?_; intro w2 x2; refine aA ?_
 refine_lift cV ?_
 go_ret
 exact ⟨rfl, x1.trans x2⟩
theorem sI (v : Value) (l : List Rec) (w : World) (hv : Sl 4 w v (aC l)) : Calls Tryz.prog 124 #[v] w (bC w (.bool (eD l))) := by
 have hlen := aG l
 go_enter Tryz.func124, Tryz.ntmps124
 refine_lift QW (fun hc => ?_) (fun _ _ hc => ?_)
 ·have h2 : decide (l.length ≤ 200) = true := decide_eq_true (by omega)
  refine aB (enters_of Tryz.func58 rfl rfl) rfl rfl (jE v l _ (fun r => !decide (aV r = 0)) _ hv (enters_of Tryz.func176 rfl rfl) (fun r _ w' => NP r w')) ?_; intro w1 x1; refine aA ?_
  refine_lift cV ?_
  go_ret
  refine ⟨?_, x1⟩
  rw [eD, h2]
  rfl
 ·have h2 : decide (l.length ≤ 200) = false := decide_eq_false (by omega)
  go_ret
  refine ⟨?_, Ext.refl _⟩
  rw [eD, h2]
  rfl
set_option maxHeartbeats 1000000 in
theorem zZ (q : xX) (w : World) : Calls Tryz.prog 122 #[.agg #[aH q.1, .int .i64 q.2]] w (bC w (.bool (!BL q))) := by
 go_enter Tryz.func122, Tryz.ntmps122
 refine_lift gT fun _ _ => ?_
 refine aT (vs := [aH q.1, .int .i64 q.2]) rfl rfl ?_
 intro p w1 x1 hp
 refine aA ?_
 refine_lift kU fun _ _ => ?_
 refine aB (enters_of Tryz.func123 rfl rfl) rfl rfl (FT q _) ?_; intro w2 x2; refine aA ?_
 refine_lift cV ?_
 go_ret
 exact ⟨rfl, x1.trans x2⟩
def OK (f : FuncId) (l : List xX) (p : xX → Bool) : Prop := ∀ r ∈ l, ∀ w', Calls Tryz.prog f #[.agg #[aH r.1, .int .i64 r.2]] w' (bC w' (.bool (p r)))
theorem lK {l : List xX} {k : Nat} (h : k < l.length) : (bQ l)[k]? = some [aH l[k].1, .int .i64 l[k].2] := by
 simp [bQ, List.getElem?_eq_getElem h]
set_option maxHeartbeats 3000000 in
theorem BI (v : Value) (l : List xX) (f : FuncId) (p : xX → Bool) (w : World) (hv : Sl 2 w v (bQ l)) (he : Enters Tryz.prog f) (hf : OK f l p) : Calls Tryz.prog 175 #[v, .func (.func f) #[] #[]] w (bC w (.int .i64 (mG p l))) := by
 have hle := hv.le
 have hlen := bN l
 go_enter Tryz.func175, Tryz.ntmps175
 refine_lift kU fun _ _ => ?_
 go_loopw [5, 8] (fun _ i wr => ∃ k : Nat, k ≤ l.length ∧ i = .int .i64 k ∧ Ext w wr ∧ (l.take k).any p = false) (fun _ i _ => l.length - (intOf i).toNat)
 case atStart => exact ⟨0, Nat.zero_le _, rfl, Ext.refl _, rfl⟩
 case round =>
  obtain ⟨k, hk, rfl, hx, hall⟩ := hrel
  have hv2 := hv.ext hx
  by_cases hlt : k < l.length
  ·have hpe := hv2.elem (lK hlt)
   refine_lift ME ?_; intro _ _ _ _ _ _
   refine eF he rfl rfl rfl (hf _ (List.getElem_mem hlt) _) ?_
   rintro e w2 ⟨rfl, x2⟩
   refine ⟨_, rfl, ?_⟩
   refine aA ?_
   cases hp : p l[k] with
   | true =>
    refine_lift cV ?_
    go_ret
    exact ⟨by rw [rU hlt hall hp]; rfl, hx.trans x2⟩
   | false =>
    refine_lift cV ?_
    exact ⟨⟨k + 1, by omega, by go_num, hx.trans x2, fR hlt hall hp⟩, by simp [intOf]; omega⟩
  ·have : k = l.length := by omega
   subst this
   rw [List.take_length] at hall
   refine_lift JK fun _ => ?_
   go_ret
   exact ⟨by rw [rV hall]; rfl, hx⟩
theorem mY (v : Value) (l : List xX) (f : FuncId) (p : xX → Bool) (w : World) (hv : Sl 2 w v (bQ l)) (he : Enters Tryz.prog f) (hf : OK f l p) : Calls Tryz.prog 121 #[v, .func (.func f) #[] #[]] w (bC w (.bool (l.any p))) := by
 go_enter Tryz.func121, Tryz.ntmps121
 refine_lift kU fun _ _ => ?_
 refine aB (enters_of Tryz.func175 rfl rfl) rfl rfl (BI v l f p _ hv he hf) ?_; intro w1 x1; refine aA ?_
 refine_lift cV ?_
 go_ret
 exact ⟨by rw [← qU]; rfl, x1⟩
theorem iO {l : List xX} {b : Bool} (h : l.any (fun r => !BL r) = b) : l.all BL = !b := by
 rw [← h, List.all_eq_not_any_not]
set_option maxHeartbeats 3000000 in
theorem LV (m : MsgR) (q a u e : Value) (w : World) (hm : MsgV w m q a u e) : Calls Tryz.prog 72 #[.agg (cR m q a u e).toArray] w (bC w (.int .i64 (dM m))) := by
 go_enter Tryz.func72, Tryz.ntmps72
 refine_lift gT fun _ _ => ?_
 refine aT (vs := cR m q a u e) rfl rfl ?_
 intro p w1 x1 hp
 refine aA ?_
 unfold cR at hp
 have hm0 := hm
 obtain ⟨hq0, ha0, hu0, he0⟩ := hm
 have hq1 := hq0.ext x1
 have hm := hm0
 refine_lift kU fun _ _ => ?_
 all_goals first
  | (exfalso; contradiction)
  | (exfalso; omega)
  | skip
 refine aB (enters_of Tryz.func120 rfl rfl) rfl rfl (nU m.id 0 65535 _) ?_; intro w2 x2; refine aA ?_
 have hx2 := (Ext.refl w1).trans x2
 have hp2 := hp.ext hx2
 cases h2 : eX m.id 0 65535 with
 | false =>
  refine_lift cV ?_
  all_goals first
   | (exfalso; contradiction)
   | (exfalso; omega)
   | skip
  go_ret
  refine ⟨?_, x1.trans hx2⟩
  simp [dM, h2]
 | true =>
  refine_lift cV ?_
  all_goals first
   | (exfalso; contradiction)
   | (exfalso; omega)
   | skip
  refine aB (enters_of Tryz.func120 rfl rfl) rfl rfl (nU m.op 0 15 _) ?_; intro w3 x3; refine aA ?_
  have hx3 := hx2.trans x3
  have hp3 := hp.ext hx3
  cases h3 : eX m.op 0 15 with
  | false =>
   refine_lift cV ?_
   all_goals first
    | (exfalso; contradiction)
    | (exfalso; omega)
    | skip
   go_ret
   refine ⟨?_, x1.trans hx3⟩
   simp [dM, h2, h3]
  | true =>
   refine_lift cV ?_
   all_goals first
    | (exfalso; contradiction)
    | (exfalso; omega)
    | skip
   refine aB (enters_of Tryz.func120 rfl rfl) rfl rfl (nU m.rcode 0 15 _) ?_; intro w4 x4; refine aA ?_
   have hx4 := hx3.trans x4
   have hp4 := hp.ext hx4
   cases h4 : eX m.rcode 0 15 with
   | false =>
    refine_lift cV ?_
    all_goals first
     | (exfalso; contradiction)
     | (exfalso; omega)
     | skip
    go_ret
    refine ⟨?_, x1.trans hx4⟩
    simp [dM, h2, h3, h4]
   | true =>
    by_cases hz : m.size = 0
    ·clear hm0
     by_cases hl : m.qs.length ≤ 10
     ·have hl0 : ((bQ m.qs).length : Int) ≤ 10 := by rw [bN]; omega
      refine_lift GB (fun hc _ _ hc => ?_) (fun hc hc _ _ => ?_) (fun hc => ?_)
      all_goals first
       | (exfalso; contradiction)
       | (exfalso; omega)
       | skip
      refine aB (enters_of Tryz.func121 rfl rfl) rfl rfl (mY q m.qs _ (fun r => !BL r) _ ((hm.qs.ext x1).ext hx4) (enters_of Tryz.func122 rfl rfl) (fun r _ w' => zZ r w')) ?_; intro w7 x7; refine aA ?_
      have hx7 := hx4.trans x7
      have hp7 := hp.ext hx7
      cases h7 : m.qs.any (fun r => !BL r) with
      | true =>
       refine_lift cV ?_
       all_goals first
        | (exfalso; contradiction)
        | (exfalso; omega)
        | skip
       go_ret
       refine ⟨?_, x1.trans hx7⟩
       simp [dM, h2, h3, h4, hz, hl, iO h7]
      | false =>
       refine_lift PB fun _ _ _ _ => ?_
       all_goals first
        | (exfalso; contradiction)
        | (exfalso; omega)
        | skip
       refine aB (enters_of Tryz.func124 rfl rfl) rfl rfl (sI a m.an _ ((hm.an.ext x1).ext hx7)) ?_; intro w8 x8; refine aA ?_
       have hx8 := hx7.trans x8
       have hp8 := hp.ext hx8
       cases h8 : eD m.an with
       | false =>
        refine_lift cV ?_
        all_goals first
         | (exfalso; contradiction)
         | (exfalso; omega)
         | skip
        go_ret
        refine ⟨?_, x1.trans hx8⟩
        simp [dM, h2, h3, h4, hz, hl, iO h7, h8]
       | true =>
        refine_lift cV ?_
        all_goals first
         | (exfalso; contradiction)
         | (exfalso; omega)
         | skip
        refine aB (enters_of Tryz.func124 rfl rfl) rfl rfl (sI u m.au _ ((hm.au.ext x1).ext hx8)) ?_; intro w9 x9; refine aA ?_
        have hx9 := hx8.trans x9
        have hp9 := hp.ext hx9
        cases h9 : eD m.au with
        | false =>
         refine_lift cV ?_
         all_goals first
          | (exfalso; contradiction)
          | (exfalso; omega)
          | skip
         go_ret
         refine ⟨?_, x1.trans hx9⟩
         simp [dM, h2, h3, h4, hz, hl, iO h7, h8, h9]
        | true =>
         refine_lift cV ?_
         all_goals first
          | (exfalso; contradiction)
          | (exfalso; omega)
          | skip
         refine aB (enters_of Tryz.func124 rfl rfl) rfl rfl (sI e m.ex _ ((hm.ex.ext x1).ext hx9)) ?_; intro w10 x10; refine aA ?_
         have hx10 := hx9.trans x10
         have hp10 := hp.ext hx10
         cases h10 : eD m.ex with
         | false =>
          refine_lift cV ?_
          all_goals first
           | (exfalso; contradiction)
           | (exfalso; omega)
           | skip
          go_ret
          refine ⟨?_, x1.trans hx10⟩
          simp [dM, h2, h3, h4, hz, hl, iO h7, h8, h9, h10]
         | true =>
          refine_lift cV ?_
          all_goals first
           | (exfalso; contradiction)
           | (exfalso; omega)
           | skip
          go_ret
          refine ⟨?_, x1.trans hx10⟩
          simp [dM, h2, h3, h4, hz, hl, iO h7, h8, h9, h10]
     ·have hl0 : ¬ ((bQ m.qs).length : Int) ≤ 10 := by rw [bN]; omega
      refine_lift GB (fun hc _ _ hc => ?_) (fun hc hc _ _ => ?_) (fun hc => ?_)
      all_goals first
       | (exfalso; contradiction)
       | (exfalso; omega)
       | skip
      go_ret
      refine ⟨?_, x1.trans hx4⟩
      simp [dM, h2, h3, h4, hz, hl]
    ·clear hm0
     refine_lift GB (fun hc _ _ hc => ?_) (fun hc hc _ _ => ?_) (fun hc => ?_)
     all_goals first
      | (exfalso; contradiction)
      | (exfalso; omega)
      | skip
     refine aB (enters_of Tryz.func120 rfl rfl) rfl rfl (nU m.size 512 65535 _) ?_; intro w6 x6; refine aA ?_
     have hx6 := hx4.trans x6
     have hp6 := hp.ext hx6
     cases h6 : eX m.size 512 65535 with
     | false =>
      refine_lift cV ?_
      all_goals first
       | (exfalso; contradiction)
       | (exfalso; omega)
       | skip
      go_ret
      refine ⟨?_, x1.trans hx6⟩
      simp [dM, h2, h3, h4, hz, h6]
     | true =>
      by_cases hl : m.qs.length ≤ 10
      ·have hl0 : ((bQ m.qs).length : Int) ≤ 10 := by rw [bN]; omega
       refine_lift JM (fun hc _ _ => ?_) (fun _ _ hc => ?_)
       all_goals first
        | (exfalso; contradiction)
        | (exfalso; omega)
        | skip
       refine aB (enters_of Tryz.func121 rfl rfl) rfl rfl (mY q m.qs _ (fun r => !BL r) _ ((hm.qs.ext x1).ext hx6) (enters_of Tryz.func122 rfl rfl) (fun r _ w' => zZ r w')) ?_; intro w8 x8; refine aA ?_
       have hx8 := hx6.trans x8
       have hp8 := hp.ext hx8
       cases h8 : m.qs.any (fun r => !BL r) with
       | true =>
        refine_lift cV ?_
        all_goals first
         | (exfalso; contradiction)
         | (exfalso; omega)
         | skip
        go_ret
        refine ⟨?_, x1.trans hx8⟩
        simp [dM, h2, h3, h4, hz, h6, hl, iO h8]
       | false =>
        refine_lift PB fun _ _ _ _ => ?_
        all_goals first
         | (exfalso; contradiction)
         | (exfalso; omega)
         | skip
        refine aB (enters_of Tryz.func124 rfl rfl) rfl rfl (sI a m.an _ ((hm.an.ext x1).ext hx8)) ?_; intro w9 x9; refine aA ?_
        have hx9 := hx8.trans x9
        have hp9 := hp.ext hx9
        cases h9 : eD m.an with
        | false =>
         refine_lift cV ?_
         all_goals first
          | (exfalso; contradiction)
          | (exfalso; omega)
          | skip
         go_ret
         refine ⟨?_, x1.trans hx9⟩
         simp [dM, h2, h3, h4, hz, h6, hl, iO h8, h9]
        | true =>
         refine_lift cV ?_
         all_goals first
          | (exfalso; contradiction)
          | (exfalso; omega)
          | skip
         refine aB (enters_of Tryz.func124 rfl rfl) rfl rfl (sI u m.au _ ((hm.au.ext x1).ext hx9)) ?_; intro w10 x10; refine aA ?_
         have hx10 := hx9.trans x10
         have hp10 := hp.ext hx10
         cases h10 : eD m.au with
         | false =>
          refine_lift cV ?_
          all_goals first
           | (exfalso; contradiction)
           | (exfalso; omega)
           | skip
          go_ret
          refine ⟨?_, x1.trans hx10⟩
          simp [dM, h2, h3, h4, hz, h6, hl, iO h8, h9, h10]
         | true =>
          refine_lift cV ?_
          all_goals first
           | (exfalso; contradiction)
           | (exfalso; omega)
           | skip
          refine aB (enters_of Tryz.func124 rfl rfl) rfl rfl (sI e m.ex _ ((hm.ex.ext x1).ext hx10)) ?_; intro w11 x11; refine aA ?_
          have hx11 := hx10.trans x11
          have hp11 := hp.ext hx11
          cases h11 : eD m.ex with
          | false =>
           refine_lift cV ?_
           all_goals first
            | (exfalso; contradiction)
            | (exfalso; omega)
            | skip
           go_ret
           refine ⟨?_, x1.trans hx11⟩
           simp [dM, h2, h3, h4, hz, h6, hl, iO h8, h9, h10, h11]
          | true =>
           refine_lift cV ?_
           all_goals first
            | (exfalso; contradiction)
            | (exfalso; omega)
            | skip
           go_ret
           refine ⟨?_, x1.trans hx11⟩
           simp [dM, h2, h3, h4, hz, h6, hl, iO h8, h9, h10, h11]
      ·have hl0 : ¬ ((bQ m.qs).length : Int) ≤ 10 := by rw [bN]; omega
       refine_lift JM (fun hc _ _ => ?_) (fun _ _ hc => ?_)
       all_goals first
        | (exfalso; contradiction)
        | (exfalso; omega)
        | skip
       go_ret
       refine ⟨?_, x1.trans hx6⟩
       simp [dM, h2, h3, h4, hz, h6, hl]
end Go.Proofs.X
