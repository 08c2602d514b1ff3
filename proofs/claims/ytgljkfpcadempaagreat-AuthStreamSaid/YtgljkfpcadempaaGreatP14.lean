/- Laws and walks that the proof of the statement is made of (part 14). -/
import Derived.Test.YtgljkfpcadempaaGreatP13
set_option linter.unusedSimpArgs false
set_option linter.unusedVariables false
namespace Go.Proofs.X
open Go.RowKit
set_option maxRecDepth 100000
def cZ (n : List UInt8) : List (List UInt8) := (aX n).getD []
theorem fG {n : List UInt8} (h : (aX n).isSome = true) : (cZ n).all gK = true ∧ enc (cZ n) = n ∧ n.length ≤ 254 := by
 cases hl : aX n with
 | none => rw [hl] at h; cases h
 | some ls =>
  have := fD hl
  simpa [cZ, hl] using this
theorem qL {w0 w : World} {b m : Nat} {l : List UInt8} {ps : List (List UInt8 × Nat)} (h : WrAt w0 w b m l ps) (hk : Keys ps) (n : List UInt8) (hn : (aX n).isSome = true) (hl : l.length + 2000 ≤ 100000000000000) : Calls Tryz.prog 56 #[.pointer (some ⟨b, 0, none⟩), aI n] w (sR w0 w b m (bC (cZ n) l ps).1 (bC (cZ n) l ps).2) := by
 obtain ⟨h1, h2, h3⟩ := fG hn
 have := EZ h hk (cZ n) h1 (by rw [h2]; omega) hl
 rw [h2] at this
 exact this
theorem gE : ∀ (ls : List (List UInt8)) (l : List UInt8) (ps : List (List UInt8 × Nat)), Keys ps → Keys (bC ls l ps).2 := by
 intro ls
 induction ls with
 | nil => intro l ps h; exact h
 | cons x ls ih =>
  intro l ps h
  unfold bC
  split
  ·split
   ·exact h
   ·exact ih _ _ h
  ·rename_i hn
   exact ih _ _ (h.add hn)
theorem hV : ∀ (ls : List (List UInt8)) (l : List UInt8) (ps : List (List UInt8 × Nat)), ∃ t, (bC ls l ps).1 = l ++ t ∧ t.length ≤ (enc ls).length + 2 := by
 intro ls
 induction ls with
 | nil => intro l ps; exact ⟨[0], rfl, by simp⟩
 | cons x ls ih =>
  intro l ps
  have he : (enc (x :: ls)).length = (eM x).length + (enc ls).length := by simp [enc, eM]; omega
  unfold bC
  split
  ·split
   ·exact ⟨_, rfl, by simp [aU]⟩
   ·obtain ⟨t, h1, h2⟩ := ih (l ++ eM x) ps
    exact ⟨eM x ++ t, by rw [h1, List.append_assoc], by rw [List.length_append]; omega⟩
  ·obtain ⟨t, h1, h2⟩ := ih (l ++ eM x) (ps ++ [(enc (x :: ls), l.length)])
   exact ⟨eM x ++ t, by rw [h1, List.append_assoc], by rw [List.length_append]; omega⟩
def bR (r : Rec) (l : List UInt8) (ps : List (List UInt8 × Nat)) : List UInt8 × List (List UInt8 × Nat) :=
 if r.kind = 6 then ((bC (cZ (dQ r.data).mail) (bC (cZ (dQ r.data).main) l ps).1 (bC (cZ (dQ r.data).main) l ps).2).1 ++ r.data.drop (r.data.length - 20), (bC (cZ (dQ r.data).mail) (bC (cZ (dQ r.data).main) l ps).1 (bC (cZ (dQ r.data).main) l ps).2).2)
 else if (bA r.kind r.data).2 = 0 ∧ r.kind ≠ 33 then bC (cZ (bA r.kind r.data).1) (l ++ r.data.take (r.data.length - (bA r.kind r.data).1.length - 1)) ps
 else (l ++ r.data, ps)
def hY (r : Rec) (l : List UInt8) (ps : List (List UInt8 × Nat)) : List UInt8 × List (List UInt8 × Nat) :=
 (l ++ aU ((bR r (l ++ aU 0) ps).1.length - l.length - 2) ++ (bR r (l ++ aU 0) ps).1.drop (l.length + 2), (bR r (l ++ aU 0) ps).2)
theorem rK {k : Int} {d : List UInt8} (h : (bA k d).2 = 0) : (aX (bA k d).1).isSome = true ∧ (bA k d).1.length + 1 ≤ d.length := by
 unfold bA at h ⊢
 split at h
 ·cases h
 ·split at h
  ·cases h
  ·rename_i c1 c2
   rw [if_neg c1, if_neg c2]
   cases hh : gU (d.drop (fJ k).toNat) with
   | none => rw [hh] at h; cases h
   | some n =>
    obtain ⟨e1, e2⟩ := lR hh
    have := congrArg List.length e1
    simp at this
    exact ⟨e2, by simp; omega⟩
theorem qM (r : Rec) (l2 : List UInt8) (ps : List (List UInt8 × Nat)) (hd : r.data.length ≤ 4000) (hS : r.kind = 6 → (aX (dQ r.data).main).isSome = true ∧ (aX (dQ r.data).mail).isSome = true ∧ 20 ≤ r.data.length) : ∃ y, (bR r l2 ps).1 = l2 ++ y ∧ y.length ≤ 5000 := by
 unfold bR
 split
 ·rename_i c6
  obtain ⟨s1', s2', s3'⟩ := hS c6
  obtain ⟨y7, e7, n7⟩ := hV (cZ (dQ r.data).main) l2 ps
  obtain ⟨y8, e8, n8⟩ := hV (cZ (dQ r.data).mail) (bC (cZ (dQ r.data).main) l2 ps).1 (bC (cZ (dQ r.data).main) l2 ps).2
  have a1 := fG s1'
  have a2 := fG s2'
  rw [a1.2.1] at n7
  rw [a2.2.1] at n8
  refine ⟨y7 ++ (y8 ++ r.data.drop (r.data.length - 20)), ?_, ?_⟩
  ·dsimp only
   rw [e8, e7]
   simp
  ·simp only [List.length_append, List.length_drop]
   omega
 ·split
  ·rename_i c0
   obtain ⟨k1, k2⟩ := rK c0.1
   obtain ⟨y7, e7, n7⟩ := hV (cZ (bA r.kind r.data).1) (l2 ++ r.data.take (r.data.length - (bA r.kind r.data).1.length - 1)) ps
   have a1 := fG k1
   rw [a1.2.1] at n7
   refine ⟨r.data.take (r.data.length - (bA r.kind r.data).1.length - 1) ++ y7, by rw [e7, List.append_assoc], ?_⟩
   simp only [List.length_append, List.length_take]
   omega
  ·exact ⟨r.data, rfl, by omega⟩
theorem QL (l : List UInt8) (k : Nat) (a : UInt8) : (aQ l).set k [.int .u8 ((a.toNat : Nat) : Int)] = aQ (l.set k a) := by simp [aQ, List.map_set]
theorem KC (l y : List UInt8) (n : Nat) : ((aQ (l ++ aU 0 ++ y)).set l.length [.int .u8 (IntKind.u8.wrap ((n : Int) / 2 ^ Int.toNat 8))]).set (l.length + 1) [.int .u8 (IntKind.u8.wrap (n : Int))] = aQ (l ++ aU n ++ y) := by
 rw [show ((n : Int) / 2 ^ Int.toNat 8) = ((n / 256 : Nat) : Int) by simp, kF, kF, QL, QL]
 congr 1
 simp [aU, List.set_append]
set_option maxHeartbeats 2000000 in
theorem MF {w0 w : World} {b m : Nat} {l : List UInt8} {ps : List (List UInt8 × Nat)} (h : WrAt w0 w b m l ps) (hk : Keys ps) (r : Rec) (hd : r.data.length ≤ 4000) (hS : r.kind = 6 → (aX (dQ r.data).main).isSome = true ∧ (aX (dQ r.data).mail).isSome = true ∧ 20 ≤ r.data.length) (hl : l.length + 10000 ≤ 100000000000000) : Calls Tryz.prog 58 #[.pointer (some ⟨b, 0, none⟩), vK r] w (sR w0 w b m (hY r l ps).1 (hY r l ps).2) := by
 unfold hY
 have hh := rK (k := r.kind) (d := r.data)
 have hpre := qM r (l ++ aU 0) ps hd hS
 go_enter Tryz.func58, Tryz.ntmps58
 repeat' (first | ((with_reducible refine aJ ?_); go_step) | fail)
 refine fF (vs := [aI r.name, .int .i64 r.kind, .int .i64 r.ttl, aI r.data]) rfl rfl ?_
 intro w1 x1 s1 hb1
 refine aA ?_
 obtain ⟨hb, hm, hbm, hx, ⟨v, hB, ho⟩, hM⟩ := h
 have hp := aD (cs := wN v m) (x1.at hB)
 have hsl := (ho.ext x1).sl
 have hW1 : WrAt w0 w1 b m l ps := ⟨hb, hm, hbm, hx.trans x1, ⟨v, x1.at hB, ho.ext x1⟩, hM.at (fun o h => x1.at h)⟩
 (repeat' first | ((with_reducible refine aJ ?_); go_step) | ((with_reducible refine aH ?_); first | refine aW ?_ | (refine aK ?_ ?_ <;> intro hc)) | fail)
 have cw := iN hW1 0 (by omega) (by omega)
 refine aF (vs := [.pointer (some ⟨b, 0, none⟩), .int .i64 ((0 : Nat) : Int)]) (enters_of Tryz.func54 rfl rfl) rfl rfl cw ?_
 rintro _ w2 ⟨rfl, h2, g2⟩
 refine ⟨_, rfl, ?_⟩
 refine aA ?_
 clear hp
 have hc2 := g2 _ _ _ _ (by decide) (by decide) hb1
 have hpc2 := aD (cs := [aI r.name, .int .i64 r.kind, .int .i64 r.ttl, aI r.data]) hc2
 have hl2 : (l ++ aU 0).length = l.length + 2 := by simp [aU]
 generalize hL2 : l ++ aU 0 = l2 at *
 (repeat' first | ((with_reducible refine aJ ?_); go_step) | ((with_reducible refine aH ?_); first | refine aW ?_ | (refine aK ?_ ?_ <;> intro hc)) | fail)
 refine aE (enters_of Tryz.func105 rfl rfl) rfl rfl (QP r.kind r.data _ (by omega)) ?_; intro w3 x3; refine aA ?_
 have hpc3 := hpc2.ext x3
 have hc3 := x3.at hc2
 obtain ⟨f1, f2, f3, f4, ⟨v2, f5, f6⟩, f7⟩ := h2
 have h3 : WrAt w0 w3 b m l2 ps := ⟨f1, f2, f3, f4.trans x3, ⟨v2, x3.at f5, f6.ext x3⟩, f7.at (fun o h => x3.at h)⟩
 clear hpc2
 have hDe : bR r l2 ps = bR r l2 ps := rfl
 conv at hDe => rhs; unfold bR
 obtain ⟨ht, hte⟩ : ∃ y, y = bA r.kind r.data := ⟨_, rfl⟩
 rw [← hte] at hh hDe
 rw [← hte]
 (repeat' first | ((with_reducible refine aJ ?_); go_step) | ((with_reducible refine aH ?_); first | refine aW ?_ | (refine aK ?_ ?_ <;> intro hc)) | fail)
 all_goals first
  | (have c6 : ¬ r.kind = 6 := by assumption
     have c0 : ¬ (ht.2 = 0 ∧ r.kind ≠ 33) := by
      first
       | (have : ¬ ht.2 = 0 := by assumption
          exact fun h => this h.1)
       | (have : r.kind = 33 := by simpa using ‹(!decide (r.kind = 33)) = false›
          exact fun h => h.2 this)
     have ct := vX h3 r.data (by omega)
     refine aF (vs := [.pointer (some ⟨b, 0, none⟩), aI r.data]) (enters_of Tryz.func104 rfl rfl) rfl rfl ct ?_
     rintro _ w9 ⟨rfl, h9, g9⟩
     refine ⟨_, rfl, ?_⟩
     refine aA ?_
     have hZ : WrAt w0 w9 b m (bR r l2 ps).1 (bR r l2 ps).2 := by
      rw [hDe, if_neg c6, if_neg c0]
      exact h9
     have gZ : Kp w3 w9 := g9)
  | (have c6 : ¬ r.kind = 6 := by assumption
     have c0 : ht.2 = 0 ∧ r.kind ≠ 33 := ⟨by assumption, by simpa using ‹(!decide (r.kind = 33)) = true›⟩
     obtain ⟨k1, k2⟩ := hh c0.1
     have ct := vX h3 (r.data.take (r.data.length - ht.1.length - 1)) (by rw [List.length_take]; omega)
     refine aF (vs := [.pointer (some ⟨b, 0, none⟩), aI (r.data.take (r.data.length - ht.1.length - 1))]) (enters_of Tryz.func104 rfl rfl) rfl (congrArg (fun z => [Value.pointer (some ⟨b, 0, none⟩), aI (r.data.take z)]) (by omega)) ct ?_
     rintro _ w8 ⟨rfl, h8, g8⟩
     refine ⟨_, rfl, ?_⟩
     refine aA ?_
     have hpc8 := aD (cs := [aI r.name, .int .i64 r.kind, .int .i64 r.ttl, aI r.data]) (g8 _ _ _ _ (by decide) (by decide) hc3)
     clear hpc3
     (repeat' first | ((with_reducible refine aJ ?_); go_step) | ((with_reducible refine aH ?_); first | refine aW ?_ | (refine aK ?_ ?_ <;> intro hc)) | fail)
     have cn := qL h8 hk ht.1 k1 (by rw [List.length_append, List.length_take]; omega)
     refine aF (vs := [.pointer (some ⟨b, 0, none⟩), aI ht.1]) (enters_of Tryz.func56 rfl rfl) rfl rfl cn ?_
     rintro _ w9 ⟨rfl, h9, g9⟩
     refine ⟨_, rfl, ?_⟩
     refine aA ?_
     have hZ : WrAt w0 w9 b m (bR r l2 ps).1 (bR r l2 ps).2 := by
      rw [hDe, if_neg c6, if_pos c0]
      exact h9
     have gZ : Kp w3 w9 := g8.trans g9)
  | skip
 ·have c6 : r.kind = 6 := by assumption
  obtain ⟨s1', s2', s3'⟩ := hS c6
  refine aE (enters_of Tryz.func106 rfl rfl) rfl rfl (BW r.data _ (by omega)) ?_; intro w4 x4; refine aA ?_
  (repeat' first | ((with_reducible refine aJ ?_); go_step) | ((with_reducible refine aH ?_); first | refine aW ?_ | (refine aK ?_ ?_ <;> intro hc)) | fail)
  refine aN (z := cP) rfl (by decide +kernel) ?_
  intro w5 x5 s5 h5
  refine aA ?_
  refine aG (v := .agg (dQ r.data).cells.toArray) rfl rfl rfl h5 (show aZ Tryz.prog 160 7 = true by decide +kernel) rfl (vD _) ?_
  intro w6 p6
  have x46 : Ext w4 w6 := x5.move p6.mv (by rintro k ⟨⟩; exact Nat.le_refl _)
  have x36 := x4.trans x46
  have hb6 : w6.heap[w4.heap.size]? = some (.cells (dQ r.data).cells.toArray 160 (0, 0)) := p6.this
  have hs6 := aD (cs := (dQ r.data).cells) hb6
  obtain ⟨f1, f2, f3, f4, ⟨v3, f5, f6⟩, f7⟩ := h3
  have h6 : WrAt w0 w6 b m l2 ps := ⟨f1, f2, f3, f4.trans x36, ⟨v3, x36.at f5, f6.ext x36⟩, f7.at (fun o h => x36.at h)⟩
  have hc6 := x36.at hc3
  clear p6 h5
  generalize w4.heap.size = d at *
  (repeat' first | ((with_reducible refine aJ ?_); go_step) | ((with_reducible refine aH ?_); first | refine aW ?_ | (refine aK ?_ ?_ <;> intro hc)) | fail)
  have cn := qL h6 hk (dQ r.data).main s1' (by omega)
  have hk7 := gE (cZ (dQ r.data).main) l2 ps hk
  obtain ⟨y7, e7, n7⟩ := hV (cZ (dQ r.data).main) l2 ps
  refine aF (vs := [.pointer (some ⟨b, 0, none⟩), aI (dQ r.data).main]) (enters_of Tryz.func56 rfl rfl) rfl rfl cn ?_
  rintro _ w7 ⟨rfl, h7, g7⟩
  refine ⟨_, rfl, ?_⟩
  refine aA ?_
  have hb7 := g7 _ _ _ _ (by decide) (by decide) hb6
  have hs7 := aD (cs := (dQ r.data).cells) hb7
  have hc7 := g7 _ _ _ _ (by decide) (by decide) hc6
  clear hs6
  (repeat' first | ((with_reducible refine aJ ?_); go_step) | ((with_reducible refine aH ?_); first | refine aW ?_ | (refine aK ?_ ?_ <;> intro hc)) | fail)
  have cn2 := qL h7 hk7 (dQ r.data).mail s2' (by rw [e7, List.length_append]; have := (fG s1').2.1; rw [this] at n7; have := (fG s1').2.2; omega)
  obtain ⟨y8, e8, n8⟩ := hV (cZ (dQ r.data).mail) (bC (cZ (dQ r.data).main) l2 ps).1 (bC (cZ (dQ r.data).main) l2 ps).2
  refine aF (vs := [.pointer (some ⟨b, 0, none⟩), aI (dQ r.data).mail]) (enters_of Tryz.func56 rfl rfl) rfl rfl cn2 ?_
  rintro _ w8 ⟨rfl, h8, g8⟩
  refine ⟨_, rfl, ?_⟩
  refine aA ?_
  have hc8 := g8 _ _ _ _ (by decide) (by decide) hc7
  have hpc8 := aD (cs := [aI r.name, .int .i64 r.kind, .int .i64 r.ttl, aI r.data]) hc8
  clear hpc3 hs7
  (repeat' first | ((with_reducible refine aJ ?_); go_step) | ((with_reducible refine aH ?_); first | refine aW ?_ | (refine aK ?_ ?_ <;> intro hc)) | fail)
  have ct := vX h8 (r.data.drop (r.data.length - 20)) (by rw [e8, e7, List.length_drop, List.length_append, List.length_append]; rw [(fG s1').2.1] at n7; rw [(fG s2').2.1] at n8; have := (fG s1').2.2; have := (fG s2').2.2; omega)
  refine aF (vs := [.pointer (some ⟨b, 0, none⟩), aI (r.data.drop (r.data.length - 20))]) (enters_of Tryz.func104 rfl rfl) rfl (congrArg (fun z => [Value.pointer (some ⟨b, 0, none⟩), aI (r.data.drop z)]) (by omega)) ct ?_
  rintro _ w9 ⟨rfl, h9, g9⟩
  refine ⟨_, rfl, ?_⟩
  refine aA ?_
  have hZ : WrAt w0 w9 b m (bR r l2 ps).1 (bR r l2 ps).2 := by
   rw [hDe, if_pos c6]
   exact h9
  have gZ : Kp w3 w9 := ((x36.kp.trans g7).trans g8).trans g9
  clear hpc8
  obtain ⟨y, ey, ny⟩ := hpre
  generalize bR r l2 ps = Z at *
  obtain ⟨e1, e2, e3, e4, ⟨vz, e5, e6⟩, e7⟩ := hZ
  have hpz := aD (cs := wN vz m) e5
  have hslz := e6.sl
  have hbz : (aQ Z.1).length = Z.1.length := by simp [aQ]
  have hbl : (aQ l).length = l.length := by simp [aQ]
  have hlz : Z.1.length = l.length + 2 + y.length := by rw [ey, List.length_append, hl2]
  (repeat' first | ((with_reducible refine aJ ?_); go_step) | ((with_reducible refine aH ?_); first | refine aW ?_ | (refine aK ?_ ?_ <;> intro hc)) | fail)
  have hn : ((aQ Z.1).length : Int) - (aQ l).length - 2 = ((Z.1.length - l.length - 2 : Nat) : Int) := by omega
  rw [hn]
  refine cA 19 (fun w' => Pts w' (.pointer (some ⟨b, 0, none⟩)) (wN vz m) ∧ ∃ es : List (List Value), es.length = Z.1.length ∧ Sl 1 w' vz es) (by decide +kernel) ?_
  intro wA xA _
  refine ⟨⟨hpz.ext xA, aQ Z.1, hbz, hslz.ext xA⟩, ?_⟩
  refine dF 0 ?_; refine dF 1 ?_; refine dF 2 ?_
  refine bB (i := 3) (v := vz) rfl rfl (by decide +kernel) (by decide +kernel) (by decide +kernel) (by decide +kernel) (by decide +kernel) rfl (fun w' hF => by obtain ⟨hF, _⟩ := hF; exact LA) (fun _ _ _ h => h) ?_
  refine aA ?_
  refine dF 4 ?_; refine dF 5 ?_; refine dF 6 ?_; refine dF 7 ?_
  refine bB (i := 8) (v := vz) rfl rfl (by decide +kernel) (by decide +kernel) (by decide +kernel) (by decide +kernel) (by decide +kernel) rfl (fun w' hF => by obtain ⟨hF, _⟩ := hF; exact LA) (fun _ _ _ h => h) ?_
  refine aA ?_
  refine dF 9 ?_; refine dF 10 ?_; refine dF 11 ?_; refine dF 12 ?_; refine dF 13 ?_; refine dF 14 ?_; refine dF 15 ?_
  refine bB (i := 16) (v := dI vz (l.length * 1)) rfl rfl (by decide +kernel) (by decide +kernel) (by decide +kernel) (by decide +kernel) (by decide +kernel) rfl (fun w' hF => by obtain ⟨_, es, h1, h2⟩ := hF; rw [← hbl]; exact Runs.idxT rfl h2 (by omega) (by decide +kernel)) (fun _ _ _ h => h) ?_
  refine aA ?_
  refine bJ (i := 17) (by decide +kernel) rfl rfl ?_
  refine gF (c := .int .u8 (IntKind.u8.wrap (((Z.1.length - l.length - 2 : Nat) : Int) / 2 ^ Int.toNat 8))) (i := l.length) rfl rfl rfl (e6.ext xA) (by omega) (by decide +kernel) rfl ?_
  intro wB oB mB
  have pB := aD (cs := wN vz m) (mB.at (xA.at e5) (fun e => (e6.neBlock e5 (by decide)) e.symm))
  refine aL ⟨bY ⟨pB, _, by rw [List.length_set]; exact hbz, oB.sl⟩, ?_⟩
  have hslB := oB.sl
  have hlB : ((aQ Z.1).set l.length [.int .u8 (IntKind.u8.wrap (((Z.1.length - l.length - 2 : Nat) : Int) / 2 ^ Int.toNat 8))]).length = Z.1.length := by rw [List.length_set]; exact hbz
  refine bJ (i := 18) (by decide +kernel) rfl rfl ?_
  refine aM (v := dI vz ((l.length + 1) * 1)) (by rw [← hbl]; exact Runs.idxT rfl hslB (by omega) (by decide +kernel)) ?_
  refine aA ?_
  refine aL ⟨bY ⟨pB, _, hlB, hslB⟩, ?_⟩
  refine bJ (i := 19) (by decide +kernel) rfl rfl ?_
  refine gF (c := .int .u8 (IntKind.u8.wrap ((Z.1.length - l.length - 2 : Nat) : Int))) (i := l.length + 1) rfl rfl rfl oB (by omega) (by decide +kernel) rfl ?_
  intro wC oC mC
  refine aL ⟨bZ rfl, ?_⟩
  refine cV (by decide +kernel) ?_
  (repeat' first | ((with_reducible refine aJ ?_); go_step) | ((with_reducible refine aH ?_); first | refine aW ?_ | (refine aK ?_ ?_ <;> intro hc)) | fail)
  go_end0
  have hBb := mB.at (xA.at e5) (fun e => (e6.neBlock e5 (by decide)) e.symm)
  have hCb := mC.at hBb (fun e => (oB.neBlock hBb (by decide)) e.symm)
  have xC : Ext w0 wC := ((e4.trans xA).move mB (fun k e => ((e6.ext xA).block k e).1)).move mC (fun k e => (oB.block k e).1)
  have mapC := ((e7.at (fun o h => xA.at h)).mvr mB (e6.ext xA) rfl).mvr mC oB rfl
  have oC' : Own w0.heap.size 1 5 wC vz (aQ (l ++ aU (Z.1.length - l.length - 2) ++ Z.1.drop (l.length + 2))) := by
   have e0 : Z.1.drop (l.length + 2) = y := by rw [ey, ← hl2, List.drop_left]
   rw [e0, ← KC]
   rw [hL2, ← ey]
   exact oC
  exact ⟨rfl, ⟨e1, e2, e3, xC, ⟨vz, hCb, oC'⟩, mapC⟩, (((((x1.kp.trans g2).trans x3.kp).trans gZ).trans xA.kp).trans (Mv.kpRow (e6.ext xA) mB)).trans (Mv.kpRow oB mC)⟩
 all_goals obtain ⟨y, ey, ny⟩ := hpre
 all_goals generalize bR r l2 ps = Z at *
 all_goals obtain ⟨e1, e2, e3, e4, ⟨vz, e5, e6⟩, e7⟩ := hZ
 all_goals have hpz := aD (cs := wN vz m) e5
 all_goals have hslz := e6.sl
 all_goals have hbz : (aQ Z.1).length = Z.1.length := by simp [aQ]
 all_goals have hbl : (aQ l).length = l.length := by simp [aQ]
 all_goals have hlz : Z.1.length = l.length + 2 + y.length := by rw [ey, List.length_append, hl2]
 all_goals (repeat' first | ((with_reducible refine aJ ?_); go_step) | ((with_reducible refine aH ?_); first | refine aW ?_ | (refine aK ?_ ?_ <;> intro hc)) | fail)
 all_goals have hn : ((aQ Z.1).length : Int) - (aQ l).length - 2 = ((Z.1.length - l.length - 2 : Nat) : Int) := by omega
 all_goals rw [hn]
 all_goals refine cA 19 (fun w' => Pts w' (.pointer (some ⟨b, 0, none⟩)) (wN vz m) ∧ ∃ es : List (List Value), es.length = Z.1.length ∧ Sl 1 w' vz es) (by decide +kernel) ?_
 all_goals intro wA xA _
 all_goals refine ⟨⟨hpz.ext xA, aQ Z.1, hbz, hslz.ext xA⟩, ?_⟩
 all_goals refine dF 0 ?_; refine dF 1 ?_; refine dF 2 ?_
 all_goals refine bB (i := 3) (v := vz) rfl rfl (by decide +kernel) (by decide +kernel) (by decide +kernel) (by decide +kernel) (by decide +kernel) rfl (fun w' hF => by obtain ⟨hF, _⟩ := hF; exact LA) (fun _ _ _ h => h) ?_
 all_goals refine aA ?_
 all_goals refine dF 4 ?_; refine dF 5 ?_; refine dF 6 ?_; refine dF 7 ?_
 all_goals refine bB (i := 8) (v := vz) rfl rfl (by decide +kernel) (by decide +kernel) (by decide +kernel) (by decide +kernel) (by decide +kernel) rfl (fun w' hF => by obtain ⟨hF, _⟩ := hF; exact LA) (fun _ _ _ h => h) ?_
 all_goals refine aA ?_
 all_goals refine dF 9 ?_; refine dF 10 ?_; refine dF 11 ?_; refine dF 12 ?_; refine dF 13 ?_; refine dF 14 ?_; refine dF 15 ?_
 all_goals refine bB (i := 16) (v := dI vz (l.length * 1)) rfl rfl (by decide +kernel) (by decide +kernel) (by decide +kernel) (by decide +kernel) (by decide +kernel) rfl (fun w' hF => by obtain ⟨_, es, h1, h2⟩ := hF; rw [← hbl]; exact Runs.idxT rfl h2 (by omega) (by decide +kernel)) (fun _ _ _ h => h) ?_
 all_goals refine aA ?_
 all_goals refine bJ (i := 17) (by decide +kernel) rfl rfl ?_
 all_goals refine gF (c := .int .u8 (IntKind.u8.wrap (((Z.1.length - l.length - 2 : Nat) : Int) / 2 ^ Int.toNat 8))) (i := l.length) rfl rfl rfl (e6.ext xA) (by omega) (by decide +kernel) rfl ?_
 all_goals intro wB oB mB
 all_goals have pB := aD (cs := wN vz m) (mB.at (xA.at e5) (fun e => (e6.neBlock e5 (by decide)) e.symm))
 all_goals refine aL ⟨bY ⟨pB, _, by rw [List.length_set]; exact hbz, oB.sl⟩, ?_⟩
 all_goals have hslB := oB.sl
 all_goals have hlB : ((aQ Z.1).set l.length [.int .u8 (IntKind.u8.wrap (((Z.1.length - l.length - 2 : Nat) : Int) / 2 ^ Int.toNat 8))]).length = Z.1.length := by rw [List.length_set]; exact hbz
 all_goals refine bJ (i := 18) (by decide +kernel) rfl rfl ?_
 all_goals refine aM (v := dI vz ((l.length + 1) * 1)) (by rw [← hbl]; exact Runs.idxT rfl hslB (by omega) (by decide +kernel)) ?_
 all_goals refine aA ?_
 all_goals refine aL ⟨bY ⟨pB, _, hlB, hslB⟩, ?_⟩
 all_goals refine bJ (i := 19) (by decide +kernel) rfl rfl ?_
 all_goals refine gF (c := .int .u8 (IntKind.u8.wrap ((Z.1.length - l.length - 2 : Nat) : Int))) (i := l.length + 1) rfl rfl rfl oB (by omega) (by decide +kernel) rfl ?_
 all_goals intro wC oC mC
 all_goals refine aL ⟨bZ rfl, ?_⟩
 all_goals refine cV (by decide +kernel) ?_
 all_goals (repeat' first | ((with_reducible refine aJ ?_); go_step) | ((with_reducible refine aH ?_); first | refine aW ?_ | (refine aK ?_ ?_ <;> intro hc)) | fail)
 all_goals go_end0
 all_goals have hBb := mB.at (xA.at e5) (fun e => (e6.neBlock e5 (by decide)) e.symm)
 all_goals have hCb := mC.at hBb (fun e => (oB.neBlock hBb (by decide)) e.symm)
 all_goals have xC : Ext w0 wC := ((e4.trans xA).move mB (fun k e => ((e6.ext xA).block k e).1)).move mC (fun k e => (oB.block k e).1)
 all_goals have mapC := ((e7.at (fun o h => xA.at h)).mvr mB (e6.ext xA) rfl).mvr mC oB rfl
 all_goals have oC' : Own w0.heap.size 1 5 wC vz (aQ (l ++ aU (Z.1.length - l.length - 2) ++ Z.1.drop (l.length + 2))) := by rw [show Z.1.drop (l.length + 2) = y by rw [ey, ← hl2, List.drop_left], ← KC, hL2, ← ey]; exact oC
 all_goals exact ⟨rfl, ⟨e1, e2, e3, xC, ⟨vz, hCb, oC'⟩, mapC⟩, (((((x1.kp.trans g2).trans x3.kp).trans gZ).trans xA.kp).trans (Mv.kpRow (e6.ext xA) mB)).trans (Mv.kpRow oB mC)⟩
structure RecOk (r : Rec) : Prop where
 nm : (aX r.name).isSome = true
 k0 : 1 ≤ r.kind
 k1 : r.kind ≤ 65535
 t0 : 0 ≤ r.ttl
 t1 : r.ttl ≤ 2147483647
 d : r.data.length ≤ 4000
 soa : r.kind = 6 → (aX (dQ r.data).main).isSome = true ∧ (aX (dQ r.data).mail).isSome = true ∧ 20 ≤ r.data.length
theorem wO {o : Option (List UInt8)} (h : o.isSome = true) : ∃ n, o = some n ∧ o.getD [] = n := by
 cases o with
 | none => cases h
 | some n => exact ⟨n, rfl, rfl⟩
theorem sS {s : List UInt8} (h : (bM s).2.2 = true) : (aX (bM s).1).isSome = true ∧ (bM s).2.1.length ≤ s.length := by
 unfold bM at h ⊢
 split
 ·rename_i c
  rw [if_pos c] at h
  cases h
 ·rename_i c
  rw [if_neg c] at h
  dsimp only at h ⊢
  obtain ⟨n, h1, h2⟩ := wO h
  rw [h2]
  exact ⟨(lR h1).2, by rw [List.length_drop]; omega⟩
theorem HC {d : List UInt8} (h : (cI d).isSome = true) : (aX (dQ d).main).isSome = true ∧ (aX (dQ d).mail).isSome = true ∧ 20 ≤ d.length := by
 unfold dQ
 unfold cI at h ⊢
 dsimp only at h ⊢
 split at h
 ·rename_i c
  rw [if_pos c]
  obtain ⟨c1, c2, c3, c4⟩ := c
  have a := sS c1
  have b := sS c2
  refine ⟨a.1, b.1, by omega⟩
 ·cases h
theorem rL {r : Rec} (h : bF r = 0) : RecOk r := by
 unfold bF at h
 split at h
 ·cases h
 ·split at h
  ·cases h
  ·rename_i c1 c2
   split at h
   ·rename_i c3
    refine ⟨c3, by omega, by omega, by omega, by omega, by omega, fun e => ?_⟩
    have hf : fits r.kind r.data = true := by
     cases hf : fits r.kind r.data with
     | true => rfl
     | false => exact absurd (by simp [hf]) c2
    rw [e] at hf
    exact HC (by simpa [fits] using hf)
   ·cases h
def flagN (is : Bool) (n : Nat) : Nat := if is = true then n else 0
def flagsW (m : MsgR) : Nat := (((((flagN m.resp 32768 ||| m.op.toNat * 2048) ||| flagN m.auth 1024) ||| flagN m.trunc 512) ||| flagN m.want 256) ||| flagN m.avail 128) ||| m.rcode.toNat
abbrev wP := List UInt8 × List (List UInt8 × Nat)
def qW (x : wP) (q : mJ) : wP := ((bC (cZ q.1) x.1 x.2).1 ++ aU q.2.toNat ++ aU 1, (bC (cZ q.1) x.1 x.2).2)
def eQ (x : wP) (r : Rec) : wP := hY r ((bC (cZ r.name) x.1 x.2).1 ++ aU r.kind.toNat ++ aU 1 ++ eX r.ttl.toNat) (bC (cZ r.name) x.1 x.2).2
def eY (m : MsgR) : List UInt8 := aU m.id.toNat ++ aU (flagsW m) ++ aU m.qs.length ++ aU m.an.length ++ aU m.au.length ++ aU (m.ex.length + flagN (!decide (m.size = 0)) 1)
def qN (m : MsgR) : List UInt8 := if m.size = 0 then [] else [0] ++ aU 41 ++ aU m.size.toNat ++ eX 0 ++ aU 0
def gG (m : MsgR) : wP := m.ex.foldl eQ (m.au.foldl eQ (m.an.foldl eQ (m.qs.foldl qW (eY m, []))))
def gP (m : MsgR) : List UInt8 := (gG m).1 ++ qN m
def bI (m : MsgR) : List UInt8 × Int := if cL m ≠ 0 then ([], cL m) else if 65535 < (gP m).length then ([], 4) else (gP m, 0)
theorem MG (x : wP) (q : mJ) (h : Keys x.2) : Keys (qW x q).2 := gE _ _ _ h
theorem BY (r : Rec) (l : List UInt8) (ps : List (List UInt8 × Nat)) (h : Keys ps) : Keys (hY r l ps).2 := by
 unfold hY bR
 dsimp only
 split
 ·exact gE _ _ _ (gE _ _ _ h)
 ·split
  ·exact gE _ _ _ h
  ·exact h
theorem HD (x : wP) (r : Rec) (h : Keys x.2) : Keys (eQ x r).2 := BY _ _ _ (gE _ _ _ h)
theorem qO {n : List UInt8} (h : (aX n).isSome = true) (x : wP) : ∃ t, (bC (cZ n) x.1 x.2).1 = x.1 ++ t ∧ t.length ≤ 256 := by
 obtain ⟨t, h1, h2⟩ := hV (cZ n) x.1 x.2
 have := fG h
 rw [this.2.1] at h2
 exact ⟨t, h1, by omega⟩
theorem KD {q : mJ} (h : qU q = true) (x : wP) : (qW x q).1.length ≤ x.1.length + 260 := by
 have hs : (aX q.1).isSome = true := by
  simp only [qU, eP, Bool.and_eq_true, decide_eq_true_eq] at h
  have h := h.1.1
  split at h
  ·assumption
  ·cases h
 obtain ⟨t, h1, h2⟩ := qO hs x
 simp [qW, h1, aU]
 omega
theorem vY {r : Rec} (h : RecOk r) (l : List UInt8) (ps : List (List UInt8 × Nat)) : ∃ y, (hY r l ps).1 = l ++ y ∧ y.length ≤ 5002 := by
 obtain ⟨y, h1, h2⟩ := qM r (l ++ aU 0) ps h.d h.soa
 unfold hY
 dsimp only
 rw [h1]
 refine ⟨aU ((l ++ aU 0 ++ y).length - l.length - 2) ++ y, ?_, by simp [aU]; omega⟩
 rw [show (l ++ aU 0 ++ y).drop (l.length + 2) = y by rw [show l.length + 2 = (l ++ aU 0).length by simp [aU], List.drop_left]]
 rw [List.append_assoc]
theorem KE {r : Rec} (h : RecOk r) (x : wP) : (eQ x r).1.length ≤ x.1.length + 6000 := by
 obtain ⟨t, h1, h2⟩ := qO h.nm x
 obtain ⟨y, h3, h4⟩ := vY h ((bC (cZ r.name) x.1 x.2).1 ++ aU r.kind.toNat ++ aU 1 ++ eX r.ttl.toNat) (bC (cZ r.name) x.1 x.2).2
 unfold eQ
 rw [h3, h1]
 simp [aU, eX]
 omega
structure MsgOk (m : MsgR) : Prop where
 id : 0 ≤ m.id ∧ m.id ≤ 65535
 op : 0 ≤ m.op ∧ m.op ≤ 15
 rc : 0 ≤ m.rcode ∧ m.rcode ≤ 15
 sz : m.size = 0 ∨ (512 ≤ m.size ∧ m.size ≤ 65535)
 ql : m.qs.length ≤ 10
 qs : ∀ q ∈ m.qs, qU q = true
 nl : m.an.length ≤ 200
 an : ∀ r ∈ m.an, bF r = 0
 ul : m.au.length ≤ 200
 au : ∀ r ∈ m.au, bF r = 0
 el : m.ex.length ≤ 200
 ex : ∀ r ∈ m.ex, bF r = 0
theorem oR {l : List Rec} (h : fX l = true) : l.length ≤ 200 ∧ ∀ r ∈ l, bF r = 0 := by
 simp only [fX, Bool.and_eq_true, decide_eq_true_eq, Bool.not_eq_true', List.any_eq_false] at h
 refine ⟨h.1, fun r hr => ?_⟩
 simpa using h.2 r hr
theorem nK {m : MsgR} (h : cL m = 0) : MsgOk m := by
 unfold cL at h
 split at h
 ·rename_i c
  simp only [Bool.and_eq_true, fY, decide_eq_true_eq, Bool.or_eq_true, List.all_eq_true] at c
  obtain ⟨⟨⟨⟨⟨c1, c2⟩, c3⟩, c4⟩, c5, c6⟩, ⟨c7, c8⟩, c9⟩ := c
  have c7 := oR c7
  have c8 := oR c8
  have c9 := oR c9
  exact ⟨c1, c2, c3, c4, c5, c6, c7.1, c7.2, c8.1, c8.2, c9.1, c9.2⟩
 ·cases h
theorem jN (is : Bool) (n : Nat) : flagN is n ≤ n := by unfold flagN; split <;> omega
theorem HE {a b : Nat} (ha : a < 65536) (hb : b < 65536) : a ||| b < 65536 := Nat.or_lt_two_pow (x := a) (y := b) (n := 16) ha hb
def vZ (m : MsgR) : List Nat := [m.qs.length, m.an.length, m.au.length, m.ex.length + flagN (!decide (m.size = 0)) 1]
theorem DR {q : mJ} (h : qU q = true) : (aX q.1).isSome = true ∧ 1 ≤ q.2 ∧ q.2 ≤ 65535 := by
 simp only [qU, eP, Bool.and_eq_true, decide_eq_true_eq] at h
 obtain ⟨⟨h1, h2, h3⟩, _⟩ := h
 refine ⟨?_, h2, h3⟩
 split at h1
 ·assumption
 ·cases h1
theorem KF (is : Bool) (n : Int) (w : World) : Calls Tryz.prog 55 #[.bool is, .int .i64 n] w (bS w (.int .i64 (if is = true then n else 0))) := by
 go_enter Tryz.func55, Tryz.ntmps55
 cases is with
 | true =>
  (repeat' first | ((with_reducible refine aJ ?_); go_step) | ((with_reducible refine aH ?_); first | refine aW ?_ | (refine aK ?_ ?_ <;> intro hc)) | fail)
  go_ret
  exact ⟨rfl, Ext.refl _⟩
 | false =>
  (repeat' first | ((with_reducible refine aJ ?_); go_step) | ((with_reducible refine aH ?_); first | refine aW ?_ | (refine aK ?_ ?_ <;> intro hc)) | fail)
  go_ret
  exact ⟨rfl, Ext.refl _⟩
structure RecW where
 name : List UInt8
 kind : Nat
 cls : Nat
 r3 : RdS
def dX (s : List UInt8) (r : RdS) : RecW :=
 ⟨(eS s r).1, ((eS s r).2.number s 2).1, (((eS s r).2.number s 2).2.number s 2).1, (((eS s r).2.number s 2).2.number s 2).2⟩
def zN (s : List UInt8) (last : Bool) (n i : Nat) (x : RecW) : RdS :=
 ((x.r3.number s 4).2.number s 2).2.want (last && (decide ((i : Int) = (n : Int) - 1) && (decide (x.name = []) && (decide ((512 : Int) ≤ (x.cls : Nat)) && (decide (((x.r3.number s 4).1 : Int) = 0) && decide ((((x.r3.number s 4).2.number s 2).1 : Int) = 0)))))) 2
def kM (s : List UInt8) (x : RecW) : Nat × RdS := (x.r3.want (decide (((x.cls : Nat) : Int) = 1)) 2).number s 4
def lW (s : List UInt8) (x : RecW) : List UInt8 × RdS := ((kM s x).2.number s 2).2.data s x.kind ((kM s x).2.number s 2).1
def rM (s : List UInt8) (x : RecW) : Rec := ⟨x.name, x.kind, (kM s x).1, (lW s x).1⟩
def qP (s : List UInt8) (i : Nat) (x : RecW) : RdS := (lW s x).2.want (decide ((i : Int) < 200) && decide (bF (rM s x) = 0)) 2
def fK (s : List UInt8) (last : Bool) (n : Nat) : Nat → Nat → List Rec → RdS → List Rec × Nat × RdS
 | 0, _, l, r => (l, 0, r)
 | f + 1, i, l, r => if r.e ≠ 0 then (l, 0, r) else
   if (dX s r).kind = 41 ∧ (dX s r).r3.e = 0 then (l, (dX s r).cls, zN s last n i (dX s r))
   else fK s last n f (i + 1) (l ++ [rM s (dX s r)]) (qP s i (dX s r))
def dO (s : List UInt8) (r : RdS) (n : Nat) (last : Bool) : List Rec × Nat × RdS := fK s last n n 0 [] (r.want (decide ((n : Int) ≤ 200 + (if last = true then 1 else 0))) 2)
def zO (w : World) (b : Nat) (s : List UInt8) (o : List Rec × Nat × RdS) (e : Ending) (w' : World) : Prop := ∃ v, e = .returned (.tuple #[v, .int .i64 (o.2.1 : Nat)]) ∧ Own w.heap.size 4 106 w' v (aR o.1) ∧ cR w' b s o.2.2 ∧ Mv (some b) w w'
theorem FA {s : List UInt8} {r : RdS} (hr : r.Ok s) (hs : s.length ≤ 100000000) (kind : Int) {n : Int} (hn : 0 ≤ n) : (r.data s kind n).2.Ok s := by
 have hw := hr.want (decide (r.at_ + n ≤ (s.length : Int))) (er := 3) (by decide)
 unfold RdS.data
 dsimp only
 split
 ·exact hw
 ·refine RdS.Ok.want ?_ _ (by decide)
  split
  ·exact (kE hw hs).2
  ·split
   ·exact (kE (hw.take hs (by omega)) hs).2
   ·split
    ·exact (kE (kE hw hs).2 hs).2.take hs (by omega)
    ·exact hw.take hs hn
theorem lX {s : List UInt8} {r : RdS} (hr : r.Ok s) (hs : s.length ≤ 100000000) : (dX s r).r3.Ok s := bX (bX (nC hr hs).2 hs (by omega)) hs (by omega)
theorem DS {s : List UInt8} {x : RecW} (hr : x.r3.Ok s) (hs : s.length ≤ 100000000) (i : Nat) : (qP s i x).Ok s := by
 unfold qP lW kM
 exact RdS.Ok.want (FA (bX (bX (hr.want _ (by decide)) hs (by omega)) hs (by omega)) hs _ (Int.natCast_nonneg _)) _ (by decide)
set_option maxHeartbeats 2000000 in
theorem rN {w : World} {b : Nat} {s : List UInt8} {r : RdS} (h : cR w b s r) (hr : r.Ok s) (hs : s.length ≤ 1000000) (n : Nat) (hn1 : n ≤ 65535) (last : Bool) : Calls Tryz.prog 47 #[.pointer (some ⟨b, 0, none⟩), .int .i64 n, .bool last] w (zO w b s (dO s r n last)) := by
 have hs8 : s.length ≤ 100000000 := by omega
 have hwr := hr.want (decide ((n : Int) ≤ 200 + (if last = true then 1 else 0))) (er := 2) (by decide)
 have hgo : fK s last n n 0 [] (r.want (decide ((n : Int) ≤ 200 + (if last = true then 1 else 0))) 2) = dO s r n last := rfl
 generalize dO s r n last = RES at *
 go_enter Tryz.func47, Tryz.ntmps47
 (repeat' first | ((with_reducible refine aJ ?_); go_step) | ((with_reducible refine aH ?_); first | refine aW ?_ | (refine aK ?_ ?_ <;> intro hc)) | fail)
 refine aE (enters_of Tryz.func55 rfl rfl) rfl rfl (KF last 1 _) ?_; intro w1 x1; refine aA ?_
 have h1 : cR w1 b s r := x1.at h
 have hcw := fR h1 (decide ((n : Int) ≤ 200 + (if last = true then 1 else 0))) 2
 have hfl : (if last = true then (1 : Int) else 0) ≤ 1 ∧ 0 ≤ (if last = true then (1 : Int) else 0) := by split <;> decide
 generalize hF : (if last = true then (1 : Int) else 0) = F at *
 generalize r.want (decide ((n : Int) ≤ 200 + F)) 2 = r0 at *
 (repeat' first | ((with_reducible refine aJ ?_); go_step) | ((with_reducible refine aH ?_); first | refine aW ?_ | (refine aK ?_ ?_ <;> intro hc)) | fail)
 refine aF (vs := [.pointer (some ⟨b, 0, none⟩), .bool (decide ((n : Int) ≤ 200 + F)), .int .i64 2]) (enters_of Tryz.func44 rfl rfl) rfl rfl hcw ?_
 rintro _ w2 ⟨rfl, h2, m2⟩
 refine ⟨_, rfl, ?_⟩
 refine aA ?_
 have m02 := (x1.mv (some b)).trans m2
 have hbw : b < w.heap.size := (Array.getElem?_eq_some_iff.1 h).1
 (repeat' first | ((with_reducible refine aJ ?_); go_step) | ((with_reducible refine aH ?_); first | refine aW ?_ | (refine aK ?_ ?_ <;> intro hc)) | fail)
 go_loopw [6, 7, 8, 9, 10, 11, 12] (fun lv sz iv _ _ _ _ wr => ∃ (i : Nat) (l : List Rec) (r' : RdS), i ≤ n ∧ iv = .int .i64 i ∧ sz = .int .i64 0 ∧ Own w.heap.size 4 106 wr lv (aR l) ∧ l.length = i ∧ cR wr b s r' ∧ r'.Ok s ∧ Mv (some b) w wr ∧ fK s last n (n - i) i l r' = RES) (fun _ _ iv _ _ _ _ _ => n - (intOf iv).toNat)
 case atStart => exact ⟨0, [], r0, Nat.zero_le _, rfl, rfl, Own.nil _ _ _ _, rfl, h2, hwr, m02, hgo⟩
 case round =>
  obtain ⟨i, l, r', hi, rfl, rfl, ho, hli, hR, hok, hm, hg⟩ := hrel
  have hpr := aD (cs := oV s r') hR
  by_cases c1 : i < n
  ·by_cases c2 : r'.e = 0
   ·obtain ⟨f', hf'⟩ : ∃ f', n - i = f' + 1 := ⟨n - i - 1, by omega⟩
    rw [hf'] at hg
    unfold fK at hg
    rw [if_neg (by simpa using c2)] at hg
    have hX := lX hok hs8
    have hXe : dX s r' = ⟨(eS s r').1, ((eS s r').2.number s 2).1, (((eS s r').2.number s 2).2.number s 2).1, (((eS s r').2.number s 2).2.number s 2).2⟩ := rfl
    obtain ⟨hn1', hn2'⟩ := nC hok hs8
    have hcn := DP hR hok hs8
    generalize hN : eS s r' = N at *
    obtain ⟨nm, q1⟩ := N
    dsimp only at *
    have hq2 := bX (n := 2) hn2' hs8 (by omega)
    have hk1 := cN s q1 2 (by omega)
    have hc1 := fun w' (h' : cR w' b s q1) => dN h' hn2' hs8 2 (by omega) (by omega)
    generalize q1.number s 2 = K at *
    obtain ⟨kind, q2⟩ := K
    dsimp only at *
    have hq3 := bX (n := 2) hq2 hs8 (by omega)
    have hk2 := cN s q2 2 (by omega)
    have hc2 := fun w' (h' : cR w' b s q2) => dN h' hq2 hs8 2 (by omega) (by omega)
    generalize q2.number s 2 = C at *
    obtain ⟨cls, q3⟩ := C
    dsimp only at *
    rw [hXe] at hg
    have hk1' : kind < 65536 := by simpa using hk1
    have hk2' : cls < 65536 := by simpa using hk2
    (repeat' first | ((with_reducible refine aJ ?_); go_step) | ((with_reducible refine aH ?_); first | refine aW ?_ | (refine aK ?_ ?_ <;> intro hc)) | fail)
    all_goals first
     | (exfalso; omega)
     | skip
    refine aF (vs := [.pointer (some ⟨b, 0, none⟩)]) (enters_of Tryz.func45 rfl rfl) rfl rfl hcn ?_
    rintro _ w3 ⟨rfl, h3, m3⟩
    refine ⟨_, rfl, ?_⟩
    refine aA ?_
    have ho3 := ho.mv m3 (.inr (ho.neBlock hR (by decide)))
    (repeat' first | ((with_reducible refine aJ ?_); go_step) | ((with_reducible refine aH ?_); first | refine aW ?_ | (refine aK ?_ ?_ <;> intro hc)) | fail)
    refine aM (v := .agg #[aI nm, .int .i64 0, .int .i64 0, aI []]) (Runs.build rfl (by kernel_rfl)) ?_
    refine aA ?_
    refine aN (z := NJ) rfl (by decide +kernel) ?_
    intro w4 x4 s4 h4
    refine aA ?_
    refine aG (v := .agg #[aI nm, .int .i64 0, .int .i64 0, aI []]) rfl rfl rfl h4 (show aZ Tryz.prog 106 4 = true by decide +kernel) rfl (iV rfl rfl rfl rfl) ?_
    intro w5 p5
    have x5 : Ext w3 w5 := x4.move p5.mv (by rintro k ⟨⟩; exact Nat.le_refl _)
    have hx5 : w5.heap[w3.heap.size]? = some (.cells [aI nm, .int .i64 0, .int .i64 0, aI []].toArray 106 (0, 0)) := p5.this
    have hb5 : cR w5 b s q1 := x5.at h3
    have ho5 := ho3.ext x5
    have hv5 := JZ ho3 w3.heap.size (Nat.le_refl _)
    have hm5 := (hm.trans m3).trans (x5.mv (some b))
    have hbn : b < w3.heap.size := (Array.getElem?_eq_some_iff.1 h3).1
    have hne : some w3.heap.size ≠ some b := by intro e; have := Option.some.inj e; omega
    have hwc : w.heap.size ≤ w3.heap.size := (hm.trans m3).size
    generalize w3.heap.size = c at *
    clear h4 p5 x4 hpr hcn
    (repeat' first | ((with_reducible refine aJ ?_); go_step) | ((with_reducible refine aH ?_); first | refine aW ?_ | (refine aK ?_ ?_ <;> intro hc)) | fail)
    refine aF (vs := [.pointer (some ⟨b, 0, none⟩), .int .i64 2]) (enters_of Tryz.func43 rfl rfl) rfl rfl (hc1 _ hb5) ?_
    rintro _ w6 ⟨rfl, h6, m6⟩
    refine ⟨_, rfl, ?_⟩
    refine aA ?_
    have hx6 := m6.at hx5 hne
    have hpx6 := aD hx6
    have ho6 := ho5.mv m6 (.inr (ho5.neBlock hb5 (by decide)))
    (repeat' first | ((with_reducible refine aJ ?_); go_step) | ((with_reducible refine aH ?_); first | refine aW ?_ | (refine aK ?_ ?_ <;> intro hc)) | fail)
    refine aO (n := 1) (v := .int .i64 (kind : Nat)) hx6 rfl rfl rfl (by simp) (by decide +kernel) rfl ?_
    intro w7 p7
    have hx7 : w7.heap[c]? = some (.cells [aI nm, .int .i64 (kind : Nat), .int .i64 0, aI []].toArray 106 (0, 0)) := p7.this
    have h7 : cR w7 b s q2 := p7.mv.at h6 (by intro e; exact hne e.symm)
    have ho7 := ho6.mv p7.mv hv5
    have hm7 := (hm5.trans m6).fresh p7.mv hwc
    clear hpx6
    (repeat' first | ((with_reducible refine aJ ?_); go_step) | ((with_reducible refine aH ?_); first | refine aW ?_ | (refine aK ?_ ?_ <;> intro hc)) | fail)
    refine aF (vs := [.pointer (some ⟨b, 0, none⟩), .int .i64 2]) (enters_of Tryz.func43 rfl rfl) rfl rfl (hc2 _ h7) ?_
    rintro _ w8 ⟨rfl, h8, m8⟩
    refine ⟨_, rfl, ?_⟩
    refine aA ?_
    have hx8 := m8.at hx7 hne
    have hpx8 := aD hx8
    have hp8 := aD (cs := oV s q3) h8
    have ho8 := ho7.mv m8 (.inr (ho7.neBlock h7 (by decide)))
    have hm8 := hm7.trans m8
    by_cases ck : kind = 41 ∧ q3.e = 0
    ·obtain ⟨ck, ce⟩ := ck
     rw [if_pos ⟨ck, ce⟩] at hg
     (repeat' first | ((with_reducible refine aJ ?_); go_step) | ((with_reducible refine aH ?_); first | refine aW ?_ | (refine aK ?_ ?_ <;> intro hc)) | fail)
     all_goals first
      | (exfalso; omega)
      | skip
     have hq4 := bX (n := 4) hq3 hs8 (by omega)
     have hk3 := cN s q3 4 (by omega)
     have hc3 := dN h8 hq3 hs8 4 (by omega) (by omega)
     generalize hT : q3.number s 4 = T at *
     obtain ⟨ttl, q4⟩ := T
     dsimp only at *
     have hk4 := cN s q4 2 (by omega)
     have hc4 := fun w' (h' : cR w' b s q4) => dN h' hq4 hs8 2 (by omega) (by omega)
     generalize hD : q4.number s 2 = D at *
     obtain ⟨dl, q5⟩ := D
     dsimp only at *
     refine aF (vs := [.pointer (some ⟨b, 0, none⟩), .int .i64 4]) (enters_of Tryz.func43 rfl rfl) rfl rfl hc3 ?_
     rintro _ w9 ⟨rfl, h9, m9⟩
     refine ⟨_, rfl, ?_⟩
     refine aA ?_
     have hx9 := m9.at hx8 hne
     have ho9 := ho8.mv m9 (.inr (ho8.neBlock h8 (by decide)))
     have hm9 := hm8.trans m9
     (repeat' first | ((with_reducible refine aJ ?_); go_step) | ((with_reducible refine aH ?_); first | refine aW ?_ | (refine aK ?_ ?_ <;> intro hc)) | fail)
     refine aF (vs := [.pointer (some ⟨b, 0, none⟩), .int .i64 2]) (enters_of Tryz.func43 rfl rfl) rfl rfl (hc4 _ h9) ?_
     rintro _ w10 ⟨rfl, h10, m10⟩
     refine ⟨_, rfl, ?_⟩
     refine aA ?_
     have hx10 := m10.at hx9 hne
     have hpx10 := aD hx10
     have ho10 := ho9.mv m10 (.inr (ho9.neBlock h9 (by decide)))
     have hm10 := hm9.trans m10
     clear hpx8 hp8
     have hcw2 := fR h10 (last && (decide ((i : Int) = (n : Int) - 1) && (decide (nm = []) && (decide ((512 : Int) ≤ (cls : Nat)) && (decide ((ttl : Int) = 0) && decide ((dl : Int) = 0)))))) 2
     have hg2 : (l, cls, q5.want (last && (decide ((i : Int) = (n : Int) - 1) && (decide (nm = []) && (decide ((512 : Int) ≤ (cls : Nat)) && (decide ((ttl : Int) = 0) && decide ((dl : Int) = 0)))))) 2) = RES := by rw [← hg]; simp only [zN, hT, hD]
     generalize q5.want (last && (decide ((i : Int) = (n : Int) - 1) && (decide (nm = []) && (decide ((512 : Int) ≤ (cls : Nat)) && (decide ((ttl : Int) = 0) && decide ((dl : Int) = 0)))))) 2 = qe at *
     clear hg
     (repeat' first | ((with_reducible refine aJ ?_); go_step) | ((with_reducible refine aH ?_); first | refine aW ?_ | (refine aK ?_ ?_ <;> intro hc)) | fail)
     all_goals refine aF (vs := [.pointer (some ⟨b, 0, none⟩), .bool (last && (decide ((i : Int) = (n : Int) - 1) && (decide (nm = []) && (decide ((512 : Int) ≤ (cls : Nat)) && (decide ((ttl : Int) = 0) && decide ((dl : Int) = 0)))))), .int .i64 2]) (enters_of Tryz.func44 rfl rfl) rfl ?_ hcw2 ?_
     all_goals first
      | (refine congrArg (fun z => [Value.pointer (some ⟨b, 0, none⟩), Value.bool z, .int .i64 2]) ?_; simp only [*, decide_true, decide_false, Bool.and_true, Bool.true_and, Bool.and_false, Bool.false_and, and_self, not_false_eq_true]; done)
      | skip
     all_goals rintro _ w11 ⟨rfl, h11, m11⟩
     all_goals refine ⟨_, rfl, ?_⟩
     all_goals refine aA ?_
     all_goals have ho11 := ho10.mv m11 (.inr (ho10.neBlock h10 (by decide)))
     all_goals have hm11 := hm10.trans m11
     all_goals (repeat' first | ((with_reducible refine aJ ?_); go_step) | ((with_reducible refine aH ?_); first | refine aW ?_ | (refine aK ?_ ?_ <;> intro hc)) | fail)
     all_goals go_ret2
     all_goals rw [← hg2]
     all_goals exact ⟨_, rfl, ho11, h11, hm11⟩
    ·rw [if_neg ck] at hg
     have hw3 := hq3.want (decide ((cls : Int) = 1)) (er := 2) (by decide)
     have hcw3 := fR h8 (decide ((cls : Int) = 1)) 2
     have hN9 : qP s i ⟨nm, kind, cls, q3⟩ = (lW s ⟨nm, kind, cls, q3⟩).2.want (decide ((i : Int) < 200) && decide (bF (rM s ⟨nm, kind, cls, q3⟩) = 0)) 2 := rfl
     have hR9 : rM s ⟨nm, kind, cls, q3⟩ = ⟨nm, kind, (kM s ⟨nm, kind, cls, q3⟩).1, (lW s ⟨nm, kind, cls, q3⟩).1⟩ := rfl
     have hD9 : lW s ⟨nm, kind, cls, q3⟩ = ((kM s ⟨nm, kind, cls, q3⟩).2.number s 2).2.data s kind ((kM s ⟨nm, kind, cls, q3⟩).2.number s 2).1 := rfl
     have hT9 : kM s ⟨nm, kind, cls, q3⟩ = (q3.want (decide ((cls : Int) = 1)) 2).number s 4 := rfl
     generalize q3.want (decide ((cls : Int) = 1)) 2 = y1 at *
     have hy2 := bX (n := 4) hw3 hs8 (by omega)
     have hk3 := cN s y1 4 (by omega)
     have hc3 := fun w' (h' : cR w' b s y1) => dN h' hw3 hs8 4 (by omega) (by omega)
     generalize y1.number s 4 = T at *
     obtain ⟨ttl, y2⟩ := T
     rw [hT9] at hD9 hR9
     dsimp only at *
     have hy3 := bX (n := 2) hy2 hs8 (by omega)
     have hk4 := cN s y2 2 (by omega)
     have hc4 := fun w' (h' : cR w' b s y2) => dN h' hy2 hs8 2 (by omega) (by omega)
     generalize y2.number s 2 = D at *
     obtain ⟨dl, y3⟩ := D
     dsimp only at *
     have hk4' : dl < 65536 := by simpa using hk4
     have hy4 := FA hy3 hs8 kind (n := (dl : Nat)) (Int.natCast_nonneg _)
     have hc5 := fun w' (h' : cR w' b s y3) => ON h' hy3 hs kind (dl : Nat) (Int.natCast_nonneg _) (by omega)
     generalize y3.data s kind (dl : Nat) = E9 at *
     obtain ⟨dat, y4⟩ := E9
     rw [hD9] at hR9 hN9
     dsimp only at *
     rw [hR9] at hN9 hg
     rw [hN9] at hg
     clear hN9 hR9 hD9 hT9
     have hy5 := hy4.want (decide ((i : Int) < 200) && decide (bF ⟨nm, kind, ttl, dat⟩ = 0)) (er := 2) (by decide)
     have hc6 := fun w' (h' : cR w' b s y4) => fR h' (decide ((i : Int) < 200) && decide (bF ⟨nm, kind, ttl, dat⟩ = 0)) 2
     generalize y4.want (decide ((i : Int) < 200) && decide (bF ⟨nm, kind, ttl, dat⟩ = 0)) 2 = y5 at *
     (repeat' first | ((with_reducible refine aJ ?_); go_step) | ((with_reducible refine aH ?_); first | refine aW ?_ | (refine aK ?_ ?_ <;> intro hc)) | fail)
     all_goals first
      | (exfalso; omega)
      | skip
     all_goals refine aF (vs := [.pointer (some ⟨b, 0, none⟩), .bool (decide ((cls : Int) = 1)), .int .i64 2]) (enters_of Tryz.func44 rfl rfl) rfl rfl hcw3 ?_
     all_goals rintro _ w9 ⟨rfl, h9, m9⟩
     all_goals refine ⟨_, rfl, ?_⟩
     all_goals refine aA ?_
     all_goals have hx9 := m9.at hx8 hne
     all_goals have hpx9 := aD hx9
     all_goals have ho9 := ho8.mv m9 (.inr (ho8.neBlock h8 (by decide)))
     all_goals have hm9 := hm8.trans m9
     all_goals clear hpx8 hp8
     all_goals (repeat' first | ((with_reducible refine aJ ?_); go_step) | ((with_reducible refine aH ?_); first | refine aW ?_ | (refine aK ?_ ?_ <;> intro hc)) | fail)
     all_goals refine aF (vs := [.pointer (some ⟨b, 0, none⟩), .int .i64 4]) (enters_of Tryz.func43 rfl rfl) rfl rfl (hc3 _ h9) ?_
     all_goals rintro _ w10 ⟨rfl, h10, m10⟩
     all_goals refine ⟨_, rfl, ?_⟩
     all_goals refine aA ?_
     all_goals have hx10 := m10.at hx9 hne
     all_goals have hpx10 := aD hx10
     all_goals have ho10 := ho9.mv m10 (.inr (ho9.neBlock h9 (by decide)))
     all_goals have hm10 := hm9.trans m10
     all_goals clear hpx9
     all_goals (repeat' first | ((with_reducible refine aJ ?_); go_step) | ((with_reducible refine aH ?_); first | refine aW ?_ | (refine aK ?_ ?_ <;> intro hc)) | fail)
     all_goals refine aO (n := 2) (v := .int .i64 (ttl : Nat)) hx10 rfl rfl rfl (by simp) (by decide +kernel) rfl ?_
     all_goals intro w11 p11
     all_goals have hx11 : w11.heap[c]? = some (.cells [aI nm, .int .i64 (kind : Nat), .int .i64 (ttl : Nat), aI []].toArray 106 (0, 0)) := p11.this
     all_goals have h11 : cR w11 b s y2 := p11.mv.at h10 (by intro e; exact hne e.symm)
     all_goals have ho11 := ho10.mv p11.mv hv5
     all_goals have hm11 := hm10.fresh p11.mv hwc
     all_goals clear hpx10
     all_goals (repeat' first | ((with_reducible refine aJ ?_); go_step) | ((with_reducible refine aH ?_); first | refine aW ?_ | (refine aK ?_ ?_ <;> intro hc)) | fail)
     all_goals refine cA 5 (fun w' => Pts w' (.pointer (some ⟨c, 0, none⟩)) [aI nm, .int .i64 (kind : Nat), .int .i64 (ttl : Nat), aI []]) (by decide +kernel) ?_
     all_goals intro w12 x12 _
     all_goals have hx12 := x12.at hx11
     all_goals have h12 : cR w12 b s y2 := x12.at h11
     all_goals have ho12 := ho11.ext x12
     all_goals have hm12 := hm11.trans (x12.mv _)
     all_goals refine ⟨aD hx12, ?_⟩
     all_goals refine dF 0 ?_; refine dF 1 ?_; refine dF 2 ?_; refine dF 3 ?_
     all_goals refine bJ (i := 4) (by decide +kernel) rfl rfl ?_
     all_goals refine aF (vs := [.pointer (some ⟨b, 0, none⟩), .int .i64 2]) (enters_of Tryz.func43 rfl rfl) rfl rfl (hc4 _ h12) ?_
     all_goals rintro _ w13 ⟨rfl, h13, m13⟩
     all_goals refine ⟨_, rfl, ?_⟩
     all_goals refine aA ?_
     all_goals have hx13 := m13.at hx12 hne
     all_goals have ho13 := ho12.mv m13 (.inr (ho12.neBlock h12 (by decide)))
     all_goals have hm13 := hm12.trans m13
     all_goals refine aL ⟨bY (aD hx13), ?_⟩
     all_goals refine bJ (i := 5) (by decide +kernel) rfl rfl ?_
     all_goals refine aF (vs := [.pointer (some ⟨b, 0, none⟩), .int .i64 (kind : Nat), .int .i64 (dl : Nat)]) (enters_of Tryz.func99 rfl rfl) rfl rfl (hc5 _ h13) ?_
     all_goals rintro _ w14 ⟨rfl, h14, m14⟩
     all_goals refine ⟨_, rfl, ?_⟩
     all_goals refine aA ?_
     all_goals have hx14 := m14.at hx13 hne
     all_goals have hpx14 := aD hx14
     all_goals have ho14 := ho13.mv m14 (.inr (ho13.neBlock h13 (by decide)))
     all_goals have hm14 := hm13.trans m14
     all_goals refine aL ⟨bZ rfl, ?_⟩
     all_goals refine bJ (i := 6) (by decide +kernel) rfl rfl ?_
     all_goals ((with_reducible refine aH ?_); (first | (refine iL ?_; refine fL ?_) | (refine mG ?_; refine nQ ?_; (with_reducible refine aH ?_); refine iL ?_; refine fL ?_)))
     all_goals refine aL ⟨bZ rfl, ?_⟩
     all_goals refine bJ (i := 7) (by decide +kernel) rfl rfl ?_
     all_goals refine aO (n := 3) (v := aI dat) hx14 rfl rfl rfl (by simp) (by decide +kernel) rfl ?_
     all_goals intro w15 p15
     all_goals have hx15 : w15.heap[c]? = some (.cells [aI nm, .int .i64 (kind : Nat), .int .i64 (ttl : Nat), aI dat].toArray 106 (0, 0)) := p15.this
     all_goals have hpx15 := aD hx15
     all_goals have h15 : cR w15 b s y4 := p15.mv.at h14 (by intro e; exact hne e.symm)
     all_goals have ho15 := ho14.mv p15.mv hv5
     all_goals have hm15 := hm14.fresh p15.mv hwc
     all_goals clear hpx14
     all_goals refine aL ⟨bZ rfl, ?_⟩
     all_goals refine cV (by decide +kernel) ?_
     all_goals (repeat' first | ((with_reducible refine aJ ?_); go_step) | ((with_reducible refine aH ?_); first | refine aW ?_ | (refine aK ?_ ?_ <;> intro hc)) | fail)
     all_goals first
      | (refine aE (enters_of Tryz.func100 rfl rfl) rfl rfl (QR ⟨nm, kind, ttl, dat⟩ _) ?_; intro w16 x16; refine aA ?_
         have h16 := x16.at h15
         have hx16 := x16.at hx15
         have hpx16 := aD hx16
         have ho16 := ho15.ext x16
         have hm16 := hm15.trans (x16.mv _)
         (repeat' first | ((with_reducible refine aJ ?_); go_step) | ((with_reducible refine aH ?_); first | refine aW ?_ | (refine aK ?_ ?_ <;> intro hc)) | fail))
      | (have h16 := h15
         have hx16 := hx15
         have hpx16 := hpx15
         have ho16 := ho15
         have hm16 := hm15)
     all_goals clear hpx15
     all_goals refine aF (vs := [.pointer (some ⟨b, 0, none⟩), .bool (decide ((i : Int) < 200) && decide (bF ⟨nm, kind, ttl, dat⟩ = 0)), .int .i64 2]) (enters_of Tryz.func44 rfl rfl) rfl ?_ (hc6 _ h16) ?_
     all_goals first
      | (refine congrArg (fun z => [Value.pointer (some ⟨b, 0, none⟩), Value.bool z, .int .i64 2]) ?_; simp [*]; done)
      | skip
     all_goals rintro _ w17 ⟨rfl, h17, m17⟩
     all_goals refine ⟨_, rfl, ?_⟩
     all_goals refine aA ?_
     all_goals have hpx17 : Pts w17 (.pointer (some ⟨c, 0, none⟩)) [aI nm, .int .i64 (kind : Nat), .int .i64 (ttl : Nat), aI dat] := aD (m17.at hx16 hne)
     all_goals have ho17 := ho16.mv m17 (.inr (ho16.neBlock h16 (by decide)))
     all_goals have hm17 := hm16.trans m17
     all_goals clear hpx16
     all_goals (repeat' first | ((with_reducible refine aJ ?_); go_step) | ((with_reducible refine aH ?_); first | refine aW ?_ | (refine aK ?_ ?_ <;> intro hc)) | fail)
     all_goals refine bT (e := 106) (k := 4) (bytes := 48) (xs := [.agg #[aI nm, .int .i64 (kind : Nat), .int .i64 (ttl : Nat), aI dat]]) rfl rfl rfl (by simp [Value.cells]) (by decide +kernel) (by simp) ?_
     all_goals intro u18 w18 x18 _ sl18 o18
     all_goals refine aA ?_
     all_goals have h18 : cR w18 b s y5 := x18.at h17
     all_goals have ho18 := ho17.ext x18
     all_goals have hm18 := hm17.trans (x18.mv _)
     all_goals refine dZ (v0 := u6) (es := aR l) (fs := [[aI nm, .int .i64 (kind : Nat), .int .i64 (ttl : Nat), aI dat]]) rfl ho18 rfl sl18 (by simp [aI, Value.oneCell']) hm18.size (by simp [aR]; omega) ?_
     all_goals intro v19 w19 o19 m19 _
     all_goals refine aA ?_
     all_goals have h19 : cR w19 b s y5 := m19.at h18 (fun e => (ho18.neBlock h18 (by decide)) e.symm)
     all_goals have hm19 := hm18.fresh' m19 (fun c hc => (ho18.block c hc).1)
     all_goals (repeat' first | ((with_reducible refine aJ ?_); go_step) | ((with_reducible refine aH ?_); first | refine aW ?_ | (refine aK ?_ ?_ <;> intro hc)) | fail)
     all_goals refine ⟨⟨i + 1, l ++ [⟨nm, kind, ttl, dat⟩], y5, by omega, by go_num, rfl, by simpa [aR, Rec.cells] using o19, by simp [hli], h19, hy5, hm19, ?_⟩, by simp [intOf]; omega⟩
     all_goals rw [show n - (i + 1) = f' by omega]
     all_goals exact hg
   ·obtain ⟨f', hf'⟩ : ∃ f', n - i = f' + 1 := ⟨n - i - 1, by omega⟩
    rw [hf'] at hg
    unfold fK at hg
    rw [if_pos c2] at hg
    (repeat' first | ((with_reducible refine aJ ?_); go_step) | ((with_reducible refine aH ?_); first | refine aW ?_ | (refine aK ?_ ?_ <;> intro hc)) | fail)
    all_goals first
     | (exfalso; omega)
     | skip
    go_ret2
    rw [← hg]
    exact ⟨_, rfl, ho, hR, hm⟩
  ·have hn0 : n - i = 0 := by omega
   rw [hn0] at hg
   unfold fK at hg
   (repeat' first | ((with_reducible refine aJ ?_); go_step) | ((with_reducible refine aH ?_); first | refine aW ?_ | (refine aK ?_ ?_ <;> intro hc)) | fail)
   all_goals first
    | (exfalso; omega)
    | skip
   go_ret2
   rw [← hg]
   exact ⟨_, rfl, ho, hR, hm⟩
end Go.Proofs.X
