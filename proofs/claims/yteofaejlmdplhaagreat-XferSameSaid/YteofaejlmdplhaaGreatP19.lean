/- Laws and walks that the proof of the statement is made of (part 19). -/
import Derived.Test.YteofaejlmdplhaaGreatRows
import Derived.Test.YteofaejlmdplhaaGreatP18
set_option linter.unusedSimpArgs false
set_option linter.unusedVariables false
namespace Go.Proofs.X
open Go.RowKit
set_option maxRecDepth 100000
theorem pB (w : World) : Calls Tryz.prog 10 #[] w (bG w (.bool true)) := sI w
set_option maxHeartbeats 4000000 in
theorem PG (o : List UInt8) (v : Value) (l : List RSet) (og : List UInt8) (lv : Value) (rs : List Rec) (w : World) (hv : SetsAt w v l) (hr : Sl 4 w lv (aD rs)) :
 Calls Tryz.prog 4 #[.agg #[aI o, v], aI og, lv] w (TL w) := by
 have hrl := aL rs
 have hrle := hr.le
 go_enter Tryz.func4, Tryz.ntmps4
 refine_lift hY fun _ _ => ?_
 refine aZ (vs := [aI o, v]) rfl rfl ?_
 intro p w1 x1 hp
 refine aA ?_
 refine_lift JA fun _ _ _ _ => ?_
 refine aB (enters_of Tryz.func9 rfl rfl) rfl rfl (xU o v l _ (hv.ext x1)) ?_; intro w2 x2; refine aA ?_
 have hx2 := x1.trans x2
 have hp2 := hp.ext x2
 cases hf : (decide ((o.length : Int) ≤ 300) && pI l) with
 | false =>
  refine_lift gX fun _ _ => ?_
  refine aB (enters_of Tryz.func10 rfl rfl) rfl rfl (pB _) ?_; intro w3 x3; refine aA ?_
  refine_lift dA ?_
  go_ret
  exact ⟨rfl, hx2.trans x3⟩
 | true =>
  obtain ⟨fl, fb, fd, fo, fd2, fe⟩ := KJ hf
  have hfd := NJ hf
  have h1 : (aF l).length ≤ 5000 := by have := hfd.1; omega
  have dl := hfd.2.1
  clear hfd
  refine_lift SM (fun hc _ _ _ => ?_) (fun hc _ _ => ?_) (fun hc _ _ _ => ?_)
  all_goals first
   | ((first | have hq := ‹(300 : Int) < (og.length : Int)› | have hq := ‹(60 : Int) < ((aD rs).length : Int)›); refine aB (enters_of Tryz.func10 rfl rfl) rfl rfl (pB _) ?_; intro w3 x3; refine aA ?_; refine_lift dA ?_; go_ret; exact ⟨rfl, hx2.trans x3⟩; done)
   | skip
  have hrs : rs.length ≤ 60 := by omega
  go_loopw [7] (fun i wr => ∃ k : Nat, k ≤ rs.length ∧ i = .int .i64 k ∧ Ext w2 wr ∧ ∀ r ∈ rs.take k, r.data.length ≤ 300) (fun i _ => rs.length - (intOf i).toNat)
  case atStart => exact ⟨0, Nat.zero_le _, rfl, Ext.refl _, by simp⟩
  case round =>
   obtain ⟨k, hk, rfl, hx, hall⟩ := hrel
   have hx0 := hx2.trans hx
   have hr2 := hr.ext hx0
   have hp3 := hp2.ext hx
   by_cases hlt : k < rs.length
   ·have hpe := hr2.elem (cT hlt)
    (repeat' first | ((with_reducible refine cY ?_); go_step) | ((with_reducible refine bR ?_); first | refine iI ?_ | (refine dN ?_ ?_ <;> intro hc)) | fail)
    all_goals first
     | ((first | have hq := ‹(300 : Int) < (rs[k].name.length : Int)› | have hq := ‹(300 : Int) < (rs[k].data.length : Int)›); refine aB (enters_of Tryz.func10 rfl rfl) rfl rfl (pB _) ?_; intro w3 x3; refine aA ?_; refine_lift dA ?_; go_ret; exact ⟨rfl, hx0.trans x3⟩; done)
     | skip
    refine ⟨⟨k + 1, by omega, by go_num, hx, fun r hr' => ?_⟩, by simp [intOf]; omega⟩
    rw [List.take_succ_eq_append_getElem hlt] at hr'
    rcases List.mem_append.1 hr' with h | h
    ·exact hall r h
    ·rw [List.mem_singleton.1 h]; omega
   ·have : k = rs.length := by omega
    subst this
    rw [List.take_length] at hall
    have dn : ∀ q ∈ rs, q.data.length ≤ 1000000 := fun q hq => by have := hall q hq; omega
    have hv3 := hv.ext hx0
    refine_lift RV fun _ _ _ => ?_
    refine aK (enters_of Tryz.func20 rfl rfl) rfl rfl (uN o v l _ hv3 (by omega) fb) ?_
    rintro _ w4 x4 ⟨y, rfl, hy⟩
    refine aA ?_
    refine_lift dA ?_
    have hy := hy.sets
    have hy1 : y.oneCell' = true := by obtain ⟨css, h, _⟩ := hy; exact h.one
    refine aG (z := aM) rfl (by decide +kernel) ?_
    intro w5 x5 s5 h5
    refine aA ?_
    refine aC (v := .agg #[aI o, y]) rfl rfl rfl h5 (show aO Tryz.prog 25 2 = true by decide +kernel) rfl (bE hy1) ?_
    intro w6 p6
    have x6 : Ext w4 w6 := x5.move p6.mv (by rintro k ⟨⟩; exact Nat.le_refl _)
    have hq6 := aE (cs := [aI o, y]) p6.this
    clear p6 h5 x5 s5
    have hx6 := hx0.trans (x4.trans x6)
    have hp6 := hp3.ext (x4.trans x6)
    have hv6 := hv3.ext (x4.trans x6)
    have hr6 := hr2.ext (x4.trans x6)
    have hy6 := hy.ext x6
    clear hp3 hv3 hr2 hx hy hp2 hx2
    refine_lift gX fun _ _ => ?_
    have hA := fB o y l og lv rs _ hy6 hr6 fb dl h1 (by omega) dn
    have hB : ∀ w', SetsAt w' v l → Sl 4 w' lv (aD rs) → _ := fun w' a b => FE o v l og lv rs w' a b fb dl h1 (by omega) dn
    generalize bW o l og rs = Z at *
    refine aK (enters_of Tryz.func21 rfl rfl) rfl rfl hA ?_
    rintro _ w7 x7 ⟨a, rfl, ha⟩
    refine aA ?_
    refine_lift dA ?_
    have ha := ha.sets
    have ha1 : a.oneCell' = true := by obtain ⟨css, h, _⟩ := ha; exact h.one
    refine aG (z := aM) rfl (by decide +kernel) ?_
    intro w8 x8 s8 h8
    refine aA ?_
    refine aC (v := .agg #[aI Z.o, a]) rfl rfl rfl h8 (show aO Tryz.prog 25 2 = true by decide +kernel) rfl (bE ha1) ?_
    intro w9 p9
    have x9 : Ext w7 w9 := x8.move p9.mv (by rintro k ⟨⟩; exact Nat.le_refl _)
    have hq9 := aE (cs := [aI Z.o, a]) p9.this
    clear p9 h8 x8 s8
    have x79 := x7.trans x9
    have hx9 := hx6.trans x79
    have hp9 := hp6.ext x79
    have hv9 := hv.ext hx9
    have hr9 := hr.ext hx9
    have hy9 := hy6.ext x79
    have hk9 := hq6.ext x79
    have ha9 := ha.ext x9
    refine_lift gX fun _ _ => ?_
    refine aK (enters_of Tryz.func22 rfl rfl) rfl rfl (hB _ hv9 hr9) ?_
    rintro _ w10 x10 ⟨b, rfl, hb⟩
    refine aA ?_
    refine_lift dA ?_
    have hb := hb.sets
    have hb1 : b.oneCell' = true := by obtain ⟨css, h, _⟩ := hb; exact h.one
    refine aG (z := aM) rfl (by decide +kernel) ?_
    intro w11 x11 s11 h11
    refine aA ?_
    refine aC (v := .agg #[aI Z.o, b]) rfl rfl rfl h11 (show aO Tryz.prog 25 2 = true by decide +kernel) rfl (bE hb1) ?_
    intro w12 p12
    have x12 : Ext w10 w12 := x11.move p12.mv (by rintro k ⟨⟩; exact Nat.le_refl _)
    have hq12 := aE (cs := [aI Z.o, b]) p12.this
    clear p12 h11 x11 s11
    have x912 := x10.trans x12
    have hx12 := hx9.trans x912
    have hp12 := hp9.ext x912
    have hv12 := hv9.ext x912
    have hy12 := hy9.ext x912
    have hk12 := hk9.ext x912
    have ha12 := ha9.ext x912
    have hqa12 := hq9.ext x912
    have hb12 := hb.ext x12
    clear hp9 hv9 hr9 hy9 hk9 ha9 hq9 hb hp6 hv6 hr6 hy6 hq6 ha hA hB hr hv
    refine_lift gX fun _ _ => ?_
    refine aB (enters_of Tryz.func23 rfl rfl) rfl rfl (iR ha12 hb12 rfl rfl) ?_; intro w13 x13; refine aA ?_
    have hp13 := hp12.ext x13
    have hv13 := hv12.ext x13
    have hy13 := hy12.ext x13
    have hk13 := hk12.ext x13
    clear hp12 hv12 hy12 hk12 ha12 hqa12 hb12 hq12
    refine_lift dA ?_
    all_goals first
     | exact absurd (rfl : Z.e = Z.e) ‹_›
     | skip
    refine aB (enters_of Tryz.func23 rfl rfl) rfl rfl (iR hy13 hv13 rfl rfl) ?_; intro w14 x14; refine aA ?_
    clear hp13 hk13
    refine_lift dA ?_
    refine aB (enters_of Tryz.func10 rfl rfl) rfl rfl (pB _) ?_; intro w15 x15; refine aA ?_
    refine_lift dA ?_
    go_ret
    exact ⟨rfl, hx12.trans ((x13.trans x14).trans x15)⟩
section
variable {P : Program} {w w' : World} {a : Act} {d : Option Nat} {ty : TypeId} {ps : String} {af : Array Edge} {g : Option (Nat × Bool)}
end
def NK (o : List UInt8) (v : Value) (room : Int) (lv : Value) (s : Int) : List Value := [aI o, v, .int .i64 room, lv, .int .i64 s]
open Go.ChangeShapes Go.WideShapes Go.ChangeAt Go.RowKit
theorem HG {H : Type} {enc : TypeId × Value → H} {w : World} {base : Nat} {spare : Nat → Bool} {held : Bool} {fuel : Nat} {v : Value} {x : DataW H × List MemPlace} (h : DataW.trod enc Tryz.prog w base spare held fuel 26 [v] = some x) : ∃ zs : List (List UInt8 × List RSet), ZonesAt w v zs := by
 obtain ⟨es, hs, he⟩ := oL Tryz.underlying26 (show Tryz.prog.cellsOf 25 = 2 by kernel_rfl) (by omega) h
 obtain ⟨l, rfl⟩ : ∃ l : List {p : (List UInt8 × List RSet) × Value // SetsAt w p.2 p.1.2}, es = l.map fun p => [aI p.1.1.1, p.1.2] := by
  refine rC fun c hc => ?_
  obtain ⟨n, y, hy⟩ := he c hc
  have hl : c.length = 2 := by
   obtain ⟨_, _, _, _, _, h4, _, _⟩ := hs
   exact h4 c hc
  obtain ⟨o, ls, u, e, hu⟩ := AW (c := c.toArray) (show DataW.trod enc Tryz.prog w base spare held n 25 (Value.agg c.toArray).cells.toList = some y by simpa [Value.cells] using hy)
  exact ⟨⟨((o, ls), u), hu⟩, by simpa using congrArg Array.toList e⟩
 refine ⟨l.map fun p => p.1.1, _, hs, by simp, ?_⟩
 intro i s hi
 rw [List.getElem?_map] at hi
 obtain ⟨p, hp, rfl⟩ := Option.map_eq_some_iff.1 hi
 exact ⟨p.1.2, by rw [List.getElem?_map, hp]; rfl, p.2⟩
theorem RZ {H : Type} {enc : TypeId × Value → H} {w : World} {base : Nat} {spare : Nat → Bool} {held : Bool} {fuel : Nat} {c : Array Value} {x : DataW H × List MemPlace} (h : DataW.trod enc Tryz.prog w base spare held fuel 28 (Value.agg c).cells.toList = some x) :
 ∃ (o : List UInt8) (v : Value) (l : List RSet) (room : Int) (lv : Value) (zs : List (List UInt8 × List RSet)) (s : Int), c = (NK o v room lv s).toArray ∧ SetsAt w v l ∧ ZonesAt w lv zs := by
 have e : (Value.agg c).cells.toList = c.toList := rfl
 rw [e] at h
 obtain ⟨xs, n', _, _, hl, hxl, hf⟩ := DataW.trod_struct Tryz.underlying28 h
 have c25 : Tryz.prog.cellsOf 25 = 2 := by kernel_rfl
 have c3 : Tryz.prog.cellsOf 3 = 1 := by kernel_rfl
 have c80 : Tryz.prog.cellsOf 26 = 1 := by kernel_rfl
 have c82 : Tryz.prog.cellsOf 28 = 5 := by kernel_rfl
 rw [c82] at hl
 obtain ⟨cl⟩ := c
 match cl, hl, xs, hxl with
 | [a, b, d, f, g], _, [y0, y1, y2, y3], _ =>
  have g0 := hf 0 _ rfl
  have g1 := hf 1 _ rfl
  have g2 := hf 2 _ rfl
  have g3 := hf 3 _ rfl
  simp [c25, c3, c80] at g0 g1 g2 g3
  obtain ⟨o, ls, u, e0, hu⟩ := AW (c := #[a, b]) g0
  obtain ⟨rfl, rfl⟩ : a = aI o ∧ b = u := by simpa using e0
  obtain ⟨n1, rfl, _⟩ := lG Tryz.underlying3 g1
  obtain ⟨zs, hz⟩ := HG g2
  obtain ⟨n3, rfl, _⟩ := lG Tryz.underlying3 g3
  exact ⟨o, b, ls, n1, f, zs, n3, rfl, hu, hz⟩
theorem Chain.tail {o : List UInt8} : ∀ {zs : List (List RSet)} (n : Nat), Chain o zs → Chain o (zs.drop n)
 | zs, 0, h => h
 | [], n + 1, _ => trivial
 | [a], n + 1, _ => by simp [Chain]
 | a :: b :: t, n + 1, h => Chain.tail (zs := b :: t) n h.2
theorem IR {o : List UInt8} : ∀ (zs : List (List RSet)), (∀ z ∈ zs, ZoneOk o z) → Chain o zs → ∀ r ∈ dM (bS o zs), aW r = 0
 | [], _, _, r, hr => by simp [bS, dM] at hr
 | [a], _, _, r, hr => by simp [bS, dM] at hr
 | a :: b :: t, hz, hc, r, hr => by
   have ha := hz a (by simp)
   have hb := hz b (by simp)
   obtain ⟨gs, e1, n1, p1⟩ := iS ha hb hc.1
   obtain ⟨ns, e2, n2, p2⟩ := iS hb ha (fun e => hc.1 e.symm)
   have hD := (tX (oB ha hb)).2.2.2
   have eT : dM (bS o (a :: b :: t)) = eJ (cW (aF a) (aF b)) ++ (eJ (cW (aF b) (aF a)) ++ dM (bS o (b :: t))) := by
    unfold dM
    rw [bS, List.map_cons, List.flatten_cons, hD]
    simp only
    rw [List.append_assoc]
   rw [eT] at hr
   rcases List.mem_append.1 hr with hr | hr
   ·exact ha.recOk (lL.1 (p1.mem_iff.1 hr)).1
   ·rcases List.mem_append.1 hr with hr | hr
    ·exact hb.recOk (lL.1 (p2.mem_iff.1 hr)).1
    ·exact IR (b :: t) (fun z hz' => hz z (by simp [hz'])) hc.2 r hr
theorem NL {o : List UInt8} {a b : List RSet} {t : List (List RSet)} (hz : ∀ z ∈ a :: b :: t, ZoneOk o z) (hc : Chain o (a :: b :: t)) : 2 ≤ (dM (bS o (a :: b :: t))).length := by
 obtain ⟨gs, e1, n1, p1⟩ := iS (hz a (by simp)) (hz b (by simp)) hc.1
 obtain ⟨ns, e2, n2, p2⟩ := iS (hz b (by simp)) (hz a (by simp)) (fun e => hc.1 e.symm)
 have hD := (tX (oB (hz a (by simp)) (hz b (by simp)))).2.2.2
 unfold dM
 rw [bS, List.map_cons, List.flatten_cons, hD]
 simp only
 rw [e1, e2]
 simp only [List.length_append, List.length_cons]
 omega
theorem NM {o : List UInt8} {D : List DeltaR} {zs : List (List RSet)} {i : Nat} (hl : D.length + i + 1 = zs.length) (hD : ∀ k a b, zs[i + k]? = some a → zs[i + k + 1]? = some b → D[k]? = some (uG o a o b)) : D = bS o (zs.drop i) := by
 apply List.ext_getElem?
 intro k
 have hlen := oY o (zs.drop i)
 rw [List.length_drop] at hlen
 by_cases hk : k < D.length
 ·have h1 : i + k < zs.length := by omega
  have h2 : i + k + 1 < zs.length := by omega
  rw [hD k _ _ (List.getElem?_eq_getElem h1) (List.getElem?_eq_getElem h2)]
  symm
  refine sF o _ k _ _ ?_ ?_
  ·rw [List.getElem?_drop, List.getElem?_eq_getElem h1]
  ·rw [List.getElem?_drop, ← Nat.add_assoc, List.getElem?_eq_getElem h2]
 ·rw [List.getElem?_eq_none (by omega), List.getElem?_eq_none (by omega)]
theorem yM {oo o : List UInt8} {lo l : List RSet} (h : ZoneOk o l) : bW oo lo o [soaRec o l] = ZE.bad 5 := by
 obtain ⟨h1, h2, h3, h4⟩ := cN h
 unfold bW
 rw [if_neg (by
  rintro (hc | hc)
  ·exact hc (by rw [dT, if_pos h.lab])
  ·simp [h.recOk h1] at hc), if_neg (by simp), if_neg (by
  rintro (hc | hc)
  ·exact absurd hc (by show ¬ aU (soaRec o l) = false; simp [h2])
  ·exact hc (by show fold (soaRec o l).name = fold o; rw [h3])), if_pos (by rfl)]
theorem HH {o : List UInt8} {zs : List (List RSet)} {l a : List RSet} {room s : Int} {i : Nat} (hr : 0 ≤ room) (hz : ∀ z ∈ zs, ZoneOk o z) (hch : Chain o zs) (hlast : zs.getLast? = some l) (hi : zs[i]? = some a) (hs : (aP o a).serial = s)
 (hna : ∀ k b, i < k → zs[k]? = some b → (aP o b).serial ≠ s) :
 ((bW o a o (gT o l (dD room (bS o zs)) s)).e = 0 → bW o a o (gT o l (dD room (bS o zs)) s) = ⟨0, o, l⟩) ∧
 ((gT o l (dD room (bS o zs)) s).length = 1 → (bW o a o (gT o l (dD room (bS o zs)) s)).e = 5 ∧ (aP o a).serial = (aP o l).serial) := by
 have hl : ZoneOk o l := hz l (List.mem_of_getLast? hlast)
 have ha : ZoneOk o a := hz a (List.mem_of_getElem? hi)
 unfold gT
 cases hB : (cU o l (dD room (bS o zs)) s).2 with
 | false =>
  rw [if_pos rfl]
  refine ⟨fun h0 => ?_, fun h1 => ?_⟩
  ·rw [mP hl] at h0 ⊢
   split at h0
   ·cases h0
   ·rename_i c; rw [if_neg c]
  ·obtain ⟨os, q, hrr⟩ := hl.recs
   rw [hrr.whole hl] at h1
   simp at h1
 | true =>
  rw [if_neg (by simp)]
  obtain ⟨hM1, hM2⟩ := HA hr hz hlast hi hs hna hB
  have hD := NM hM1 hM2
  by_cases hE : (cU o l (dD room (bS o zs)) s).1 = []
  ·rw [if_pos hE]
   refine ⟨fun h0 => (by rw [yM hl] at h0; cases h0), fun _ => ⟨by rw [yM hl]; rfl, ?_⟩⟩
   rw [hE] at hM1
   have h1 : zs[zs.length - 1]? = some l := by rw [← List.getLast?_eq_getElem?]; exact hlast
   rw [show zs.length - 1 = i by simp at hM1; omega, hi] at h1
   rw [Option.some.inj h1]
  ·rw [if_neg hE]
   have hpos : 0 < (cU o l (dD room (bS o zs)) s).1.length := List.length_pos_iff.2 hE
   rw [hD]
   have h2 : i + 1 < zs.length := by omega
   have hdz : zs.drop i = a :: zs[i + 1] :: zs.drop (i + 2) := by
    have e1 : zs.drop i = zs[i] :: zs.drop (i + 1) := List.drop_eq_getElem_cons (by omega)
    have e2 : zs.drop (i + 1) = zs[i + 1] :: zs.drop (i + 2) := List.drop_eq_getElem_cons h2
    rw [e1, e2]
    rw [List.getElem?_eq_getElem (by omega)] at hi
    rw [Option.some.inj hi]
   have hzd : ∀ z ∈ zs.drop i, ZoneOk o z := fun z hm => hz z (List.mem_of_mem_drop hm)
   have hcd : Chain o (zs.drop i) := hch.tail i
   have hlastd : (zs.drop i).getLast? = some l := by rw [List.getLast?_drop, if_neg (by omega), hlast]
   have hok := IR _ hzd hcd
   rw [hdz] at hzd hcd hlastd hok ⊢
   have hmade := AZ _ a hzd hcd
   have hlen := NL hzd hcd
   have hth := AY _ hzd hcd
   have hgl : (a :: zs[i + 1] :: zs.drop (i + 2)).getLast (by simp) = l := by
    rw [List.getLast?_eq_some_getLast (by simp)] at hlastd
    exact Option.some.inj hlastd
   rw [hgl] at hmade
   generalize dM (bS o (a :: zs[i + 1] :: zs.drop (i + 2))) = T at *
   obtain ⟨k1, k2, k3, k4⟩ := cN hl
   have hT : T ≠ [] := by rintro rfl; simp at hlen
   have htold : eF o a o (soaRec o l :: (T ++ [soaRec o l])) = ⟨0, o, l⟩ := by
    unfold eF
    have e : (soaRec o l :: (T ++ [soaRec o l])).getD 1 bA = bD T := by
     cases T with
     | nil => exact absurd rfl hT
     | cons r t => rfl
    rw [e, if_neg (by rcases hth with hth | hth; exact absurd hth hT; simp [hth]), if_neg ha.ne]
    have e2 : (soaRec o l :: (T ++ [soaRec o l])).dropLast.drop 1 = T := by
     rw [← List.cons_append, List.dropLast_concat]
     rfl
    rw [e2]
    exact hmade
   have hin : bW o a o (soaRec o l :: (T ++ [soaRec o l])) = if a ≠ [] ∧ dB (aP o l).serial (aP o a).serial = false then ZE.bad 7 else ⟨0, o, l⟩ := by
    unfold bW
    rw [if_neg (by
     rintro (hc | hc)
     ·exact hc (by rw [dT, if_pos hl.lab])
     ·obtain ⟨r, hm, hc⟩ := List.any_eq_true.1 hc
      have : aW r = 0 := by
       simp only [List.mem_cons, List.mem_append, List.not_mem_nil, or_false] at hm
       rcases hm with hm | hm | hm
       ·rw [hm]; exact hl.recOk k1
       ·exact hok r hm
       ·rw [hm]; exact hl.recOk k1
      simp [this] at hc), if_neg (by simp), if_neg (by
     rintro (hc | hc)
     ·exact absurd hc (by show ¬ aU (soaRec o l) = false; simp [k2])
     ·exact hc (by show fold (soaRec o l).name = fold o; rw [k3])), if_neg (by simp), if_neg (by
     rintro (hc | hc)
     ·simp only [List.length_append, List.length_cons, List.length_nil] at hc; omega
     ·refine hc ?_
      have e : (soaRec o l :: (T ++ [soaRec o l])).length - 1 = (soaRec o l :: T).length := by simp
      rw [List.getD_eq_getElem?_getD, e, ← List.cons_append, List.getElem?_append_right (Nat.le_refl _)]
      simp [bD])]
    simp only [htold]
    rw [if_neg (by simp), if_neg (by
     intro hc
     exact hc k4.symm)]
   refine ⟨fun h0 => ?_, fun h1 => ?_⟩
   ·rw [hin] at h0 ⊢
    split at h0
    ·cases h0
    ·rename_i c; rw [if_neg c]
   ·simp at h1
theorem cV (w : World) : Calls Tryz.prog 10 #[] w (bG w (.bool true)) := sI w
theorem yN {o : List UInt8} : ∀ {zs : List (List RSet)} {a b : List RSet}, Chain o zs → zs.getLast? = some a → (aP o a).serial ≠ (aP o b).serial → Chain o (zs ++ [b])
 | [], _, _, _, _, _ => trivial
 | [z], a, b, _, hl, hn => by
   have : z = a := by simpa using hl
   subst this
   exact ⟨hn, trivial⟩
 | z :: y :: t, a, b, hc, hl, hn => ⟨hc.1, yN (zs := y :: t) hc.2 (by simpa using hl) hn⟩
theorem NN {a b : Int} (h : dB a b = true) : b ≠ a := by
 rintro rfl
 simp [dB] at h
theorem tF {o : List UInt8} : ∀ (zs : List (List RSet)), (∀ z ∈ zs, ZoneOk o z) → (∀ z ∈ zs, (aF z).length ≤ 300) → ∀ d ∈ bS o zs, (d.gone.length ≤ 300 ∧ d.new.length ≤ 300) ∧ ∀ r, r ∈ d.gone ∨ r ∈ d.new → ∃ z ∈ zs, r ∈ aF z
 | [], _, _, d, hd => by simp [bS] at hd
 | [z], _, _, d, hd => by simp [bS] at hd
 | a :: b :: t, hz, hl, d, hd => by
   rw [bS] at hd
   rcases List.mem_cons.1 hd with rfl | hd
   ·have ha := hz a (by simp)
    have hb := hz b (by simp)
    rw [(tX (oB ha hb)).2.2.2]
    unfold cW
    refine ⟨⟨Nat.le_trans (List.length_filter_le _ _) (hl a (by simp)), Nat.le_trans (List.length_filter_le _ _) (hl b (by simp))⟩, fun r hr => ?_⟩
    rcases hr with hr | hr
    ·exact ⟨a, by simp, (List.mem_filter.1 hr).1⟩
    ·exact ⟨b, by simp, (List.mem_filter.1 hr).1⟩
   ·obtain ⟨h1, h2⟩ := tF (b :: t) (fun z h => hz z (List.mem_cons_of_mem _ h)) (fun z h => hl z (List.mem_cons_of_mem _ h)) d hd
    exact ⟨h1, fun r hr => let ⟨z, h, k⟩ := h2 r hr; ⟨z, List.mem_cons_of_mem _ h, k⟩⟩
theorem yO : ∀ (ds : List DeltaR), (∀ d ∈ ds, d.gone.length ≤ 300 ∧ d.new.length ≤ 300) → (dM ds).length ≤ 600 * ds.length
 | [], _ => by simp [dM]
 | d :: ds, h => by
   have ih := yO ds fun e he => h e (List.mem_cons_of_mem _ he)
   have hd := h d (List.mem_cons_self ..)
   unfold dM at ih ⊢
   simp only [List.map_cons, List.flatten_cons, List.length_append, sH, List.length_cons]
   omega
theorem FH {l : List Rec} {r : Rec} (h : r ∈ eJ l) : r ∈ l := by
 unfold eJ at h
 rcases List.mem_append.1 h with h | h
 ·exact (List.mem_filter.1 h).1
 ·exact (List.mem_filter.1 h).1
theorem NO {ds : List DeltaR} {r : Rec} (h : r ∈ dM ds) : ∃ d ∈ ds, r ∈ d.gone ∨ r ∈ d.new := by
 unfold dM at h
 obtain ⟨l, hl, hr⟩ := List.mem_flatten.1 h
 obtain ⟨d, hd, rfl⟩ := List.mem_map.1 hl
 rcases List.mem_append.1 hr with hr | hr
 ·exact ⟨d, hd, .inl (FH hr)⟩
 ·exact ⟨d, hd, .inr (FH hr)⟩
theorem oH {o : List UInt8} {l : List RSet} (h : ZoneOk o l) {r : Rec} (hr : r ∈ bO o l) : r ∈ aF l := by
 rw [kI h] at hr
 rcases List.mem_append.1 hr with hr | hr
 ·rcases List.mem_cons.1 hr with rfl | hr
  ·exact (cN h).1
  ·exact (List.mem_filter.1 hr).1
 ·rw [List.mem_singleton.1 hr]; exact (cN h).1
theorem lQ {o : List UInt8} {l : List RSet} (h : ZoneOk o l) (hl : (aF l).length ≤ 300) : (bO o l).length ≤ 302 := by
 have := List.length_filter_le (fun r => !aU r) (aF l)
 rw [kI h]
 simp only [List.length_append, List.length_cons, List.length_nil]
 omega
theorem FI {o : List UInt8} {zs : List (List RSet)} {l : List RSet} {room s : Int} (hz : ∀ z ∈ zs, ZoneOk o z) (hl : ∀ z ∈ zs, (aF z).length ≤ 300) (hlast : zs.getLast? = some l) (hn : zs.length ≤ 9) :
 (gT o l (dD room (bS o zs)) s).length ≤ 5000 ∧ ∀ r ∈ gT o l (dD room (bS o zs)) s, ∃ z ∈ zs, r ∈ aF z := by
 have hm : l ∈ zs := List.mem_of_getLast? hlast
 have hE : ∀ d ∈ (cU o l (dD room (bS o zs)) s).1, d ∈ bS o zs := fun d hd => List.mem_of_mem_drop (BI _ _ _ _ d hd)
 have hL : (cU o l (dD room (bS o zs)) s).1.length ≤ 8 := by
  have h1 := BJ o l (dD room (bS o zs)) s
  have h2 : (dD room (bS o zs)).length ≤ (bS o zs).length := by unfold dD; rw [List.length_drop]; omega
  have h3 := oY o zs
  omega
 have ht := yO _ fun d hd => (tF zs hz hl d (hE d hd)).1
 have hw := lQ (hz l hm) (hl l hm)
 have hs := (cN (hz l hm)).1
 unfold gT
 split
 ·exact ⟨by omega, fun r hr => ⟨l, hm, oH (hz l hm) hr⟩⟩
 ·split
  ·exact ⟨by simp, fun r hr => ⟨l, hm, by rw [List.mem_singleton.1 hr]; exact hs⟩⟩
  ·refine ⟨by simp only [List.length_cons, List.length_append, List.length_nil]; omega, fun r hr => ?_⟩
   rcases List.mem_cons.1 hr with rfl | hr
   ·exact ⟨l, hm, hs⟩
   ·rcases List.mem_append.1 hr with hr | hr
    ·obtain ⟨d, hd, hr⟩ := NO hr
     exact (tF zs hz hl d (hE d hd)).2 r hr
    ·exact ⟨l, hm, by rw [List.mem_singleton.1 hr]; exact hs⟩
def SB (w5 : World) (bs : Nat) (o : List UInt8) (l : List RSet) (w' : World) : Prop := Ext w5 w' ∧ w'.heap[bs]? = some (.cells (aP o l).cells.toArray 67 (0, 0))
set_option maxHeartbeats 16000000 in
theorem SA (o : List UInt8) (v : Value) (l : List RSet) (room : Int) (lv : Value) (zs : List (List UInt8 × List RSet)) (s : Int) (w : World) (hv : SetsAt w v l) (hz : ZonesAt w lv zs) :
 Calls Tryz.prog 6 #[.agg (NK o v room lv s).toArray] w (TL w) := by
 go_enter Tryz.func6, Tryz.ntmps6
 refine_lift hY fun _ _ => ?_
 refine eD (vs := NK o v room lv s) rfl rfl ?_
 intro w1 x1 s1 h1
 refine aA ?_
 have hp := aE h1
 have hp0 : Pts w1 (bL (.pointer (some ⟨w.heap.size, 0, none⟩)) 0) [aI o, v] := (hp.part 0).front 2
 have hp2 : Pts w1 (bL (.pointer (some ⟨w.heap.size, 0, none⟩)) 2) [.int .i64 room] := (hp.part 2).front 1
 have hp3 : Pts w1 (bL (.pointer (some ⟨w.heap.size, 0, none⟩)) 3) [lv] := (hp.part 3).front 1
 have hp4 : Pts w1 (bL (.pointer (some ⟨w.heap.size, 0, none⟩)) 4) [.int .i64 s] := hp.part 4
 have hv1 : v.oneCell' = true := by obtain ⟨css, h, _⟩ := hv; exact h.one
 refine_lift gX fun _ _ => ?_
 refine cC (S := fun w' => Ext w1 w') (by decide +kernel) ?_
 intro w2 x2 _
 refine eQ 0 ?_; refine aA ?_; refine eQ 1 ?_; refine aA ?_
 refine eQ 2 (hy := fun _ _ => Runs.fieldJ (off := 2) rfl (by decide +kernel)) ?_; refine aA ?_
 refine eQ 3 ?_; refine aA ?_
 refine eQ 4 (hy := fun _ _ => Runs.fieldJ (off := 3) rfl (by decide +kernel)) ?_; refine aA ?_
 refine eQ 5 ?_; refine aA ?_
 refine eQ 6 (hy := fun _ _ => Runs.fieldJ (off := 4) rfl (by decide +kernel)) ?_; refine aA ?_
 refine eQ 7 ?_; refine aA ?_
 refine aT (i := 8) (by decide +kernel) rfl rfl ?_
 refine aG (z := aM) rfl (by decide +kernel) ?_
 intro w3 x3 s3 h3
 refine aA ?_
 have x23 := x2.trans x3
 refine aJ ⟨x23, ?_⟩
 refine aT (i := 9) (by decide +kernel) rfl rfl ?_
 refine aC (v := .agg #[aI o, v]) rfl rfl rfl h3 (show aO Tryz.prog 25 2 = true by decide +kernel) rfl (bE hv1) ?_
 intro w4 p4
 have x14 : Ext w1 w4 := x23.move p4.mv (by rintro k ⟨⟩; exact x2.size)
 refine aJ ⟨x14, ?_⟩
 refine eQ 10 ?_; refine aA ?_; refine eQ 11 ?_; refine aA ?_; refine eQ 12 ?_; refine aA ?_
 refine cB (by decide +kernel) ?_
 have x4 : Ext w w4 := (x1.trans x23).move p4.mv (by rintro k ⟨⟩; exact (x1.trans x2).size)
 have hq := aE (cs := [aI o, v]) p4.this
 have hv4 := hv.ext x4
 have hz4 := hz.ext x4
 clear p4 h3 x3 x23 hp hp0 hp2 hp3 hp4 s3
 generalize w2.heap.size = bz at *
 refine_lift JA fun _ _ _ _ => ?_
 refine aB (enters_of Tryz.func9 rfl rfl) rfl rfl (xU o v l _ hv4) ?_; intro w5 x5; refine aA ?_
 have hx5 := x4.trans x5
 have hq5 := hq.ext x5
 have hv5 := hv4.ext x5
 have hz5 := hz4.ext x5
 obtain ⟨cs5, sl5, cl5, at5⟩ := hz5.out
 cases hf : (decide ((o.length : Int) ≤ 300) && pI l) with
 | false =>
  refine_lift gX fun _ _ => ?_
  refine aB (enters_of Tryz.func10 rfl rfl) rfl rfl (cV _) ?_; intro w6 x6; refine aA ?_
  refine_lift dA ?_
  go_ret
  exact ⟨rfl, hx5.trans x6⟩
 | true =>
  obtain ⟨fl, fb, fd, fo, fd2, fe⟩ := KJ hf
  have hfd := NJ hf
  refine_lift NT (fun _ _ _ => ?_) (fun _ _ _ => ?_)
  ·refine aB (enters_of Tryz.func10 rfl rfl) rfl rfl (cV _) ?_; intro w6 x6; refine aA ?_
   refine_lift dA ?_
   go_ret
   exact ⟨rfl, hx5.trans x6⟩
  ·have hlen := ‹(cs5.length : Int) ≤ 8›
   refine bH (enters_of Tryz.func14 rfl rfl) rfl rfl (MH o v l room _ hv5 (by omega) fb) ?_
   rintro e w6 (⟨hne, rfl, x6⟩ | ⟨h0, b, rfl, hJ6⟩)
   ·refine ⟨_, rfl, ?_⟩
    refine aA ?_
    have hx6 := hx5.trans x6
    refine_lift KX (fun _ _ _ => ?_) (fun _ _ _ _ _ => ?_)
    ·refine aB (enters_of Tryz.func10 rfl rfl) rfl rfl (cV _) ?_; intro w8 x8; refine aA ?_
     refine_lift dA ?_
     go_ret
     exact ⟨rfl, hx6.trans x8⟩
    ·exact absurd (by simpa using ‹(!decide (pM o l room = 0)) = false›) hne
   ·refine ⟨_, rfl, ?_⟩
    refine aA ?_
    have x6 := hJ6.ext
    have hq6 := hq5.ext x6
    have hO := CQ h0
    have hv6 := hv5.ext x6
    have hx6 := hx5.trans x6
    refine_lift gX fun _ _ => ?_
    refine aB (enters_of Tryz.func31 rfl rfl) rfl rfl (pU o v l _ hv6 fb fd) ?_; intro w7 x7; refine aA ?_
    refine_lift dA ?_
    refine aG (z := aV) rfl (by decide +kernel) ?_
    intro w8 x8 s8 h8
    refine aA ?_
    refine aC (v := .agg (aP o l).cells.toArray) rfl rfl rfl h8 (show aO Tryz.prog 67 7 = true by decide +kernel) rfl (dI _) ?_
    intro w9 p9
    have x9 : Ext w7 w9 := x8.move p9.mv (by rintro k ⟨⟩; exact Nat.le_refl _)
    have hs9 := p9.this
    have x69 := x7.trans x9
    have hJ9 := hJ6.grow x69
    have hq9 := hq6.ext x69
    have x59 := x6.trans x69
    have hx9 := hx6.trans x69
    clear p9 h8 x8 s8 hJ6 hq6 hv6 x69
    generalize w7.heap.size = bs at *
    refine_lift gX fun _ _ => ?_
    go_loopw [11] (fun i wr => ∃ (k : Nat) (l2 : List RSet) (ds : List DeltaR) (hist : List (List RSet)), k ≤ zs.length ∧ i = .int .i64 k ∧ JAt w5 wr b o l2 room ds ∧ SB w5 bs o l wr ∧ JOk o l2 room ds ∧ DOne ds ∧ hist.length ≤ k + 1 ∧ hist[0]? = some l ∧ hist.getLast? = some l2 ∧ (∀ z ∈ hist, ZoneOk o z) ∧ ds = dD room (bS o hist) ∧ Chain o hist ∧ (∀ k b, 0 < k → hist[k]? = some b → (aP o b).serial ≠ (aP o l).serial) ∧ (∀ z ∈ hist, (aF z).length ≤ 300) ∧ ∀ z ∈ hist, ∀ r ∈ aF z, r.data.length ≤ 1000000) (fun i _ => zs.length - (intOf i).toNat)
    case atStart => exact ⟨0, l, [], [l], Nat.zero_le _, rfl, hJ9, ⟨x59, hs9⟩, hO, (by intro d hd; simp at hd), Nat.le_refl _, rfl, rfl, (by intro z hz; rw [List.mem_singleton.1 hz]; exact hO.zone), (by simp [bS, dD]), trivial, (by intro k b hk hb; obtain ⟨j, rfl⟩ : ∃ j, k = j + 1 := ⟨k - 1, by omega⟩; simp at hb), (by intro z hz; rw [List.mem_singleton.1 hz]; exact hfd.1), (by intro z hz; rw [List.mem_singleton.1 hz]; exact hfd.2.2)⟩
    case round =>
     clear hJ9 hO
     obtain ⟨k, l2, ds, hist, hk, rfl, hJ, hy, hO, hD, hhl, h0', hlast, hzo, hds, hch, hna, hsz, hdt⟩ := hrel
     have hx := hJ.ext
     by_cases hlt : k < zs.length
     ·obtain ⟨u, hc, hu⟩ := at5 k _ (List.getElem?_eq_getElem hlt)
      have hkc : k < cs5.length := by omega
      have slr := sl5.ext hx
      have hpe := slr.elem hc
      refine_lift VZ ?_; intro _ _ _ _ _ _ _ _
      refine aB (enters_of Tryz.func9 rfl rfl) rfl rfl (xU zs[k].1 u zs[k].2 _ (hu.ext hx)) ?_; intro w10 x10; refine aA ?_
      have hx10 := hx.trans x10
      have hJ10 := hJ.grow x10
      have hy10 : SB w5 bs o l w10 := ⟨hx10, x10.at hy.2⟩
      cases hg : (decide ((zs[k].1.length : Int) ≤ 300) && pI zs[k].2) with
      | false =>
       refine_lift gX fun _ _ => ?_
       refine aB (enters_of Tryz.func10 rfl rfl) rfl rfl (cV _) ?_; intro w11 x11; refine aA ?_
       refine_lift dA ?_
       go_ret
       exact ⟨rfl, hx5.trans (hx10.trans x11)⟩
      | true =>
       obtain ⟨gl, gb, gd, _⟩ := KJ hg
       have gfd := NJ hg
       have slr := sl5.ext hx10
       have hpe := slr.elem hc
       have hpe5 := sl5.elem hc
       clear hJ slr hpe
       refine_lift gX fun _ _ => ?_
       refine cC (S := SB w5 bs o l) (by decide +kernel) ?_
       intro w11 x11 _
       have hS11 : SB w5 bs o l w11 := ⟨hx10.trans x11, x11.at hy10.2⟩
       have hJ11 := hJ10.grow x11
       refine eQ 0 ?_; refine aA ?_; refine eQ 1 ?_; refine aA ?_; refine eQ 2 ?_; refine aA ?_
       refine eQ 3 (hy := fun _ _ => Runs.idxW (k := 2) (n := k) rfl sl5 hkc (by decide +kernel)) ?_; refine aA ?_
       refine eQ 4 (v := .agg #[aI zs[k].1, u]) (hy := by intro w' h; exact Runs.loadN (hpe5.ext h.1) rfl (show dY Tryz.prog 25 2 = true by decide +kernel)) ?_; refine aA ?_
       refine aT (i := 5) (by decide +kernel) rfl rfl ?_
       refine bH (enters_of Tryz.func16 rfl rfl) rfl rfl (BG hJ11 hO zs[k].1 u zs[k].2 hu gb gd) ?_
       rintro e w12 ⟨rfl, hk12, hJ12⟩
       refine ⟨_, rfl, ?_⟩
       refine aA ?_
       have hS12 : SB w5 bs o l w12 := ⟨hJ12.ext, hk12 _ _ _ _ hS11.2 (by decide)⟩
       have hO2 := hO.next zs[k].1 zs[k].2
       have hD2 := hD.next hO zs[k].1 zs[k].2
       clear hk12 hJ11 hJ10
       refine aJ ⟨hS12, ?_⟩
       refine eQ 6 ?_; refine aA ?_; refine eQ 7 ?_; refine aA ?_
       by_cases q : nC o l2 zs[k].1 zs[k].2 = 0
       ·obtain ⟨eo, hzk, hlat⟩ := CP q
        rw [decide_eq_true q]
        rw [uD, if_pos q, mZ, if_pos q] at hJ12 hO2
        rw [mZ, if_pos q] at hD2
        have hsm2 := hO2.small
        refine eQ 8 ?_; refine aA ?_
        refine eQ 10 (hy := fun _ _ => Runs.fieldJ (off := 2) rfl (by decide +kernel)) ?_; refine aA ?_
        refine eQ 11 (v := .int .i64 (aP o l).serial) (hy := by intro w' h; exact Runs.loadP rfl (aE h.2) rfl (by decide +kernel)) ?_; refine aA ?_
        refine aT (i := 9) (by decide +kernel) rfl rfl ?_
        refine aB (enters_of Tryz.func32 rfl rfl) rfl rfl (nW hJ12 hsm2.2.1 hsm2.2.2.1) ?_
        intro w13 x13
        refine aA ?_
        have hS13 : SB w5 bs o l w13 := ⟨hS12.1.trans x13, x13.at hS12.2⟩
        refine aJ ⟨hS13, ?_⟩
        have hJ13 := hJ12.grow x13
        refine eQ 12 ?_; refine aA ?_; refine eQ 13 ?_; refine aA ?_
        refine cB (by decide +kernel) ?_
        clear hJ12
        refine_lift DM (fun _ => ?_) (fun _ _ _ => ?_)
        ·refine aB (enters_of Tryz.func10 rfl rfl) rfl rfl (cV _) ?_; intro w14 x14; refine aA ?_
         refine_lift dA ?_
         go_ret
         exact ⟨rfl, hx5.trans (hS13.1.trans x14)⟩
        ·have hne2 : ¬ (aP o zs[k].2).serial = (aP o l).serial := by assumption
         refine ⟨⟨k + 1, zs[k].2, _, hist ++ [zs[k].2], by omega, by go_num, hJ13, hS13, hO2, hD2, by simp; omega, by rw [List.getElem?_append_left (by have := (List.getElem?_eq_some_iff.1 h0').1; omega)]; exact h0', by simp, ?_, ?_, yN hch hlast (fun e => NN hlat e), ?_, ?_, ?_⟩, by simp [intOf]; omega⟩
         ·intro z hz
          rcases List.mem_append.1 hz with hz | hz
          ·exact hzo z hz
          ·rw [List.mem_singleton.1 hz]; exact hzk
         ·rw [yA o hist l2 _ hlast, hds]
          exact JZ room (bS o hist) _ hO.fits.1
         ·intro j c hj hc'
          rw [List.getElem?_append] at hc'
          split at hc'
          ·exact hna j c hj hc'
          ·have hj0 : j - hist.length = 0 := by
            have := (List.getElem?_eq_some_iff.1 hc').1
            simpa using this
           rw [hj0] at hc'
           cases hc'
           exact hne2
         ·intro z hz
          rcases List.mem_append.1 hz with hz | hz
          ·exact hsz z hz
          ·rw [List.mem_singleton.1 hz]; exact gfd.1
         ·intro z hz
          rcases List.mem_append.1 hz with hz | hz
          ·exact hdt z hz
          ·rw [List.mem_singleton.1 hz]; exact gfd.2.2
       ·rw [decide_eq_false q]
        rw [uD, if_neg q, mZ, if_neg q] at hJ12 hO2
        rw [mZ, if_neg q] at hD2
        refine nA 8 ?_; refine aA ?_; refine nA 9 ?_; refine aA ?_; refine nA 10 ?_; refine aA ?_; refine nA 11 ?_; refine aA ?_; refine nA 12 ?_; refine aA ?_
        refine eQ 13 ?_; refine aA ?_
        refine cB (by decide +kernel) ?_
        refine_lift dA ?_
        exact ⟨⟨k + 1, l2, ds, hist, by omega, by go_num, hJ12, hS12, hO2, hD2, by omega, h0', hlast, hzo, hds, hch, hna, hsz, hdt⟩, by simp [intOf]; omega⟩
     ·have hkc : ¬ k < cs5.length := by omega
      have hOz := hO.zone
      obtain ⟨bl, bb, bd, bn, bg⟩ := hO.small
      have hsE := hJ
      have hm2 : l2 ∈ hist := List.mem_of_getLast? hlast
      obtain ⟨hi1, hi2⟩ := HH (s := (aP o l).serial) (i := 0) hO.fits.1 hzo hch hlast h0' rfl hna
      obtain ⟨hr1, hr2⟩ := FI (room := room) (s := (aP o l).serial) hzo hsz hlast (by omega)
      have hdn : ∀ r ∈ gT o l2 (dD room (bS o hist)) (aP o l).serial, r.data.length ≤ 1000000 := fun r hr => by
       obtain ⟨z, hz, h⟩ := hr2 r hr
       exact hdt z hz r h
      have hS := yL hJ hO hD (aP o l).serial
      rw [hds] at hS
      have hps := aE hy.2
      have hqr := hq5.ext hx
      refine_lift RV fun _ _ _ => ?_
      refine aK (enters_of Tryz.func18 rfl rfl) rfl rfl hS ?_
      rintro _ w10 x10 ⟨rv, rfl, hrv⟩
      refine aA ?_
      have hx10 := hx.trans x10
      have hJ10 := hJ.grow x10
      have hq10 := hq5.ext hx10
      have hv10 := hv5.ext hx10
      have hS10 := x10.at hy.2
      have hA := fB o v l o rv _ w10 hv10 hrv fb hfd.2.1 (by have := hfd.1; omega) hr1 hdn
      clear hJ hS hqr hr1 hr2 hdn
      generalize gT o l2 (dD room (bS o hist)) (aP o l).serial = R at *
      generalize bW o l o R = Z at *
      refine_lift gX fun _ _ => ?_
      refine aK (enters_of Tryz.func21 rfl rfl) rfl rfl hA ?_
      rintro _ w11 x11 ⟨a, rfl, ha⟩
      refine aA ?_
      have ha := ha.sets
      have ha1 : a.oneCell' = true := by obtain ⟨css, h, _⟩ := ha; exact h.one
      refine_lift dA ?_
      refine aG (z := aM) rfl (by decide +kernel) ?_
      intro w12 x12 s12 h12
      refine aA ?_
      refine aC (v := .agg #[aI Z.o, a]) rfl rfl rfl h12 (show aO Tryz.prog 25 2 = true by decide +kernel) rfl (bE ha1) ?_
      intro w13 p13
      have x13 : Ext w11 w13 := x12.move p13.mv (by rintro k ⟨⟩; exact Nat.le_refl _)
      have hq13 := aE (cs := [aI Z.o, a]) p13.this
      clear p13 h12 x12 s12
      have x1013 := x11.trans x13
      have hx13 := hx10.trans x1013
      have hJ13 := hJ10.grow x1013
      have hq14 := hq10.ext x1013
      have hS13 := x1013.at hS10
      have ha13 := ha.ext x13
      have hrv13 := hrv.ext x1013
      clear hA hJ10 hq10 hv10 hS10 ha
      refine_lift gX fun _ _ => ?_
      refine aK (enters_of Tryz.func33 rfl rfl) rfl rfl (MG hJ13 bl bb) ?_
      rintro _ w14 x14 ⟨y, rfl, hy14⟩
      refine aA ?_
      have hy14 := hy14.sets
      have hy1 : y.oneCell' = true := by obtain ⟨css, h, _⟩ := hy14; exact h.one
      refine_lift dA ?_
      refine aG (z := aM) rfl (by decide +kernel) ?_
      intro w15 x15 s15 h15
      refine aA ?_
      refine aC (v := .agg #[aI o, y]) rfl rfl rfl h15 (show aO Tryz.prog 25 2 = true by decide +kernel) rfl (bE hy1) ?_
      intro w16 p16
      have x16 : Ext w14 w16 := x15.move p16.mv (by rintro k ⟨⟩; exact Nat.le_refl _)
      have hq16 := aE (cs := [aI o, y]) p16.this
      clear p16 h15 x15 s15
      have x1316 := x14.trans x16
      have hx16 := hx13.trans x1316
      have hJ16 := hJ13.grow x1316
      have hqz := hq14.ext x1316
      have hS16 := x1316.at hS13
      have ha16 := ha13.ext x1316
      have hqa := hq13.ext x1316
      have hy16 := hy14.ext x16
      have hrv16 := hrv13.ext x1316
      have hps16 := aE hS16
      clear hJ13 hq14 hS13 ha13 hq13 hy14 hrv13 hps
      have hRl := aL R
      by_cases hR1 : R.length = 1
      ·obtain ⟨e5, eser⟩ := hi2 hR1
       have hR1' : ((aD R).length : Int) = 1 := by omega
       refine_lift SN fun _ _ _ _ _ => ?_
       all_goals first
        | exact absurd hR1' ‹_›
        | skip
       refine bB (by decide +kernel) (by decide +kernel) ?_
       refine_lift vE ?_
       rw [decide_eq_true e5]
       refine_lift vE ?_
       refine cA (enters_of Tryz.func32 rfl rfl) rfl rfl (fun w' c => nW (hJ16.grow c) bb bd) ?_
       refine aA ?_
       refine_lift vE ?_
       rw [decide_eq_true eser]
       refine_lift vE ?_
       refine cA (enters_of Tryz.func10 rfl rfl) rfl rfl (fun w' c => cV w') ?_
       refine aA ?_
       refine_lift vE ?_
       intro w17 x17
       refine_lift dA ?_
       go_ret
       exact ⟨rfl, hx5.trans (hx16.trans x17)⟩
      ·have hR1' : ¬ ((aD R).length : Int) = 1 := by omega
       have hqz16 := hqz
       have hk16 := hq16
       refine_lift ST (fun _ hc _ _ => ?_) (fun _ _ _ _ _ hc => ?_)
       all_goals first
        | (exfalso; exact hR1' ‹_›)
        | skip
       ·have hZ := hi1 ‹Z.e = 0›
        have hZo : Z.o = o := by rw [hZ]
        have hZl : Z.l = l2 := by rw [hZ]
        refine aB (enters_of Tryz.func23 rfl rfl) rfl rfl (iR ha16 hy16 hZo hZl) ?_; intro w17 x17; refine aA ?_
        have hx17 := hx16.trans x17
        have hqz17 := hqz16.ext x17
        have hk17 := hk16.ext x17
        have hy17 := hy16.ext x17
        clear hS16 hps16 hqa ha16 hrv16 hJ16 hqz hq16 hqz16 hk16 hy16 hi1 hi2
        have hX := mQ o y l2 _ hy17 bb
        rw [fW hOz] at hX
        refine_lift gX fun _ _ => ?_
        refine aK (enters_of Tryz.func11 rfl rfl) rfl rfl hX ?_
        rintro _ w18 x18 ⟨wv, rfl, ow⟩
        refine aA ?_
        have ow := ow.sl
        have hx18 := hx17.trans x18
        have hq18 := hqz17.ext x18
        have hk18 := hk17.ext x18
        have hy18 := hy17.ext x18
        clear hX
        refine_lift gX fun _ _ => ?_
        refine aQ (v := .agg aM.toArray) rfl (Runs.build0 (by kernel_rfl)) ?_
        refine aA ?_
        refine_lift dA ?_
        have hI := fB [] (.slice none 0 0) [] o wv (bO o l2) w18 (SetsO.nil 0 _).sets ow (by simp) (by simp) (by decide) (Nat.le_trans (lQ hOz (hsz _ hm2)) (by decide)) (fun r hr => hdt _ hm2 r (oH hOz hr))
        rw [mP hOz, if_neg (by simp)] at hI
        refine aK (enters_of Tryz.func21 rfl rfl) rfl rfl hI ?_
        rintro _ w19 x19 ⟨c, rfl, hc2⟩
        refine aA ?_
        have hc2 := hc2.sets
        have hc1 : c.oneCell' = true := by obtain ⟨css, h, _⟩ := hc2; exact h.one
        refine_lift dA ?_
        refine aG (z := aM) rfl (by decide +kernel) ?_
        intro w20 x20 s20 h20
        refine aA ?_
        refine aC (v := .agg #[aI o, c]) rfl rfl rfl h20 (show aO Tryz.prog 25 2 = true by decide +kernel) rfl (bE hc1) ?_
        intro w21 p21
        have x21 : Ext w19 w21 := x20.move p21.mv (by rintro k ⟨⟩; exact Nat.le_refl _)
        have hq21 := aE (cs := [aI o, c]) p21.this
        clear p21 h20 x20 s20
        have x1821 := x19.trans x21
        have hx21 := hx18.trans x1821
        have hq21z := hq18.ext x1821
        have hk21 := hk18.ext x1821
        have hy21 := hy18.ext x1821
        have hc21 := hc2.ext x21
        have ow21 := ow.ext x1821
        clear hI hq18 hk18 hy18 hc2 ow
        refine_lift JA fun _ _ _ _ => ?_
        refine aB (enters_of Tryz.func23 rfl rfl) rfl rfl (iR hc21 hy21 rfl rfl) ?_; intro w22 x22; refine aA ?_
        have hx22 := hx21.trans x22
        have hq22 := hq21z.ext x22
        have ow22 := ow21.ext x22
        have hwl := aL (bO o l2)
        clear hq21z hk21 hy21 hc21 ow21 hq21
        refine_lift KY (fun hc _ _ _ => ?_) (fun _ _ hc _ _ => ?_) (fun _ _ hc _ _ _ => ?_)
        all_goals first
         | ((first | have hq := ‹s < 0› | have hq := ‹((aD (bO o l2)).length : Int) ≤ s›); refine aB (enters_of Tryz.func10 rfl rfl) rfl rfl (cV _) ?_; intro w23 x23; refine aA ?_; refine_lift dA ?_; go_ret; exact ⟨rfl, hx5.trans (hx22.trans x23)⟩; done)
         | skip
        have hcut : s.toNat < (bO o l2).length := by omega
        have hQe := FA hOz hcut
        have hK : ∀ w', Ext w22 w' → Calls Tryz.prog 21 #[.agg aM.toArray, aI o, cK wv 4 0 s.toNat] w' (jE w' (ZEU w'.heap.size (bW [] [] o ((bO o l2).take s.toNat)))) := fun w' c => fB [] (.slice none 0 0) [] o (cK wv 4 0 s.toNat) ((bO o l2).take s.toNat) w' (SetsO.nil 0 _).sets (parts (ow22.ext c) (by omega)).1 (by simp) (by simp) (by decide) (by have := lQ hOz (hsz _ hm2); rw [List.length_take]; omega) (fun r hr => hdt _ hm2 r (oH hOz (List.mem_of_mem_take hr)))
        generalize bW [] [] o ((bO o l2).take s.toNat) = Q at *
        refine cC (S := fun w' => Ext w22 w') (by decide +kernel) ?_
        intro w23 x23 _
        refine eQ 0 (v := .agg aM.toArray) (hy := fun _ _ => Runs.build0 (by kernel_rfl)) ?_; refine aA ?_
        refine eQ 1 ?_; refine aA ?_; refine eQ 2 ?_; refine aA ?_; refine eQ 3 ?_; refine aA ?_; refine eQ 4 ?_; refine aA ?_
        refine eQ 5 (v := cK wv 4 0 s.toNat) (hy := by intro w' c; exact Runs.takeTI (k := 4) (n := s) rfl (ow22.ext c) (by omega) (by omega) (by decide +kernel)) ?_; refine aA ?_
        refine fJ (i := 6) (j := 10) (by decide +kernel) rfl rfl rfl ?_ ?_
        ·refine aK (enters_of Tryz.func21 rfl rfl) rfl rfl (hK _ x23) ?_
         rintro _ w24 x24 ⟨d, rfl, hd⟩
         refine aA ?_
         have hd1 : d.oneCell' = true := by obtain ⟨css, h, _⟩ := hd.sets; exact h.one
         have x2224 := x23.trans x24
         refine aJ ⟨x2224, ?_⟩
         refine eQ 7 ?_; refine aA ?_; refine eQ 8 ?_; refine aA ?_; refine eQ 9 ?_; refine aA ?_
         refine aT (i := 10) (by decide +kernel) rfl rfl ?_
         refine aG (z := aM) rfl (by decide +kernel) ?_
         intro w25 x25 s25 h25
         refine aA ?_
         have x2225 := x2224.trans x25
         refine aJ ⟨x2225, ?_⟩
         refine aT (i := 11) (by decide +kernel) rfl rfl ?_
         refine aC (v := .agg #[aI Q.o, d]) rfl rfl rfl h25 (show aO Tryz.prog 25 2 = true by decide +kernel) rfl (bE hd1) ?_
         intro w26 p26
         have x2226' : Ext w22 w26 := x2225.move p26.mv (by rintro k ⟨⟩; exact x2224.size)
         refine aJ ⟨x2226', ?_⟩
         refine eQ 12 ?_; refine aA ?_
         refine cB (by decide +kernel) ?_
         clear p26 h25
         refine_lift DM (fun hc => ?_) (fun _ _ hc => ?_)
         all_goals first
          | exact absurd (by simpa using ‹(!decide (Q.e = 0)) = false›) hQe
          | skip
         refine aB (enters_of Tryz.func10 rfl rfl) rfl rfl (cV _) ?_; intro w27 x27; refine aA ?_
         refine_lift dA ?_
         go_ret
         exact ⟨rfl, hx5.trans (hx22.trans (x2226'.trans x27))⟩
        ·refine aG (z := aM) rfl (by decide +kernel) ?_
         intro w24 x24 s24 h24
         refine aA ?_
         have x2224 := x23.trans x24
         refine aJ ⟨x2224, ?_⟩
         refine aT (i := 6) (by decide +kernel) rfl rfl ?_
         refine aK (enters_of Tryz.func21 rfl rfl) rfl rfl (hK _ x2224) ?_
         rintro _ w25 x25 ⟨d, rfl, hd⟩
         refine aA ?_
         have hd1 : d.oneCell' = true := by obtain ⟨css, h, _⟩ := hd.sets; exact h.one
         have x2225 := x2224.trans x25
         refine aJ ⟨x2225, ?_⟩
         refine eQ 7 ?_; refine aA ?_; refine eQ 8 ?_; refine aA ?_; refine eQ 9 ?_; refine aA ?_
         refine aT (i := 11) (by decide +kernel) rfl rfl ?_
         refine aC (v := .agg #[aI Q.o, d]) rfl rfl rfl (x25.at h24) (show aO Tryz.prog 25 2 = true by decide +kernel) rfl (bE hd1) ?_
         intro w26 p26
         have x2226' : Ext w22 w26 := x2225.move p26.mv (by rintro k ⟨⟩; exact x23.size)
         refine aJ ⟨x2226', ?_⟩
         refine eQ 12 ?_; refine aA ?_
         refine cB (by decide +kernel) ?_
         clear p26 h24
         refine_lift DM (fun hc => ?_) (fun _ _ hc => ?_)
         all_goals first
          | exact absurd (by simpa using ‹(!decide (Q.e = 0)) = false›) hQe
          | skip
         refine aB (enters_of Tryz.func10 rfl rfl) rfl rfl (cV _) ?_; intro w27 x27; refine aA ?_
         refine_lift dA ?_
         go_ret
         exact ⟨rfl, hx5.trans (hx22.trans (x2226'.trans x27))⟩
       ·clear hS16 hps16 hqa ha16 hrv16 hJ16 hqz hq16 hi1 hi2
        have hX := mQ o y l2 _ hy16 bb
        rw [fW hOz] at hX
        refine_lift dA ?_
        refine aK (enters_of Tryz.func11 rfl rfl) rfl rfl hX ?_
        rintro _ w17 x17 ⟨wv, rfl, ow⟩
        refine aA ?_
        have ow := ow.sl
        have hx17 := hx16.trans x17
        have hq17 := hqz16.ext x17
        have hk17 := hk16.ext x17
        have hy17 := hy16.ext x17
        clear hX
        refine_lift gX fun _ _ => ?_
        refine aQ (v := .agg aM.toArray) rfl (Runs.build0 (by kernel_rfl)) ?_
        refine aA ?_
        refine_lift dA ?_
        have hI := fB [] (.slice none 0 0) [] o wv (bO o l2) w17 (SetsO.nil 0 _).sets ow (by simp) (by simp) (by decide) (Nat.le_trans (lQ hOz (hsz _ hm2)) (by decide)) (fun r hr => hdt _ hm2 r (oH hOz hr))
        rw [mP hOz, if_neg (by simp)] at hI
        refine aK (enters_of Tryz.func21 rfl rfl) rfl rfl hI ?_
        rintro _ w18 x18 ⟨c, rfl, hc2⟩
        refine aA ?_
        have hc2 := hc2.sets
        have hc1 : c.oneCell' = true := by obtain ⟨css, h, _⟩ := hc2; exact h.one
        refine_lift dA ?_
        refine aG (z := aM) rfl (by decide +kernel) ?_
        intro w19 x19 s19 h19
        refine aA ?_
        refine aC (v := .agg #[aI o, c]) rfl rfl rfl h19 (show aO Tryz.prog 25 2 = true by decide +kernel) rfl (bE hc1) ?_
        intro w20 p20
        have x20 : Ext w18 w20 := x19.move p20.mv (by rintro k ⟨⟩; exact Nat.le_refl _)
        have hq20 := aE (cs := [aI o, c]) p20.this
        clear p20 h19 x19 s19
        have x1720 := x18.trans x20
        have hx20 := hx17.trans x1720
        have hq20z := hq17.ext x1720
        have hk20 := hk17.ext x1720
        have hy20 := hy17.ext x1720
        have hc20 := hc2.ext x20
        have ow20 := ow.ext x1720
        clear hI hq17 hk17 hy17 hc2 ow
        refine_lift JA fun _ _ _ _ => ?_
        refine aB (enters_of Tryz.func23 rfl rfl) rfl rfl (iR hc20 hy20 rfl rfl) ?_; intro w21 x21; refine aA ?_
        have hx21 := hx20.trans x21
        have hq21 := hq20z.ext x21
        have ow21 := ow20.ext x21
        have hwl := aL (bO o l2)
        clear hq20z hk20 hy20 hc20 ow20 hq20
        refine_lift KY (fun hc _ _ _ => ?_) (fun _ _ hc _ _ => ?_) (fun _ _ hc _ _ _ => ?_)
        all_goals first
         | ((first | have hq := ‹s < 0› | have hq := ‹((aD (bO o l2)).length : Int) ≤ s›); refine aB (enters_of Tryz.func10 rfl rfl) rfl rfl (cV _) ?_; intro w22 x22; refine aA ?_; refine_lift dA ?_; go_ret; exact ⟨rfl, hx5.trans (hx21.trans x22)⟩; done)
         | skip
        have hcut : s.toNat < (bO o l2).length := by omega
        have hQe := FA hOz hcut
        have hK : ∀ w', Ext w21 w' → Calls Tryz.prog 21 #[.agg aM.toArray, aI o, cK wv 4 0 s.toNat] w' (jE w' (ZEU w'.heap.size (bW [] [] o ((bO o l2).take s.toNat)))) := fun w' c => fB [] (.slice none 0 0) [] o (cK wv 4 0 s.toNat) ((bO o l2).take s.toNat) w' (SetsO.nil 0 _).sets (parts (ow21.ext c) (by omega)).1 (by simp) (by simp) (by decide) (by have := lQ hOz (hsz _ hm2); rw [List.length_take]; omega) (fun r hr => hdt _ hm2 r (oH hOz (List.mem_of_mem_take hr)))
        generalize bW [] [] o ((bO o l2).take s.toNat) = Q at *
        refine cC (S := fun w' => Ext w21 w') (by decide +kernel) ?_
        intro w22 x22 _
        refine eQ 0 (v := .agg aM.toArray) (hy := fun _ _ => Runs.build0 (by kernel_rfl)) ?_; refine aA ?_
        refine eQ 1 ?_; refine aA ?_; refine eQ 2 ?_; refine aA ?_; refine eQ 3 ?_; refine aA ?_; refine eQ 4 ?_; refine aA ?_
        refine eQ 5 (v := cK wv 4 0 s.toNat) (hy := by intro w' c; exact Runs.takeTI (k := 4) (n := s) rfl (ow21.ext c) (by omega) (by omega) (by decide +kernel)) ?_; refine aA ?_
        refine fJ (i := 6) (j := 10) (by decide +kernel) rfl rfl rfl ?_ ?_
        ·refine aK (enters_of Tryz.func21 rfl rfl) rfl rfl (hK _ x22) ?_
         rintro _ w23 x23 ⟨d, rfl, hd⟩
         refine aA ?_
         have hd1 : d.oneCell' = true := by obtain ⟨css, h, _⟩ := hd.sets; exact h.one
         have x2123 := x22.trans x23
         refine aJ ⟨x2123, ?_⟩
         refine eQ 7 ?_; refine aA ?_; refine eQ 8 ?_; refine aA ?_; refine eQ 9 ?_; refine aA ?_
         refine aT (i := 10) (by decide +kernel) rfl rfl ?_
         refine aG (z := aM) rfl (by decide +kernel) ?_
         intro w24 x24 s24 h24
         refine aA ?_
         have x2124 := x2123.trans x24
         refine aJ ⟨x2124, ?_⟩
         refine aT (i := 11) (by decide +kernel) rfl rfl ?_
         refine aC (v := .agg #[aI Q.o, d]) rfl rfl rfl h24 (show aO Tryz.prog 25 2 = true by decide +kernel) rfl (bE hd1) ?_
         intro w25 p25
         have x2125' : Ext w21 w25 := x2124.move p25.mv (by rintro k ⟨⟩; exact x2123.size)
         refine aJ ⟨x2125', ?_⟩
         refine eQ 12 ?_; refine aA ?_
         refine cB (by decide +kernel) ?_
         clear p25 h24
         refine_lift DM (fun hc => ?_) (fun _ _ hc => ?_)
         all_goals first
          | exact absurd (by simpa using ‹(!decide (Q.e = 0)) = false›) hQe
          | skip
         refine aB (enters_of Tryz.func10 rfl rfl) rfl rfl (cV _) ?_; intro w26 x26; refine aA ?_
         refine_lift dA ?_
         go_ret
         exact ⟨rfl, hx5.trans (hx21.trans (x2125'.trans x26))⟩
        ·refine aG (z := aM) rfl (by decide +kernel) ?_
         intro w23 x23 s23 h23
         refine aA ?_
         have x2123 := x22.trans x23
         refine aJ ⟨x2123, ?_⟩
         refine aT (i := 6) (by decide +kernel) rfl rfl ?_
         refine aK (enters_of Tryz.func21 rfl rfl) rfl rfl (hK _ x2123) ?_
         rintro _ w24 x24 ⟨d, rfl, hd⟩
         refine aA ?_
         have hd1 : d.oneCell' = true := by obtain ⟨css, h, _⟩ := hd.sets; exact h.one
         have x2124 := x2123.trans x24
         refine aJ ⟨x2124, ?_⟩
         refine eQ 7 ?_; refine aA ?_; refine eQ 8 ?_; refine aA ?_; refine eQ 9 ?_; refine aA ?_
         refine aT (i := 11) (by decide +kernel) rfl rfl ?_
         refine aC (v := .agg #[aI Q.o, d]) rfl rfl rfl (x24.at h23) (show aO Tryz.prog 25 2 = true by decide +kernel) rfl (bE hd1) ?_
         intro w25 p25
         have x2125' : Ext w21 w25 := x2124.move p25.mv (by rintro k ⟨⟩; exact x22.size)
         refine aJ ⟨x2125', ?_⟩
         refine eQ 12 ?_; refine aA ?_
         refine cB (by decide +kernel) ?_
         clear p25 h23
         refine_lift DM (fun hc => ?_) (fun _ _ hc => ?_)
         all_goals first
          | exact absurd (by simpa using ‹(!decide (Q.e = 0)) = false›) hQe
          | skip
         refine aB (enters_of Tryz.func10 rfl rfl) rfl rfl (cV _) ?_; intro w26 x26; refine aA ?_
         refine_lift dA ?_
         go_ret
         exact ⟨rfl, hx5.trans (hx21.trans (x2125'.trans x26))⟩
theorem kY (w : World) : Calls Tryz.prog 10 #[] w (bG w (.bool true)) := sI w
theorem CR {α : Type} {l : List α} {i : Nat} {d : α} (h : i < l.length) : l.getD i d = l[i] := by
 rw [List.getD_eq_getElem?_getD, List.getElem?_eq_getElem h]; rfl
theorem TV {o : List UInt8} {l : List RSet} (h : ZoneOk o l) : 3 ≤ (bO o l).length ∧ (bO o l).getD 0 bA = soaRec o l ∧ (bO o l).getD ((bO o l).length - 1) bA = soaRec o l ∧
 (∀ i, 1 ≤ i → i + 1 < (bO o l).length → ((bO o l).getD i bA).kind ≠ 6) ∧ ∀ i k, 1 ≤ k → k < i → i + 1 < (bO o l).length → (bO o l).getD k bA ≠ (bO o l).getD i bA := by
 obtain ⟨os, q, hr⟩ := h.recs
 have hnd := h.nodup
 have hos : (aF l).filter (fun r => !aU r) = os := by
  have e1 := kI h
  rw [hr.whole h] at e1
  simp only [List.cons_append, List.cons.injEq, true_and, List.append_cancel_right_eq] at e1
  exact e1.symm
 have nos : os.Nodup := hos ▸ hnd.filter _
 rw [hr.whole h]
 have hlen : (soaRec o l :: os ++ [soaRec o l]).length = os.length + 2 := by simp
 have at1 : ∀ i, 1 ≤ i → i + 1 < os.length + 2 → (soaRec o l :: os ++ [soaRec o l]).getD i bA = os.getD (i - 1) bA := by
  intro i h1 h2
  obtain ⟨j, rfl⟩ : ∃ j, i = j + 1 := ⟨i - 1, by omega⟩
  rw [List.cons_append, List.getD_cons_succ, List.getD_eq_getElem?_getD, List.getElem?_append_left (by omega), ← List.getD_eq_getElem?_getD]
  rfl
 rw [hlen]
 refine ⟨by have := hr.two; omega, rfl, ?_, fun i h1 h2 => ?_, fun i k h1 h2 h3 => ?_⟩
 ·rw [show os.length + 2 - 1 = os.length + 1 by omega, List.cons_append, List.getD_cons_succ, List.getD_eq_getElem?_getD, List.getElem?_append_right (Nat.le_refl _)]
  simp
 ·rw [at1 i h1 h2, CR (by omega)]
  have := hr.non _ (List.getElem_mem (show i - 1 < os.length by omega))
  rw [FG] at this
  simpa using this
 ·rw [at1 i (by omega) h3, at1 k h1 (by omega), CR (by omega), CR (by omega)]
  intro e
  have := List.pairwise_iff_getElem.1 nos (k - 1) (i - 1) (by omega) (by omega) (by omega)
  exact this e
set_option maxHeartbeats 4000000 in
theorem SC (o : List UInt8) (v : Value) (l : List RSet) (w : World) (hv : SetsAt w v l) :
 Calls Tryz.prog 7 #[.agg #[aI o, v]] w (TL w) := by
 go_enter Tryz.func7, Tryz.ntmps7
 refine_lift hY fun _ _ => ?_
 refine aZ (vs := [aI o, v]) rfl rfl ?_
 intro p w1 x1 hp
 refine aA ?_
 refine_lift JA fun _ _ _ _ => ?_
 refine aB (enters_of Tryz.func9 rfl rfl) rfl rfl (xU o v l _ (hv.ext x1)) ?_; intro w2 x2; refine aA ?_
 have hx2 := x1.trans x2
 have hp2 := hp.ext x2
 have hv2 := hv.ext hx2
 cases hf : (decide ((o.length : Int) ≤ 300) && pI l) with
 | false =>
  refine_lift gX fun _ _ => ?_
  refine aB (enters_of Tryz.func10 rfl rfl) rfl rfl (kY _) ?_; intro w3 x3; refine aA ?_
  refine_lift dA ?_
  go_ret
  exact ⟨rfl, hx2.trans x3⟩
 | true =>
  obtain ⟨fl, fb, fd, fo, fd2, fe⟩ := KJ hf
  have hfd := NJ hf
  refine_lift gX fun _ _ => ?_
  refine aK (enters_of Tryz.func11 rfl rfl) rfl rfl (mQ o v l _ hv2 fb) ?_
  rintro _ w3 x3 ⟨y, rfl, oy⟩
  have hx3 := hx2.trans x3
  have hv3 := hv2.ext x3
  have hp3 := hp2.ext x3
  have hs := oy.sl
  by_cases hz : aX o l = 0
  ·rw [hz]
   have hok := gF hz
   obtain ⟨k1, k2, k3, k4, k5⟩ := TV hok
   have hrn := aL (bO o l)
   obtain ⟨-, e6, en, -⟩ := cN hok
   have e6 : (soaRec o l).kind = 6 := by rw [FG] at e6; simpa using e6
   refine aA ?_
   have n0 : (0 : Nat) < (bO o l).length := by omega
   have n1 : (bO o l).length - 1 < (bO o l).length := by omega
   have hr0 := oA n0
   have hr1 := oA n1
   rw [k2] at hr0
   rw [k3] at hr1
   have hsle := hs.le
   have hpe0 := hs.elem hr0
   have hpe1 := hs.elem hr1
   refine_lift JA fun _ _ _ _ => ?_
   refine bB (by decide +kernel) (by decide +kernel) ?_
   refine_lift vE ?_
   rw [show decide (((aD (bO o l)).length : Int) < 3) = false from decide_eq_false (by omega)]
   refine_lift vE ?_
   rw [show ((aD (bO o l)).length : Int) - 1 = (((bO o l).length - 1 : Nat) : Int) by omega]
   refine_lift vE ?_
   refine fU (v := .bool (!decide (soaRec o l = soaRec o l))) (fun w' _ => Runs.neqRec rfl rfl) ?_
   rw [decide_eq_true (rfl : soaRec o l = soaRec o l)]
   refine aA ?_
   refine_lift vE ?_
   rw [decide_eq_true e6, Bool.not_true]
   refine_lift vE ?_
   rw [decide_eq_true en, Bool.not_true]
   refine_lift vE ?_
   intro w4 x4
   have hx4 := hx3.trans x4
   have hs4 := hs.ext x4
   clear hpe0 hpe1 hr0 hr1 hs hp3 hv3
   refine_lift gX fun _ _ => ?_
   have hcap : (bO o l).length ≤ 1000 := by
    have h9 := List.length_filter_le (fun r => !aU r) (aF l)
    have h8 := hfd.1
    rw [kI hok]
    simp only [List.length_append, List.length_cons, List.length_nil]
    omega
   clear n0 n1 k2 k3
   generalize bO o l = L at *
   go_loopw [5] (fun i wr => ∃ k : Nat, 1 ≤ k ∧ k ≤ L.length ∧ i = .int .i64 k ∧ Ext w4 wr) (fun i _ => L.length - (intOf i).toNat)
   case atStart => exact ⟨1, Nat.le_refl _, by omega, rfl, Ext.refl _⟩
   case round =>
    obtain ⟨k, hk1, hk, rfl, hx⟩ := hrel
    have hs5 := hs4.ext hx
    by_cases hlt : k + 1 < L.length
    ·have hkl : k < L.length := by omega
     have hpe := hs5.elem (oA hkl)
     have hk6 := k4 k hk1 hlt
     have hne := fun j => k5 k j
     refine_lift SN ?_; intro _ _ _ _ _
     go_loopw [6] (fun i wr => ∃ j : Nat, 1 ≤ j ∧ j ≤ k ∧ i = .int .i64 j ∧ Ext w4 wr) (fun i _ => k - (intOf i).toNat)
     case atStart => exact ⟨1, Nat.le_refl _, hk1, rfl, hx⟩
     case round =>
      clear hs5 hpe hx
      obtain ⟨j, hj1, hj, rfl, hx⟩ := hrel
      have hs5 := hs4.ext hx
      by_cases hjk : j < k
      ·have hjl : j < L.length := by omega
       have hpj := hs5.elem (oA hjl)
       have hpk := hs5.elem (oA hkl)
       have hnj := hne j hj1 hjk hlt
       refine_lift SQ ?_; intro _ _ _ _ _ _
       refine bB (by decide +kernel) (by decide +kernel) ?_
       refine_lift vE ?_
       refine fU (v := .bool (decide (L.getD j bA = L.getD k bA))) (fun w' _ => Runs.eqlRec rfl rfl) ?_
       rw [decide_eq_false hnj]
       refine aA ?_
       refine_lift vE ?_
       intro w6 x6
       refine_lift dA ?_
       exact ⟨⟨j + 1, by omega, by omega, by go_num, hx.trans x6⟩, by simp [intOf]; omega⟩
      ·refine_lift RU fun _ => ?_
       exact ⟨⟨k + 1, by omega, by omega, by go_num, hx⟩, by simp [intOf]; omega⟩
    ·refine_lift RV fun _ _ _ => ?_
     refine aB (enters_of Tryz.func10 rfl rfl) rfl rfl (kY _) ?_; intro w6 x6; refine aA ?_
     refine_lift dA ?_
     go_ret
     exact ⟨rfl, hx4.trans (hx.trans x6)⟩
  ·have hw0 : bO o l = [] := by rw [bO, if_neg hz]
   rw [hw0] at hs
   have e0 : (((aD []).length : Nat) : Int) = 0 := rfl
   have hz' : (!decide (aX o l = 0)) = true := by simp [hz]
   refine aA ?_
   refine_lift SS (fun _ hc => ?_) (fun _ _ _ _ _ => ?_) (fun _ _ _ _ _ hc => ?_)
   all_goals first
    | exact absurd e0 ‹_›
    | (exfalso; have hh := ‹(!decide (aX o l = 0)) = false›; rw [hz'] at hh; cases hh; done)
    | skip
   refine aB (enters_of Tryz.func34 rfl rfl) rfl rfl (rR o v l _ hv3 fb) ?_; intro w4 x4; refine aA ?_
   refine_lift dA ?_
   all_goals first
    | exact absurd rfl ‹_›
    | skip
   refine aB (enters_of Tryz.func10 rfl rfl) rfl rfl (kY _) ?_; intro w5 x5; refine aA ?_
   refine_lift dA ?_
   go_ret
   exact ⟨rfl, hx3.trans (x4.trans x5)⟩
theorem kZ (w : World) : Calls Tryz.prog 10 #[] w (bG w (.bool true)) := sI w
theorem HI {o : List UInt8} {l : List RSet} {ds : List DeltaR} : gT o l ds (aP o l).serial = [soaRec o l] := by
 have h : cU o l ds (aP o l).serial = ([], true) := by rw [cU, if_pos rfl]
 rw [gT, h]
 simp
theorem CS {o : List UInt8} {l : List RSet} (h : ZoneOk o l) {r : Rec} (hr : r ∈ bO o l) : r ∈ aF l := by
 rw [kI h] at hr
 rcases List.mem_append.1 hr with hr | hr
 ·rcases List.mem_cons.1 hr with rfl | hr
  ·exact (cN h).1
  ·exact (List.mem_filter.1 hr).1
 ·rw [List.mem_singleton.1 hr]; exact (cN h).1
theorem HJ {o : List UInt8} {l : List RSet} (h : ZoneOk o l) (hd : ∀ r ∈ aF l, r.data.length ≤ 1000000) : ∀ r ∈ bO o l, r.data.length ≤ 1000000 := fun r hr => hd r (CS h hr)
theorem zC {o : List UInt8} {l : List RSet} (h : ZoneOk o l) (hl : (aF l).length ≤ 300) : (bO o l).length ≤ 5000 := by
 have := List.length_filter_le (fun r => !aU r) (aF l)
 rw [kI h]
 simp only [List.length_append, List.length_cons, List.length_nil]
 omega
theorem HK (n : Int) : dB n n = false := by simp [dB]
set_option maxHeartbeats 4000000 in
theorem SD (o : List UInt8) (v : Value) (l : List RSet) (room : Int) (w : World) (hv : SetsAt w v l) :
 Calls Tryz.prog 8 #[.agg #[aI o, v], .int .i64 room] w (TL w) := by
 go_enter Tryz.func8, Tryz.ntmps8
 refine_lift hY fun _ _ => ?_
 refine aZ (vs := [aI o, v]) rfl rfl ?_
 intro p w1 x1 hp
 refine aA ?_
 refine_lift JA fun _ _ _ _ => ?_
 refine aB (enters_of Tryz.func9 rfl rfl) rfl rfl (xU o v l _ (hv.ext x1)) ?_; intro w2 x2; refine aA ?_
 have hx2 := x1.trans x2
 have hp2 := hp.ext x2
 have hv2 := hv.ext hx2
 cases hf : (decide ((o.length : Int) ≤ 300) && pI l) with
 | false =>
  refine_lift gX fun _ _ => ?_
  refine aB (enters_of Tryz.func10 rfl rfl) rfl rfl (kZ _) ?_; intro w3 x3; refine aA ?_
  refine_lift dA ?_
  go_ret
  exact ⟨rfl, hx2.trans x3⟩
 | true =>
  obtain ⟨fl, fb, fd, fo, fd2, fe⟩ := KJ hf
  have hfd := NJ hf
  refine_lift gX fun _ _ => ?_
  refine bH (enters_of Tryz.func14 rfl rfl) rfl rfl (MH o v l room _ hv2 (by omega) fb) ?_
  rintro e w3 (⟨hne, rfl, x3⟩ | ⟨h0, b, rfl, hJ⟩)
  ·refine ⟨_, rfl, ?_⟩
   refine aA ?_
   have hp3 := hp2.ext x3
   have hx3 := hx2.trans x3
   refine_lift gX fun _ _ => ?_
   refine aK (enters_of Tryz.func11 rfl rfl) rfl rfl (mQ o v l _ (hv2.ext x3) fb) ?_
   rintro _ w4 x4 ⟨y, rfl, oy⟩
   refine aA ?_
   refine_lift KY (fun hc _ _ _ => ?_) (fun _ _ hc _ _ => ?_) (fun _ _ hc _ _ _ => ?_)
   all_goals first
    | (exfalso; have hh := ‹(!decide (pM o l room = 0)) = false›; simp [hne] at hh; done)
    | skip
   refine aB (enters_of Tryz.func10 rfl rfl) rfl rfl (kZ _) ?_; intro w5 x5; refine aA ?_
   refine_lift dA ?_
   go_ret
   exact ⟨rfl, hx3.trans (x4.trans x5)⟩
  ·refine ⟨_, rfl, ?_⟩
   refine aA ?_
   have x3 := hJ.ext
   have hp3 := hp2.ext x3
   have hx3 := hx2.trans x3
   have hO := CQ h0
   have hz := hO.zone
   refine_lift gX fun _ _ => ?_
   refine aK (enters_of Tryz.func11 rfl rfl) rfl rfl (mQ o v l _ (hv2.ext x3) fb) ?_
   rintro _ w4 x4 ⟨y, rfl, oy⟩
   rw [fW hz]
   have hJ4 := hJ.grow x4
   have x34 := x3.trans x4
   have hp4 := hp2.ext x34
   have hv4 := hv2.ext x34
   refine aA ?_
   refine_lift gX fun _ _ => ?_
   refine aB (enters_of Tryz.func32 rfl rfl) rfl rfl (nW hJ4 fb fd) ?_; intro w5 x5; refine aA ?_
   have hJ5 := hJ4.grow x5
   have hS := yL hJ5 hO (by intro d hd; simp at hd) (aP o l).serial
   rw [HI] at hS
   refine aK (enters_of Tryz.func18 rfl rfl) rfl rfl hS ?_
   rintro _ w6 x6 ⟨mv, rfl, hm⟩
   refine aA ?_
   have x26 := x34.trans (x5.trans x6)
   have hx6 := hx2.trans x26
   have hp6 := hp2.ext x26
   have hv6 := hv2.ext x26
   have hy6 := oy.sl.ext (x5.trans x6)
   clear hp4 hv4 hp3 hp2 hv2 hS hJ5 hJ4 hJ oy hp
   have hA := fB o v l o y (bO o l) w6 hv6 hy6 fb hfd.2.1 (by have := hfd.1; omega) (zC hz hfd.1) (HJ hz hfd.2.2)
   rw [mP hz, if_pos ⟨hz.ne, HK _⟩] at hA
   refine_lift gX fun _ _ => ?_
   refine aK (enters_of Tryz.func21 rfl rfl) rfl rfl hA ?_
   rintro _ w7 x7 ⟨a, rfl, ha⟩
   refine aA ?_
   have ha1 : a.oneCell' = true := by obtain ⟨css, h, _⟩ := ha.sets; exact h.one
   refine_lift dA ?_
   refine aG (z := aM) rfl (by decide +kernel) ?_
   intro w8 x8 s8 h8
   refine aA ?_
   refine aC (v := .agg #[aI (ZE.bad 7).o, a]) rfl rfl rfl h8 (show aO Tryz.prog 25 2 = true by decide +kernel) rfl (bE ha1) ?_
   intro w9 p9
   have x9 : Ext w7 w9 := x8.move p9.mv (by rintro k ⟨⟩; exact Nat.le_refl _)
   have hq9 := aE (cs := [aI (ZE.bad 7).o, a]) p9.this
   clear p9 h8 x8 s8
   have x79 := x7.trans x9
   have hp9 := hp6.ext x79
   have hv9 := hv6.ext x79
   have hm9 := hm.ext x79
   have hx9 := hx6.trans x79
   have hB := fB o v l o mv [soaRec o l] w9 hv9 hm9 fb hfd.2.1 (by have := hfd.1; omega) (by simp) (by intro r hr; rw [List.mem_singleton.1 hr]; exact hfd.2.2 _ (cN hz).1)
   rw [yM hz] at hB
   clear hp6 hv6 hm hy6 ha hq9
   refine_lift gX fun _ _ => ?_
   refine aK (enters_of Tryz.func21 rfl rfl) rfl rfl hB ?_
   rintro _ w10 x10 ⟨b', rfl, hb⟩
   refine aA ?_
   have hb1 : b'.oneCell' = true := by obtain ⟨css, h, _⟩ := hb.sets; exact h.one
   refine_lift dA ?_
   refine aG (z := aM) rfl (by decide +kernel) ?_
   intro w11 x11 s11 h11
   refine aA ?_
   refine aC (v := .agg #[aI (ZE.bad 5).o, b']) rfl rfl rfl h11 (show aO Tryz.prog 25 2 = true by decide +kernel) rfl (bE hb1) ?_
   intro w12 p12
   have x12 : Ext w10 w12 := x11.move p12.mv (by rintro k ⟨⟩; exact Nat.le_refl _)
   have hq12 := aE (cs := [aI (ZE.bad 5).o, b']) p12.this
   clear p12 h11 x11 s11
   have x912 := x10.trans x12
   have hm12 := hm9.ext x912
   have hx12 := hx9.trans x912
   have e1 : (((aD [soaRec o l]).length : Nat) : Int) = 1 := rfl
   have e7 : (ZE.bad 7).e = 7 := rfl
   have e5 : (ZE.bad 5).e = 5 := rfl
   clear hB hp9 hv9 hm9 hb hq12
   refine_lift QO (fun hc hc hc => ?_) (fun hc hc => ?_) (fun hc => ?_) (fun _ _ hc hc hc => ?_)
   all_goals first
    | exact absurd e1 ‹_›
    | exact absurd e7 ‹_›
    | exact absurd e5 ‹_›
    | skip
   refine aB (enters_of Tryz.func10 rfl rfl) rfl rfl (kZ _) ?_; intro w13 x13; refine aA ?_
   refine_lift dA ?_
   go_ret
   exact ⟨rfl, hx12.trans x13⟩
end Go.Proofs.X
