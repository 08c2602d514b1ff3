/- Laws and walks that the proof of the statement is made of (part 10). -/
import Derived.Test.YtcabalnocddidaaGreatP9
set_option linter.unusedSimpArgs false
set_option linter.unusedVariables false
namespace Go.Proofs.X
open Go.RowKit
set_option maxRecDepth 100000
theorem CG (v : Value) (l : List Int) (x : Int) (w : World) (hv : Sl 1 w v (aZ l)) : Calls Tryz.prog 102 #[v, .int .i64 x] w (bU w (.bool (decide (x ∈ l)))) := by
 have hlen : (aZ l).length = l.length := List.length_map ..
 have hle := hv.le
 obtain ⟨a, cap, h1, h2, h3, h4, h5, h6⟩ := hv
 subst h1
 cases l with
 | nil =>
  refine (Tryz.slices_Contains_int_empty a cap x w).mono ?_
  rintro e w' ⟨rfl, rfl⟩
  exact ⟨rfl, Ext.refl _⟩
 | cons y l =>
  obtain ⟨b, o, rfl, hc⟩ := h6 (by simp [aZ])
  rw [hlen]
  refine (Tryz.slices_Contains_int b o (y :: l).length cap (y :: l) x w (Nat.le_refl _) (by omega) ?_).mono ?_
  ·intro j hj
   have := hc j [.int .i64 ((y :: l).getD j 0)] 0 (.int .i64 ((y :: l).getD j 0)) (by rw [aZ, List.getElem?_map, List.getElem?_eq_getElem hj]; simp [List.getD_eq_getElem?_getD, List.getElem?_eq_getElem hj]) rfl
   simpa using this
  ·rintro e w' ⟨rfl, rfl⟩
   exact ⟨by rw [List.take_length, List.contains_eq_mem], Ext.refl _⟩
theorem TaskV.away {w0 w w' : World} {b : Nat} {t : TaskR} {rv sv gv ev : Value} {row : Option Nat} (h : TaskV w0 w b t rv sv gv ev) (hs : t.stop = none) (hm : Mv row w w') (hg : ∀ c, row = some c → w0.heap.size ≤ c ∧ c ≠ b)
 (h1 : rv.ownBlock = none ∨ rv.ownBlock ≠ row) (h2 : gv.ownBlock = none ∨ gv.ownBlock ≠ row) (h3 : OwnOff w0.heap.size 1 3 w' sv (aZ t.servers)) : TaskV w0 w' b t rv sv gv ev := by
 refine ⟨h.ge, h.ext.move hm (fun k hk => (hg k hk).1), hm.at h.blk (fun e => (hg b e.symm).2 rfl), h.rs.mv hm h1, h3, h.gs.mv hm h2, ?_⟩
 have he := h.es
 rw [hs] at he ⊢
 exact he
theorem TaskV.swap {w0 w w1 w2 : World} {b : Nat} {t : TaskR} {rv sv sv' gv ev : Value} {row : Option Nat} {l : List Int} (h : TaskV w0 w b t rv sv gv ev) (hs : t.stop = none) (hm : Mv row w w1) (hg : ∀ c, row = some c → w0.heap.size ≤ c ∧ c ≠ b)
 (h1 : rv.ownBlock = none ∨ rv.ownBlock ≠ row) (h2 : gv.ownBlock = none ∨ gv.ownBlock ≠ row) (h3 : OwnOff w0.heap.size 1 3 w1 sv' (aZ l))
 (hp : Put w1 w2 b (.cells (bN { t with servers := l } rv sv' gv ev).toArray 99 (0, 0))) : TaskV w0 w2 b { t with servers := l } rv sv' gv ev := by
 have b1 := hm.at h.blk (fun e => (hg b e.symm).2 rfl)
 have r1 := h.rs.mv hm h1
 have g1 := h.gs.mv hm h2
 refine ⟨h.ge, (h.ext.move hm (fun k hk => (hg k hk).1)).move hp.mv (by rintro k ⟨⟩; exact h.ge), hp.this, r1.mv hp.mv (.inr (r1.neBlock b1 (by decide))), h3.mv hp.mv (.inr (h3.neBlock b1 (by decide))), g1.mv hp.mv (.inr (g1.neBlock b1 (by decide))), ?_⟩
 have he := h.es
 rw [hs] at he
 show StopV w0.heap.size w2 ev t.stop
 rw [hs]
 exact he
theorem nD {B k e : Nat} {w : World} {v u : Value} {es : List (List Value)} (h : Own B k e w v es) (hu : ∀ r, u.ownBlock = some r → w.heap.size ≤ r) : v.ownBlock = none ∨ v.ownBlock ≠ u.ownBlock := by
 cases hv : v.ownBlock with
 | none => exact .inl rfl
 | some r =>
  refine .inr fun e => ?_
  have := (h.block r hv).2
  have := hu r e.symm
  omega
theorem AN {css : List (List Value)} {w : World} {B : Nat} {u : Value} {m : List LrnR} (h2 : css.length = m.length) (h3 : ∀ (i : Nat) (s : LrnR), m[i]? = some s → ∃ x, css[i]? = some (oW s x) ∧ Sl 1 w x (aK s.set.data) ∧ From B x ∧ (s.set.data ≠ [] → mV x u)) : ∀ f ∈ css, ∀ u ∈ f, u.oneCell' = true := by
 intro f hf u hu
 obtain ⟨i, hi, rfl⟩ := List.mem_iff_getElem.1 hf
 obtain ⟨x, a, b, _⟩ := h3 i m[i] (List.getElem?_eq_getElem (by omega))
 rw [List.getElem?_eq_getElem hi] at a
 rw [Option.some.inj a] at hu
 simp only [oW, List.mem_cons, List.not_mem_nil, or_false] at hu
 rcases hu with rfl | rfl | rfl | rfl | rfl
 all_goals first | rfl | exact b.one
theorem Mv.fresh' {row row2 : Option Nat} {w w1 w2 : World} (h : Mv row w w1) (k : Mv row2 w1 w2) (hc : ∀ c, row2 = some c → w.heap.size ≤ c) : Mv row w w2 :=
 ⟨k.os.trans h.os, k.tape.trans h.tape, k.output.trans h.output, Nat.le_trans h.size k.size,
  fun j hj hn => by rw [k.block j (Nat.lt_of_lt_of_le hj h.size) (by intro e; have := hc j e.symm; omega), h.block j hj hn], Nat.le_trans h.drawn k.drawn⟩
theorem MapAt.mvr {P : Program} {kt : TypeId} {w w' : World} {m : Nat} {ents : List (Value × Value)} {row : Option Nat} {B k e : Nat} {v : Value} {es : List (List Value)} (h : MapAt P kt w m ents) (hm : Mv row w w') (ho : Own B k e w v es) (hr : row = v.ownBlock) : MapAt P kt w' m ents := by
 obtain ⟨es', ck, h1, _⟩ := h.out
 exact h.at fun o hh => hm.at hh (by rw [hr]; exact fun e => ho.neMap h1 e.symm)
structure RefIn (w0 w w1 w2 w5 : World) (M b : Nat) (t : TaskR) (m : MsgR) (q a u e nv rv gv ev : Value) (ns : List Rec) (s : RfrR) (lv : Value) (wr : World) : Prop where
 mv : Mv (some b) w wr
 tsk : ∃ sv, TaskV w0 wr b { t with servers := s.servers } rv sv gv ev ∧ Own w5.heap.size 1 3 wr sv (aZ s.servers) ∧ LrnsU w2.heap.size wr lv s.learnt sv
 seen : MapAt Tryz.prog 29 wr M (iO s.seen)
 ns : Own w1.heap.size 4 64 wr nv (aI ns)
 msg : wr.heap[w.heap.size]? = some (.cells (dF m q a u e).toArray 25 (0, 0))
 sz : w5.heap.size ≤ wr.heap.size
theorem RefIn.ext {w0 w w1 w2 w5 wr w' : World} {M b : Nat} {t : TaskR} {m : MsgR} {q a u e nv rv gv ev lv : Value} {ns : List Rec} {s : RfrR} (h : RefIn w0 w w1 w2 w5 M b t m q a u e nv rv gv ev ns s lv wr) (hx : Ext wr w') : RefIn w0 w w1 w2 w5 M b t m q a u e nv rv gv ev ns s lv w' := by
 obtain ⟨h1, ⟨sv, h2, h3, h4⟩, h5, h6, h7, h8⟩ := h
 exact ⟨h1.trans (hx.mv _), ⟨sv, h2.grow hx, h3.ext hx, h4.ext hx⟩, h5.at fun o ho => hx.at ho, h6.ext hx, hx.at h7, Nat.le_trans h8 hx.size⟩
set_option maxHeartbeats 2000000 in
theorem AO {w0 w : World} {b : Nat} {t : TaskR} (h : TaskAt w0 w b t) (m : MsgR) (q a u e : Value) (z : List UInt8) (hm : ∀ w', Mv (some b) w w' → MsgV w' m q a u e) (hs : t.stop = none) (h1 : m.au.length ≤ 300) (h2 : m.ex.length ≤ 300) (hd : ∀ r ∈ t.of m.au z 2, r.data.length ≤ 9223372036854775807) (he : ∀ n, ∀ r ∈ t.of m.ex n 1, r.data.length ≤ 9223372036854775807) :
 Calls Tryz.prog 49 #[.pointer (some ⟨b, 0, none⟩), .agg (dF m q a u e).toArray, aF z] w fun r w' => ∃ l, r = .returned l ∧ LrnsV w.heap.size w' l (t.refer m z).2 ∧ TaskAt w0 w' b (t.refer m z).1 ∧ Mv (some b) w w' := by
 obtain ⟨rv, sv, gv, ev, h⟩ := h
 rw [yZ]
 go_enter Tryz.func49, Tryz.ntmps49
 repeat' (first | ((with_reducible refine aG ?_); go_step) | fail)
 refine cQ (vs := dF m q a u e) rfl rfl ?_
 intro w1 x1 s1 hb1
 refine aA ?_
 have hp1 := aC (cs := dF m q a u e) hb1
 have hT1 := h.grow x1
 (repeat' first | ((with_reducible refine aG ?_); go_step) | ((with_reducible refine aE ?_); first | refine aL ?_ | (refine aJ ?_ ?_ <;> intro hc)) | fail)
 have hm1 := hm _ (x1.mv _)
 refine aM (enters_of Tryz.func45 rfl rfl) rfl rfl (wW ⟨_, _, _, _, hT1⟩ u m.au z 2 hm1.au (by omega)) ?_
 intro nv w2 x2 o2
 refine aA ?_
 have hns := fH t m.au z 2
 generalize hN : t.of m.au z 2 = ns at *
 have hT2 := hT1.grow x2
 have hb2 := x2.at hb1
 have s2 := o2.sl
 (repeat' first | ((with_reducible refine aG ?_); go_step) | ((with_reducible refine aE ?_); first | refine aL ?_ | (refine aJ ?_ ?_ <;> intro hc)) | fail)
 refine aM (enters_of Tryz.func47 rfl rfl) rfl rfl (kX nv ns 2 _ s2 (by omega)) ?_
 intro lv w3 x3 l3
 refine aA ?_
 have hT3 := hT2.grow x3
 have hb3 := x3.at hb2
 have o3 := o2.ext x3
 (repeat' first | ((with_reducible refine aG ?_); go_step) | ((with_reducible refine aE ?_); first | refine aL ?_ | (refine aJ ?_ ?_ <;> intro hc)) | fail)
 refine bF (n := 4) (v := .slice none 0 0) hT3.blk rfl rfl rfl (by simp [bN]) (by decide +kernel) rfl ?_
 intro w4 p4
 have p4' : Put w3 w4 b (.cells (bN { t with servers := [] } rv (.slice none 0 0) gv ev).toArray 99 (0, 0)) := p4
 obtain ⟨k1, k2, k3, k4⟩ := hT3.kept p4
 have hT4 := hT3.put p4' k1 (OwnOff.nil _ _ _ _) k3 k4
 clear p4'
 (repeat' first | ((with_reducible refine aG ?_); go_step) | ((with_reducible refine aE ?_); first | refine aL ?_ | (refine aJ ?_ ?_ <;> intro hc)) | fail)
 refine lZ (kt := 29) rfl ?_
 intro w5 x5 s5 hm5
 refine aA ?_
 have hT5 := hT4.grow x5
 have hbw := (Array.getElem?_eq_some_iff.1 h.blk).1
 have z1 := x1.size
 have z2 := x2.size
 have z3 := x3.size
 have z4 := p4.size
 have z5 := x5.size
 have o5 : Own w1.heap.size 4 64 w5 nv (aI ns) := (o3.mv p4.mv (.inr (o3.neBlock hT3.blk (by decide)))).ext x5
 have b5 := x5.at (p4.mv.at hb3 (by intro e; have := Option.some.inj e; omega))
 have l5 : LrnsV w2.heap.size w5 lv (cJ ns 2) := (l3.mvb p4.mv (by omega)).ext x5
 have m5 : Mv (some b) w w5 := (x1.mv _).trans ((x2.mv _).trans ((x3.mv _).trans (p4.mv.trans (x5.mv _))))
 have hnl := aU ns
 have hs5 := o5.sl
 have hT5' : TaskV w0 w5 b { t with servers := (cC t m.ex ns 0).servers } rv (.slice none 0 0) gv ev := hT5
 clear hT5 hT4 hT3 hT2 hT1 k1 k2 k3 k4 l3 o2 o3 hb1 hb2 hb3 hp1 s2
 (repeat' first | ((with_reducible refine aG ?_); go_step) | ((with_reducible refine aE ?_); first | refine aL ?_ | (refine aJ ?_ ?_ <;> intro hc)) | fail)
 have hI5 : RefIn w0 w w1 w2 w5 w4.heap.size b t m q a u e nv rv gv ev ns (cC t m.ex ns 0) lv w5 :=
  ⟨m5, ⟨_, hT5', Own.nil _ _ _ _, l5.apart⟩, hm5, o5, b5, Nat.le_refl _⟩
 go_loopw [8, 11, 12, 13, 14, 16, 17, 18, 32] (fun l _ _ _ _ _ _ _ i wr => ∃ k : Nat, k ≤ ns.length ∧ i = .int .i64 k ∧ RefIn w0 w w1 w2 w5 w4.heap.size b t m q a u e nv rv gv ev ns (cC t m.ex ns k) l wr) (fun _ _ _ _ _ _ _ _ i _ => ns.length - (intOf i).toNat)
 case atStart => exact ⟨0, Nat.zero_le _, rfl, hI5⟩
 case round =>
  obtain ⟨k, hk, rfl, hI⟩ := hrel
  have hsn := hI.ns.sl
  by_cases hlt : k < ns.length
  ·have hpe := hsn.elem (dE hlt)
   (repeat' first | ((with_reducible refine aG ?_); go_step) | ((with_reducible refine aE ?_); first | refine aL ?_ | (refine aJ ?_ ?_ <;> intro hc)) | fail)
   refine aH (z := dZ) rfl (by decide +kernel) ?_
   intro w6 x6 s6 h6
   refine aA ?_
   refine aD (v := .agg #[aF ns[k].name, .int .i64 ns[k].kind, .int .i64 ns[k].ttl, aF ns[k].data]) rfl rfl rfl h6 (show aN Tryz.prog 64 4 = true by decide +kernel) rfl (nN rfl rfl rfl rfl) ?_
   intro w7 p7
   have x7 : Ext wr w7 := x6.move p7.mv (by rintro k ⟨⟩; exact Nat.le_refl _)
   have hp7 := aC (cs := [aF ns[k].name, .int .i64 ns[k].kind, .int .i64 ns[k].ttl, aF ns[k].data]) p7.this
   have hI7 := hI.ext x7
   clear p7 h6 x6 hpe hsn
   (repeat' first | ((with_reducible refine aG ?_); go_step) | ((with_reducible refine aE ?_); first | refine aL ?_ | (refine aJ ?_ ?_ <;> intro hc)) | fail)
   refine aB (enters_of Tryz.func101 rfl rfl) rfl rfl (EI 2 ns[k].data _ (hd _ (List.getElem_mem hlt))) ?_; intro w8 x8; refine aA ?_
   have hI8 := hI7.ext x8
   (repeat' first | ((with_reducible refine aG ?_); go_step) | ((with_reducible refine aE ?_); first | refine aL ?_ | (refine aJ ?_ ?_ <;> intro hc)) | fail)
   refine aB (enters_of Tryz.func57 rfl rfl) rfl rfl (uY (bQ 2 ns[k].data).1 _) ?_; intro w9 x9; refine aA ?_
   have hI9 := hI8.ext x9
   have hst := sZ (t := t) (ex := m.ex) hlt
   have hlen := wX 2 ns[k].data
   have hol := qK t m.ex ns k hk
   unfold TaskR.refStep at hst
   dsimp only at hst
   generalize hnn : fold (bQ 2 ns[k].data).1 = n at *
   clear hI hI7 hI8
   (repeat' first | ((with_reducible refine aG ?_); go_step) | ((with_reducible refine aE ?_); first | refine aL ?_ | (refine aJ ?_ ?_ <;> intro hc)) | fail)
   obtain ⟨lx, hlx⟩ := AM n (by omega)
   have hzv : ∀ w, (zeroValue 4).run Tryz.prog w = .ok (.bool false) w := fun w => by kernel_rfl
   obtain ⟨bv, bb, hrl, hcase⟩ := eU vL (show jY Tryz.prog 165 29 4 = true by decide +kernel) hzv hI9.seen hlx false
   simp only [Bool.false_eq_true, if_false] at hrl
   refine bY rfl (Runs.lookup rfl rfl hrl) ?_
   refine aA ?_
   rcases hcase with ⟨i, hie, rfl⟩ | ⟨hno, rfl, rfl⟩
   ·obtain ⟨hin, rfl⟩ := wY hie
    have hst' : cC t m.ex ns (k + 1) = cC t m.ex ns k := by rw [hst, if_pos hin]
    (repeat' first | ((with_reducible refine aG ?_); go_step) | ((with_reducible refine aE ?_); first | refine aL ?_ | (refine aJ ?_ ?_ <;> intro hc)) | fail)
    exact ⟨⟨k + 1, by omega, by go_num, by rw [hst']; exact hI9⟩, by simp [intOf]; omega⟩
   ·have hni := yY hno
    rw [if_neg hni] at hst
    (repeat' first | ((with_reducible refine aG ?_); go_step) | ((with_reducible refine aE ?_); first | refine aL ?_ | (refine aJ ?_ ?_ <;> intro hc)) | fail)
    obtain ⟨w10, o10, hr10, p10, hm10⟩ := hY vL (show jY Tryz.prog 165 29 4 = true by decide +kernel) hI9.seen hlx (v := .bool true) hno
    refine iU rfl rfl rfl rfl hr10 ?_
    obtain ⟨es, ck, hme, _⟩ := hI9.seen.out
    obtain ⟨g1, ⟨sv9, g2, g3, g4⟩, g5, g6, g7, g8⟩ := hI9
    have hne9 : some w.heap.size ≠ some w4.heap.size := by intro e; have := Option.some.inj e; omega
    have hT10 : TaskV w0 w10 b { t with servers := (cC t m.ex ns k).servers } rv sv9 gv ev := g2.away hs p10.mv (by rintro c ⟨⟩; have := h.ext.size; exact ⟨by omega, by omega⟩) (.inr (g2.rs.neMap hme)) (.inr (g2.gs.neMap hme)) ((g3.mv p10.mv (.inr (g3.neMap hme))).off.weaken (by have := h.ext.size; omega))
    have hI10 : RefIn w0 w w1 w2 w5 w4.heap.size b t m q a u e nv rv gv ev ns ⟨(cC t m.ex ns k).seen ++ [n], (cC t m.ex ns k).servers, (cC t m.ex ns k).learnt⟩ u8 w10 :=
     ⟨g1.fresh p10.mv (by omega), ⟨sv9, hT10, g3.mv p10.mv (.inr (g3.neMap hme)), g4.mvo p10.mv hme (by intro _ _ _ e; cases e)⟩, by simpa [iO] using hm10, g6.mv p10.mv (.inr (g6.neMap hme)), p10.mv.at g7 hne9, Nat.le_trans g8 p10.mv.size⟩
    clear g1 g2 g3 g4 g5 g6 g7 g8 hT10 hm10 hme hrl hno
    have hb10 := hI10.msg
    have hp10 := aC (cs := dF m q a u e) hb10
    have hm10 := hm _ hI10.mv
    obtain ⟨sv10, hT10, _, _⟩ := hI10.tsk
    (repeat' first | ((with_reducible refine aG ?_); go_step) | ((with_reducible refine aE ?_); first | refine aL ?_ | (refine aJ ?_ ?_ <;> intro hc)) | fail)
    refine aM (enters_of Tryz.func45 rfl rfl) rfl rfl (wW ⟨_, _, _, _, hT10⟩ e m.ex n 1 hm10.ex (by omega)) ?_
    intro av w11 x11 o11
    refine aA ?_
    change Own w10.heap.size 4 64 w11 av (aI (t.of m.ex n 1)) at o11
    have hAl := fH t m.ex n 1
    have hda := he n
    generalize hA : t.of m.ex n 1 = A at *
    have hI11 := hI10.ext x11
    have s11 := o11.sl
    (repeat' first | ((with_reducible refine aG ?_); go_step) | ((with_reducible refine aE ?_); first | refine aL ?_ | (refine aJ ?_ ?_ <;> intro hc)) | fail)
    refine aM (enters_of Tryz.func47 rfl rfl) rfl rfl (kX av A 1 _ s11 (by omega)) ?_
    intro lw w12 x12 l12
    refine aA ?_
    have o12 := o11.ext x12
    obtain ⟨g1, ⟨sv12, g2, g3, g4⟩, g5, g6, g7, g8⟩ := hI11
    have hz11 : w5.heap.size ≤ w11.heap.size := g8
    have hsv : ∀ r, sv12.ownBlock = some r → r < w11.heap.size := fun r hr => (g3.block r hr).2
    have hu8 : ∀ r, u8.ownBlock = some r → w2.heap.size ≤ r ∧ r < w11.heap.size := fun r hr => by
     obtain ⟨cs', i5, _⟩ := g4
     exact i5.block r hr
    have g1 := g1.trans (x12.mv _)
    have g2 := g2.grow x12
    have g3 := g3.ext x12
    have g4 := g4.ext x12
    have g5 := g5.at (fun o ho => x12.at ho)
    have g6 := g6.ext x12
    have g7 := x12.at g7
    have g8 := Nat.le_trans g8 x12.size
    obtain ⟨css, c1, c2, c3⟩ := g4
    obtain ⟨css2, d1, d2, d3⟩ := l12
    have hl3 := jS A 1
    have hkm : k * m.ex.length ≤ 300 * 300 := Nat.mul_le_mul (by omega) h2
    dsimp only at c2
    refine eG (v0 := u8) (es := css) (fs := css2) rfl c1 rfl d1.sl (AN d2 d3) (by omega) (by omega) ?_
    intro v13 w13 o13 m13 hk13
    refine aA ?_
    have hU13 : LrnsU w2.heap.size w13 v13 ((cC t m.ex ns k).learnt ++ cJ A 1) sv12 := LrnsU.append (by omega) c1 c2 c3 d2 d3 (fun r hr => (hu8 r hr).2) hsv o13 m13 hk13
    have hT13 : TaskV w0 w13 b { t with servers := (cC t m.ex ns k).servers } rv sv12 gv ev := g2.away hs m13 (by intro c hc; have := hu8 c hc; have := h.ext.size; exact ⟨by omega, by omega⟩) (nD h.rs (fun r hr => by have := hu8 r hr; omega)) (nD h.gs (fun r hr => by have := hu8 r hr; omega)) ((g3.mv m13 (g3.ne c1 (by decide))).off.weaken (by have := h.ext.size; omega))
    have hI13 : RefIn w0 w w1 w2 w5 w4.heap.size b t m q a u e nv rv gv ev ns ⟨(cC t m.ex ns k).seen ++ [n], (cC t m.ex ns k).servers, (cC t m.ex ns k).learnt ++ cJ A 1⟩ v13 w13 :=
     ⟨g1.fresh' m13 (fun c hc => by have := hu8 c hc; omega), ⟨sv12, hT13, g3.mv m13 (g3.ne c1 (by decide)), hU13⟩, g5.mvr m13 c1 rfl, g6.mv m13 (g6.ne c1 (by decide)), m13.at g7 (by intro e; have := hu8 _ e.symm; omega), Nat.le_trans g8 m13.size⟩
    have o13' := o12.mv m13 (o12.ne c1 (by decide))
    have s13 := o13'.sl
    clear g1 g2 g3 g5 g6 g7 g8 c1 c2 c3 d1 d2 d3 hU13 hT13 o12 o11 s11 hI10 hT10 hm10 hp10 hb10 o13 m13 hk13 hu8 hsv
    have hcA := aU A
    (repeat' first | ((with_reducible refine aG ?_); go_step) | ((with_reducible refine aE ?_); first | refine aL ?_ | (refine aJ ?_ ?_ <;> intro hc)) | fail)
    go_loopw [16, 17, 18, 60] (fun _ _ _ i wr => ∃ j : Nat, j ≤ A.length ∧ i = .int .i64 j ∧ RefIn w0 w w1 w2 w5 w4.heap.size b t m q a u e nv rv gv ev ns ⟨(cC t m.ex ns k).seen ++ [n], dX (cC t m.ex ns k).servers (A.take j), (cC t m.ex ns k).learnt ++ cJ A 1⟩ v13 wr ∧ Own w10.heap.size 4 64 wr av (aI A)) (fun _ _ _ i _ => A.length - (intOf i).toNat)
    case atStart => exact ⟨0, Nat.zero_le _, rfl, hI13, o13'⟩
    case round =>
     obtain ⟨j, hj, rfl, hJ, ho⟩ := hrel
     have hsa := ho.sl
     by_cases hlt2 : j < A.length
     ·have hpe := hsa.elem (dE hlt2)
      (repeat' first | ((with_reducible refine aG ?_); go_step) | ((with_reducible refine aE ?_); first | refine aL ?_ | (refine aJ ?_ ?_ <;> intro hc)) | fail)
      refine aH (z := dZ) rfl (by decide +kernel) ?_
      intro w14 x14 s14 h14
      refine aA ?_
      refine aD (v := .agg #[aF A[j].name, .int .i64 A[j].kind, .int .i64 A[j].ttl, aF A[j].data]) rfl rfl rfl h14 (show aN Tryz.prog 64 4 = true by decide +kernel) rfl (nN rfl rfl rfl rfl) ?_
      intro w15 p15
      have x15 : Ext wr w15 := x14.move p15.mv (by rintro k ⟨⟩; exact Nat.le_refl _)
      have hp15 := aC (cs := [aF A[j].name, .int .i64 A[j].kind, .int .i64 A[j].ttl, aF A[j].data]) p15.this
      have hJ15 := hJ.ext x15
      have ho15 := ho.ext x15
      clear p15 h14 x14 hpe hsa hJ ho
      (repeat' first | ((with_reducible refine aG ?_); go_step) | ((with_reducible refine aE ?_); first | refine aL ?_ | (refine aJ ?_ ?_ <;> intro hc)) | fail)
      have hN := fun w => CF A[j].data w (hda _ (List.getElem_mem hlt2))
      have hnt := uD (s := (cC t m.ex ns k).servers) hlt2
      cases hnd : gX A[j].data with
      | none =>
       rw [hnd] at hnt hN
       dsimp only at hnt
       simp only [Option.getD_none, Option.isSome_none] at hN
       refine aB (enters_of Tryz.func17 rfl rfl) rfl rfl (hN _) ?_; intro w16 x16; refine aA ?_
       have hJ16 := hJ15.ext x16
       have ho16 := ho15.ext x16
       clear hJ15 ho15 hp15
       (repeat' first | ((with_reducible refine aG ?_); go_step) | ((with_reducible refine aE ?_); first | refine aL ?_ | (refine aJ ?_ ?_ <;> intro hc)) | fail)
       exact ⟨⟨j + 1, by omega, by go_num, by rw [hnt]; exact hJ16, ho16⟩, by simp [intOf]; omega⟩
      | some x =>
       rw [hnd] at hnt hN
       dsimp only at hnt
       simp only [Option.getD_some, Option.isSome_some] at hN
       refine aB (enters_of Tryz.func17 rfl rfl) rfl rfl (hN _) ?_; intro w16 x16; refine aA ?_
       have hJ16 := hJ15.ext x16
       have ho16 := ho15.ext x16
       clear hJ15 ho15 hp15
       obtain ⟨g1, ⟨sv16, g2, g3, g4⟩, g5, g6, g7, g8⟩ := hJ16
       have hp16 := aC (cs := bN { t with servers := dX (cC t m.ex ns k).servers (A.take j) } rv sv16 gv ev) g2.blk
       dsimp only at g2 g3 g4 g5 g6 g7
       have hsv16 := g3.sl
       have hcon := fun w (h : Sl 1 w sv16 (aZ (dX (cC t m.ex ns k).servers (A.take j)))) => CG sv16 _ x w h
       have hnl2 := qJ (cC t m.ex ns k).servers (A.take j)
       rw [List.length_take] at hnl2
       have hkm2 : k * m.ex.length ≤ 300 * 300 := Nat.mul_le_mul (by omega) h2
       generalize dX (cC t m.ex ns k).servers (A.take j) = S at *
       by_cases hin : x ∈ S
       ·rw [if_pos hin] at hnt
        rw [decide_eq_true hin] at hcon
        (repeat' first | ((with_reducible refine aG ?_); go_step) | ((with_reducible refine aE ?_); first | refine aL ?_ | (refine aJ ?_ ?_ <;> intro hc)) | fail)
        refine aB (enters_of Tryz.func102 rfl rfl) rfl rfl (hcon _ hsv16) ?_; intro w17 x17; refine aA ?_
        (repeat' first | ((with_reducible refine aG ?_); go_step) | ((with_reducible refine aE ?_); first | refine aL ?_ | (refine aJ ?_ ?_ <;> intro hc)) | fail)
        exact ⟨⟨j + 1, by omega, by go_num, by rw [hnt]; exact RefIn.ext ⟨g1, ⟨sv16, g2, g3, g4⟩, g5, g6, g7, g8⟩ x17, ho16.ext x17⟩, by simp [intOf]; omega⟩
       ·rw [if_neg hin] at hnt
        rw [decide_eq_false hin] at hcon
        (repeat' first | ((with_reducible refine aG ?_); go_step) | ((with_reducible refine aE ?_); first | refine aL ?_ | (refine aJ ?_ ?_ <;> intro hc)) | fail)
        refine aB (enters_of Tryz.func102 rfl rfl) rfl rfl (hcon _ hsv16) ?_; intro w17 x17; refine aA ?_
        have hp17 := hp16.ext x17
        obtain ⟨g1, g2, g3, g4, g5, g6, g7, g8⟩ : _ ∧ _ ∧ _ ∧ _ ∧ _ ∧ _ ∧ _ ∧ _ := ⟨g1.trans (x17.mv _), g2.grow x17, g3.ext x17, g4.ext x17, g5.at (fun o ho => x17.at ho), g6.ext x17, x17.at g7, Nat.le_trans g8 x17.size⟩
        have ho17 := ho16.ext x17
        clear hp16 hsv16
        have hcs : (aZ S).length = S.length := List.length_map ..
        (repeat' first | ((with_reducible refine aG ?_); go_step) | ((with_reducible refine aE ?_); first | refine aL ?_ | (refine aJ ?_ ?_ <;> intro hc)) | fail)
        refine cD (k := 1) (e := 3) (bytes := 8) (xs := [.int .i64 x]) (parts := [(0, .tmp 85)]) rfl rfl rfl (by simp [Value.cells]) (by decide +kernel) (by simp) ?_
        intro s18 w18 x18 _ sl18 _
        refine aA ?_
        obtain ⟨g1, g2, g3, g4, g5, g6, g7, g8⟩ : _ ∧ _ ∧ _ ∧ _ ∧ _ ∧ _ ∧ _ ∧ _ := ⟨g1.trans (x18.mv _), g2.grow x18, g3.ext x18, g4.ext x18, g5.at (fun o ho => x18.at ho), g6.ext x18, x18.at g7, Nat.le_trans g8 x18.size⟩
        have ho18 := ho17.ext x18
        refine eG (v0 := sv16) (es := aZ S) (fs := [[.int .i64 x]]) rfl g3 rfl sl18 (by intro f hf u hu; simp at hf; subst hf; simp at hu; subst hu; rfl) g8 (by simp [aZ]; omega) ?_
        intro sv19 w19 o19 m19 hk19
        refine aA ?_
        have hsvb : ∀ r, sv16.ownBlock = some r → w5.heap.size ≤ r := fun r hr => (g3.block r hr).1
        have o19' : Own w5.heap.size 1 3 w19 sv19 (aZ (S ++ [x])) := by simpa [aZ] using o19
        have hgc : ∀ c, sv16.ownBlock = some c → w0.heap.size ≤ c ∧ c ≠ b := by intro c hc; have := hsvb c hc; have := h.ext.size; exact ⟨by omega, by omega⟩
        have b19 := m19.at g2.blk (fun e => (hgc b e.symm).2 rfl)
        (repeat' first | ((with_reducible refine aG ?_); go_step) | ((with_reducible refine aE ?_); first | refine aL ?_ | (refine aJ ?_ ?_ <;> intro hc)) | fail)
        refine bF (n := 4) (v := sv19) b19 rfl rfl rfl (by simp [bN]) (by decide +kernel) o19'.one ?_
        intro w20 p20
        have hT20 := g2.swap (l := S ++ [x]) hs m19 hgc (nD h.rs (fun r hr => by have := hsvb r hr; omega)) (nD h.gs (fun r hr => by have := hsvb r hr; omega)) (o19'.off.weaken (by have := h.ext.size; omega)) p20
        have z19 := m19.size
        have o20 := o19'.mv p20.mv (.inr (o19'.neBlock b19 (by decide)))
        have hl4 : v13.ownBlock = none ∨ v13.ownBlock ≠ sv16.ownBlock := by
         obtain ⟨cs', i5, _⟩ := g4
         exact i5.ne g3 (by decide)
        have hJ20 : RefIn w0 w w1 w2 w5 w4.heap.size b t m q a u e nv rv gv ev ns ⟨(cC t m.ex ns k).seen ++ [n], S ++ [x], (cC t m.ex ns k).learnt ++ cJ A 1⟩ v13 w20 :=
         ⟨(g1.fresh' m19 (fun c hc => by have := hsvb c hc; omega)).trans p20.mv, ⟨sv19, hT20, o20, (g4.grow m19 hk19 hl4).mvb p20.mv (by omega)⟩, (g5.mvr m19 g3 rfl).at (fun o ho => p20.mv.at ho (by intro e; have := Option.some.inj e; omega)), (g6.mv m19 (g6.ne g3 (by decide))).mv p20.mv (.inr ((g6.mv m19 (g6.ne g3 (by decide))).neBlock b19 (by decide))), p20.mv.at (m19.at g7 (by intro e; have := hsvb _ e.symm; omega)) (by intro e; have := Option.some.inj e; omega), by have := p20.size; omega⟩
        have ho19 := ho18.mv m19 (ho18.ne g3 (by decide))
        have ho20 := ho19.mv p20.mv (.inr (ho19.neBlock b19 (by decide)))
        (repeat' first | ((with_reducible refine aG ?_); go_step) | ((with_reducible refine aE ?_); first | refine aL ?_ | (refine aJ ?_ ?_ <;> intro hc)) | fail)
        exact ⟨⟨j + 1, by omega, by go_num, by rw [hnt]; exact hJ20, ho20⟩, by simp [intOf]; omega⟩
     ·have : j = A.length := by omega
      subst this
      rw [List.take_length] at hJ
      (repeat' first | ((with_reducible refine aG ?_); go_step) | ((with_reducible refine aE ?_); first | refine aL ?_ | (refine aJ ?_ ?_ <;> intro hc)) | fail)
      exact ⟨⟨k + 1, by omega, by go_num, by rw [hst]; exact hJ⟩, by simp [intOf]; omega⟩
  ·have : k = ns.length := by omega
   subst this
   obtain ⟨g1, ⟨svz, g2, g3, g4⟩, g5, g6, g7, g8⟩ := hI
   (repeat' first | ((with_reducible refine aG ?_); go_step) | ((with_reducible refine aE ?_); first | refine aL ?_ | (refine aJ ?_ ?_ <;> intro hc)) | fail)
   refine bF (n := 3) (v := aF z) g2.blk rfl rfl rfl (by simp [bN]) (by decide +kernel) rfl ?_
   intro w20 p20
   have p20' : Put wr w20 b (.cells (bN { t with servers := (cC t m.ex ns ns.length).servers, zone := z } rv svz gv ev).toArray 99 (0, 0)) := p20
   obtain ⟨k1, k2, k3, k4⟩ := g2.kept p20
   have hT20 := g2.put p20' k1 k2 k3 k4
   have hl20 := (g4.mvb p20.mv (by omega)).lrns.weaken (show w.heap.size ≤ w2.heap.size by omega)
   have hm20 := g1.trans p20.mv
   clear p20' k1 k2 k3 k4 g4
   (repeat' first | ((with_reducible refine aG ?_); go_step) | ((with_reducible refine aE ?_); first | refine aL ?_ | (refine aJ ?_ ?_ <;> intro hc)) | fail)
   go_ret
   exact ⟨_, rfl, by rw [hN]; exact hl20, by rw [hN]; exact ⟨_, _, _, _, hT20⟩, hm20⟩
def TRet (w0 w : World) (b : Nat) (r : TaskR × ActR) (e : Ending) (w' : World) : Prop := ∃ u, e = .returned u ∧ ActRet w0 b r u w' ∧ Mv (some b) w w'
theorem TaskV.neBox {w0 w : World} {b : Nat} {t : TaskR} {rv sv gv ev : Value} (h : TaskV w0 w b t rv sv gv ev) : some w.heap.size ≠ some b := by
 intro e
 have e1 := Option.some.inj e
 have e2 := (Array.getElem?_eq_some_iff.1 h.blk).1
 omega
theorem TRet.box {w0 w w1 w2 : World} {b c : Nat} {r : TaskR × ActR} {u : Value} (hu : ActRet w0 b r u w1) (hm : Mv (some b) w w1) (hc : w1.heap[c]? = some (.cells bT.toArray 33 (0, 0))) (hg : w.heap.size ≤ c) (h0 : w0.heap.size ≤ w.heap.size)
 (hp : Put w1 w2 c (.cells u.cells 33 (0, 0))) : ∃ u1 u2, u = .agg (bG r.2 u1 u2).toArray ∧ TRet w0 w b r (.returned (.agg (bG r.2 u1 u2).toArray)) w2 := by
 obtain ⟨u1, u2, e, q1, q2⟩ := (hu.1.put hp hc (by decide)).out
 obtain ⟨rv, sv, gv, ev, hT⟩ := hu.2
 exact ⟨u1, u2, e, _, rfl, ⟨⟨u1, u2, rfl, q1, q2⟩, rv, sv, gv, ev, hT.other hp hc (Nat.le_trans h0 hg)⟩, hm.fresh hp.mv hg⟩
set_option maxHeartbeats 1000000 in
theorem rB {w0 w : World} {b : Nat} {t : TaskR} {rv sv gv ev : Value} (h : TaskV w0 w b t rv sv gv ev) (code : Int) (v1 v2 : Value) (ans auth : List Rec) (o1 : Own w0.heap.size 4 64 w v1 (aI ans)) (o2 : Own w0.heap.size 4 64 w v2 (aI auth)) (h1' : ans.length ≤ 1000000) (h2' : auth.length ≤ 1000000) :
 Calls Tryz.prog 46 #[.pointer (some ⟨b, 0, none⟩), .int .i64 code, v1, v2] w (TRet w0 w b (t.done code ans auth)) := by
 have hp := aC (cs := bN t rv sv gv ev) h.blk
 go_enter Tryz.func46, Tryz.ntmps46
 (repeat' first | ((with_reducible refine aG ?_); go_step) | ((with_reducible refine aE ?_); first | refine aL ?_ | (refine aJ ?_ ?_ <;> intro hc)) | fail)
 refine aH (z := bT) rfl (by decide +kernel) ?_
 intro w1 x1 s1 h1
 refine aA ?_
 have hp1 := hp.ext x1
 (repeat' first | ((with_reducible refine aG ?_); go_step) | ((with_reducible refine aE ?_); first | refine aL ?_ | (refine aJ ?_ ?_ <;> intro hc)) | fail)
 refine bY (v := .agg (bG ⟨2, 0, [], 0, code, ans, auth⟩ v1 v2).toArray) rfl (Runs.build (vals := [(0, .int .i64 2), (3, .int .i64 code), (4, v1), (5, v2)]) rfl (by obtain ⟨_, _, _, rfl⟩ := o1.sl.slf; obtain ⟨_, _, _, rfl⟩ := o2.sl.slf; kernel_rfl)) ?_
 refine aA ?_
 refine cQ (vs := bG ⟨2, 0, [], 0, code, ans, auth⟩ v1 v2) rfl rfl ?_
 intro w2 x2 s2 h2
 refine aA ?_
 have hx2 := x1.trans x2
 have hp2 := hp1.ext x2
 have hh := h.grow hx2
 (repeat' first | ((with_reducible refine aG ?_); go_step) | ((with_reducible refine aE ?_); first | refine aL ?_ | (refine aJ ?_ ?_ <;> intro hc)) | fail)
 refine bF (n := 8) (v := .pointer (some ⟨w1.heap.size, 0, none⟩)) hh.blk rfl rfl rfl (by simp [bN]) (by decide +kernel) rfl ?_
 intro w3 p3
 have p3' : Put w2 w3 b (.cells (bN { t with stop := some ⟨2, 0, [], 0, code, ans, auth⟩ } rv sv gv (.pointer (some ⟨w1.heap.size, 0, none⟩))).toArray 99 (0, 0)) := p3
 obtain ⟨k1, k2, k3, -⟩ := hh.kept p3
 have hnb : some w.heap.size ≠ some b := by
  intro e
  have e1 := Option.some.inj e
  have e2 := (Array.getElem?_eq_some_iff.1 h.blk).1
  omega
 have hne : some w1.heap.size ≠ some b := by
  intro e
  have e1 := Option.some.inj e
  have e2 := hh.blk
  rw [← e1, h2] at e2
  simp only [Option.some.injEq, Obj.cells.injEq] at e2
  exact absurd e2.2.1 (by decide)
 have hT : TaskV w0 w3 b { t with stop := some ⟨2, 0, [], 0, code, ans, auth⟩ } rv sv gv (.pointer (some ⟨w1.heap.size, 0, none⟩)) :=
  hh.put p3' k1 k2 k3 ⟨w1.heap.size, v1, v2, rfl, Nat.le_trans h.ext.size x1.size, p3.mv.at h2 hne, (o1.ext hx2).mv p3.mv (.inr ((o1.ext hx2).neBlock hh.blk (by decide))), (o2.ext hx2).mv p3.mv (.inr ((o2.ext hx2).neBlock hh.blk (by decide))), rfl⟩
 clear p3'
 (repeat' first | ((with_reducible refine aG ?_); go_step) | ((with_reducible refine aE ?_); first | refine aL ?_ | (refine aJ ?_ ?_ <;> intro hc)) | fail)
 refine aM (enters_of Tryz.func43 rfl rfl) rfl rfl (kW ⟨_, _, _, _, hT⟩ rfl h1' h2') ?_
 intro u w4 x4 hu
 refine aA ?_
 have h14 := x4.at (p3.mv.at (x2.at h1) hnb)
 refine aD (v := u) rfl rfl rfl h14 (by rw [hu.1.size]; exact (show aN Tryz.prog 33 7 = true by decide +kernel)) (by rw [hu.1.size]; rfl) hu.1.one ?_
 intro w5 p5
 obtain ⟨u1, u2, rfl, hr⟩ := TRet.box hu ((hx2.mv _).trans (p3.mv.trans (x4.mv _))) h14 (Nat.le_refl _) h.ext.size p5
 (repeat' first | ((with_reducible refine aG ?_); go_step) | ((with_reducible refine aE ?_); first | refine aL ?_ | (refine aJ ?_ ?_ <;> intro hc)) | fail)
 exact bodyPost_ret (bV (cs := bG ⟨2, 0, [], 0, code, ans, auth⟩ u1 u2) rfl rfl p5.this (show bK Tryz.prog 33 7 = true by decide +kernel)) rfl hr
set_option maxHeartbeats 1000000 in
theorem vM {w0 w : World} {b : Nat} {t : TaskR} (h : TaskAt w0 w b t) : Calls Tryz.prog 100 #[.pointer (some ⟨b, 0, none⟩)] w (TRet w0 w b (t.done 2 [] [])) := by
 obtain ⟨rv, sv, gv, ev, h⟩ := h
 go_enter Tryz.func100, Tryz.ntmps100
 (repeat' first | ((with_reducible refine aG ?_); go_step) | ((with_reducible refine aE ?_); first | refine aL ?_ | (refine aJ ?_ ?_ <;> intro hc)) | fail)
 refine aH (z := bT) rfl (by decide +kernel) ?_
 intro w1 x1 s1 h1
 refine aA ?_
 (repeat' first | ((with_reducible refine aG ?_); go_step) | ((with_reducible refine aE ?_); first | refine aL ?_ | (refine aJ ?_ ?_ <;> intro hc)) | fail)
 refine aO (vs := [.pointer (some ⟨b, 0, none⟩), .int .i64 2, .slice none 0 0, .slice none 0 0]) (enters_of Tryz.func46 rfl rfl) rfl rfl (rB (h.grow x1) 2 (.slice none 0 0) (.slice none 0 0) [] [] (Own.nil _ _ _ _) (Own.nil _ _ _ _) (by decide) (by decide)) ?_
 rintro e w4 ⟨u, rfl, hu, hm⟩
 refine ⟨_, rfl, ?_⟩
 refine aA ?_
 have h14 := hm.at h1 h.neBox
 refine aD (v := u) rfl rfl rfl h14 (by rw [hu.1.size]; exact (show aN Tryz.prog 33 7 = true by decide +kernel)) (by rw [hu.1.size]; rfl) hu.1.one ?_
 intro w5 p5
 obtain ⟨u1, u2, rfl, hr⟩ := TRet.box hu ((x1.mv _).trans hm) h14 (Nat.le_refl _) h.ext.size p5
 (repeat' first | ((with_reducible refine aG ?_); go_step) | ((with_reducible refine aE ?_); first | refine aL ?_ | (refine aJ ?_ ?_ <;> intro hc)) | fail)
 exact bodyPost_ret (bV (cs := bG (t.done 2 [] []).2 u1 u2) rfl rfl p5.this (show bK Tryz.prog 33 7 = true by decide +kernel)) rfl hr
set_option maxHeartbeats 1000000 in
theorem zC {w0 w : World} {b : Nat} {t : TaskR} (h : TaskAt w0 w b t) (h0 : 0 ≤ t.left) (h1 : t.left ≤ 1000000) : Calls Tryz.prog 50 #[.pointer (some ⟨b, 0, none⟩)] w (TRet w0 w b t.on) := by
 have hA := h
 obtain ⟨rv, sv, gv, ev, h⟩ := h
 have hp := aC (cs := bN t rv sv gv ev) h.blk
 have hsl := h.ss.sl
 have hle := hsl.le
 have hil : (aZ t.servers).length = t.servers.length := List.length_map ..
 go_enter Tryz.func50, Tryz.ntmps50
 (repeat' first | ((with_reducible refine aG ?_); go_step) | ((with_reducible refine aE ?_); first | refine aL ?_ | (refine aJ ?_ ?_ <;> intro hc)) | fail)
 refine aH (z := bT) rfl (by decide +kernel) ?_
 intro w1 x1 s1 hb1
 refine aA ?_
 have hp1 := hp.ext x1
 have hsl1 := hsl.ext x1
 by_cases hz : t.servers = [] ∨ t.left = 0
 ·have hE : t.on = t.done 2 [] [] := by
   unfold TaskR.on
   split
   ·rfl
   ·rename_i hs
    rw [if_pos (hz.resolve_left (by rw [hs]; simp))]
  (repeat' first | ((with_reducible refine aG ?_); go_step) | ((with_reducible refine aE ?_); first | refine aL ?_ | (refine aJ ?_ ?_ <;> intro hc)) | fail)
  all_goals first
   | (exfalso; rcases hz with hz | hz; (have h5 : t.servers.length = 0 := by rw [hz]; rfl); omega; omega)
   | skip
  all_goals (
   refine aO (vs := [.pointer (some ⟨b, 0, none⟩)]) (enters_of Tryz.func100 rfl rfl) rfl rfl (vM (hA.grow x1)) ?_
   rintro e w4 ⟨u, rfl, hu, hm⟩
   refine ⟨_, rfl, ?_⟩
   refine aA ?_
   have h14 := hm.at hb1 h.neBox
   refine aD (v := u) rfl rfl rfl h14 (by rw [hu.1.size]; exact (show aN Tryz.prog 33 7 = true by decide +kernel)) (by rw [hu.1.size]; rfl) hu.1.one ?_
   intro w5 p5
   obtain ⟨u1, u2, rfl, hr⟩ := TRet.box hu ((x1.mv _).trans hm) h14 (Nat.le_refl _) h.ext.size p5
   (repeat' first | ((with_reducible refine aG ?_); go_step) | ((with_reducible refine aE ?_); first | refine aL ?_ | (refine aJ ?_ ?_ <;> intro hc)) | fail)
   exact bodyPost_ret (bV (cs := bG (t.done 2 [] []).2 u1 u2) rfl rfl p5.this (show bK Tryz.prog 33 7 = true by decide +kernel)) rfl (by rw [hE]; exact hr))
 ·cases hs : t.servers with
  | nil => exact absurd (.inl hs) hz
  | cons s rest =>
   have hl : ¬ t.left = 0 := fun e => hz (.inr e)
   have hE : t.on = ({ t with servers := rest, left := t.left - 1 }, ⟨1, s, t.qn, t.qt, 0, [], []⟩) := by
    unfold TaskR.on
    rw [hs]
    exact if_neg hl
   have hpe := hsl1.elem (i := 0) (e := [.int .i64 s]) (by rw [hs]; rfl)
   have hil2 : (aZ t.servers).length = rest.length + 1 := by rw [hil, hs]; rfl
   have hh1 := h.grow x1
   (repeat' first | ((with_reducible refine aG ?_); go_step) | ((with_reducible refine aE ?_); first | refine aL ?_ | (refine aJ ?_ ?_ <;> intro hc)) | fail)
   all_goals first
    | (exfalso; omega)
    | skip
   refine cZ 12 (Ext w1) (by decide +kernel) ?_
   intro w2 x2 _
   refine ⟨x2, ?_⟩
   refine iV 0 ?_; refine iV 1 ?_; refine iV 2 ?_; refine iV 3 ?_; refine iV 4 ?_; refine iV 5 ?_; refine iV 6 ?_; refine iV 7 ?_; refine iV 8 ?_
   have hq1 : Pts w1 (bA (.pointer (some ⟨b, 0, none⟩)) 0) [aF t.qn, .int .i64 t.qt] := (hp1.part 0).front 2
   refine aW (i := 9) (v := .agg #[aF t.qn, .int .i64 t.qt]) rfl rfl rfl (by decide +kernel) (by decide +kernel) (by decide +kernel) (by decide +kernel) rfl (fun w' c => Runs.loadN (hq1.ext c) rfl (show bK Tryz.prog 31 2 = true by decide +kernel)) (fun _ _ _ h => h) ?_
   refine aA ?_
   refine aW (i := 10) (v := .agg (bG ⟨1, s, t.qn, t.qt, 0, [], []⟩ (.slice none 0 0) (.slice none 0 0)).toArray) rfl rfl rfl (by decide +kernel) (by decide +kernel) (by decide +kernel) (by decide +kernel) rfl (fun w' _ => Runs.build (vals := [(0, .int .i64 1), (1, .int .i64 s), (2, .agg #[aF t.qn, .int .i64 t.qt])]) rfl (by kernel_rfl)) (fun _ _ _ h => h) ?_
   refine aA ?_
   refine cE (i := 11) (by decide +kernel) rfl rfl ?_
   refine aH (z := bT) rfl (by decide +kernel) ?_
   intro w3 x3 s3 hb3
   refine aA ?_
   have x23 := x2.trans x3
   refine aS ⟨dV x23, ?_⟩
   refine cE (i := 12) (by decide +kernel) rfl rfl ?_
   refine aD (v := .agg (bG ⟨1, s, t.qn, t.qt, 0, [], []⟩ (.slice none 0 0) (.slice none 0 0)).toArray) rfl rfl rfl hb3 (show aN Tryz.prog 33 7 = true by decide +kernel) rfl (cY rfl rfl) ?_
   intro w4 p4
   refine aS ⟨cO rfl, ?_⟩
   refine eF (by decide +kernel) ?_
   have x4 : Ext w1 w4 := x23.move p4.mv (by rintro k ⟨⟩; exact x2.size)
   have hh4 := hh1.grow x4
   have hp4 := aC (cs := bN t rv sv gv ev) hh4.blk
   have hsl4 := hsl1.ext x4
   have hb4 := p4.this
   have hbx := x4.at hb1
   have hpb4 := aC (cs := bG ⟨1, s, t.qn, t.qt, 0, [], []⟩ (.slice none 0 0) (.slice none 0 0)) hb4
   have hss4 := hh4.ss
   clear hq1 hp1 hp hsl1 hsl
   (repeat' first | ((with_reducible refine aG ?_); go_step) | ((with_reducible refine aE ?_); first | refine aL ?_ | (refine aJ ?_ ?_ <;> intro hc)) | fail)
   refine bF (n := 4) (v := cB sv 1 1 (aZ t.servers).length) hh4.blk rfl rfl rfl (by simp [bN]) (by decide +kernel) (hss4.drop (m := 1) (by omega)).sl.one ?_
   intro w5 p5
   have p5' : Put w4 w5 b (.cells (bN { t with servers := rest } rv (cB sv 1 1 (aZ t.servers).length) gv ev).toArray 99 (0, 0)) := p5
   obtain ⟨k1, k2, k3, k4⟩ := hh4.kept p5
   have hd : OwnOff w0.heap.size 1 3 w5 (cB sv 1 1 (aZ t.servers).length) (aZ rest) := by
    have hd := k2.drop (m := 1) (by omega)
    rw [show (aZ t.servers).drop 1 = aZ rest by rw [hs]; rfl] at hd
    exact hd
   have hT5 := hh4.put p5' k1 hd k3 k4
   have hp5 := aC (cs := bN { t with servers := rest } rv (cB sv 1 1 (aZ t.servers).length) gv ev) hT5.blk
   clear p5' hp4 hpe
   (repeat' first | ((with_reducible refine aG ?_); go_step) | ((with_reducible refine aE ?_); first | refine aL ?_ | (refine aJ ?_ ?_ <;> intro hc)) | fail)
   refine bF (n := 7) (v := .int .i64 (t.left - 1)) hT5.blk rfl rfl rfl (by simp [bN]) (by decide +kernel) rfl ?_
   intro w6 p6
   have p6' : Put w5 w6 b (.cells (bN { t with servers := rest, left := t.left - 1 } rv (cB sv 1 1 (aZ t.servers).length) gv ev).toArray 99 (0, 0)) := p6
   obtain ⟨j1, j2, j3, j4⟩ := hT5.kept p6
   have hT6 := hT5.put p6' j1 j2 j3 j4
   have hbn := (Array.getElem?_eq_some_iff.1 h.blk).1
   have sz2 := x2.size
   have sz1 := x1.size
   have hb6 : w6.heap[w2.heap.size]? = some (.cells (bG ⟨1, s, t.qn, t.qt, 0, [], []⟩ (.slice none 0 0) (.slice none 0 0)).toArray 33 (0, 0)) := p6.mv.at (p5.mv.at hb4 (by intro e; have := Option.some.inj e; omega)) (by intro e; have := Option.some.inj e; omega)
   have hbx6 := p6.mv.at (p5.mv.at hbx h.neBox) h.neBox
   have hpb6 := aC (cs := bG ⟨1, s, t.qn, t.qt, 0, [], []⟩ (.slice none 0 0) (.slice none 0 0)) hb6
   have hm6 : Mv (some b) w w6 := ((x1.trans x4).mv _).trans (p5.mv.trans p6.mv)
   clear p6' hp5 hpb4
   (repeat' first | ((with_reducible refine aG ?_); go_step) | ((with_reducible refine aE ?_); first | refine aL ?_ | (refine aJ ?_ ?_ <;> intro hc)) | fail)
   refine bD (Runs.loadN hpb6 rfl (show bK Tryz.prog 33 7 = true by decide +kernel)) ?_
   refine aA ?_
   refine aD (v := .agg (bG ⟨1, s, t.qn, t.qt, 0, [], []⟩ (.slice none 0 0) (.slice none 0 0)).toArray) rfl rfl rfl hbx6 (show aN Tryz.prog 33 7 = true by decide +kernel) rfl (cY rfl rfl) ?_
   intro w7 p7
   have hAV : ActV w6 (.agg (bG ⟨1, s, t.qn, t.qt, 0, [], []⟩ (.slice none 0 0) (.slice none 0 0)).toArray) ⟨1, s, t.qn, t.qt, 0, [], []⟩ := ⟨_, _, rfl, Own.nil _ _ _ _, Own.nil _ _ _ _⟩
   obtain ⟨u1, u2, hu, hr⟩ := TRet.box (r := t.on) (by rw [hE]; exact ⟨hAV, _, _, _, _, hT6⟩) hm6 hbx6 (Nat.le_refl _) h.ext.size p7
   (repeat' first | ((with_reducible refine aG ?_); go_step) | ((with_reducible refine aE ?_); first | refine aL ?_ | (refine aJ ?_ ?_ <;> intro hc)) | fail)
   refine bodyPost_ret (bV (cs := bG ⟨1, s, t.qn, t.qt, 0, [], []⟩ (.slice none 0 0) (.slice none 0 0)) rfl rfl p7.this (show bK Tryz.prog 33 7 = true by decide +kernel)) rfl ?_
   rw [← hu] at hr
   exact hr
set_option maxHeartbeats 2000000 in
theorem zD {w0 w : World} {b : Nat} {t : TaskR} (h : TaskAt w0 w b t) (n : List UInt8) (h0 : 0 ≤ t.left) (h1 : t.left ≤ 1000000) (h2 : 0 ≤ t.chain) (h3 : t.chain ≤ 8) : Calls Tryz.prog 48 #[.pointer (some ⟨b, 0, none⟩), aF n] w (TRet w0 w b (t.follow n)) := by
 have hA := h
 obtain ⟨rv, sv, gv, ev, h⟩ := h
 have hp := aC (cs := bN t rv sv gv ev) h.blk
 go_enter Tryz.func48, Tryz.ntmps48
 (repeat' first | ((with_reducible refine aG ?_); go_step) | ((with_reducible refine aE ?_); first | refine aL ?_ | (refine aJ ?_ ?_ <;> intro hc)) | fail)
 refine aH (z := bT) rfl (by decide +kernel) ?_
 intro w1 x1 s1 hb1
 refine aA ?_
 have hp1 := hp.ext x1
 have hh1 := h.grow x1
 by_cases hc8 : t.chain = 8
 ·have hE : t.follow n = t.done 2 [] [] := by rw [TaskR.follow, if_pos hc8]
  (repeat' first | ((with_reducible refine aG ?_); go_step) | ((with_reducible refine aE ?_); first | refine aL ?_ | (refine aJ ?_ ?_ <;> intro hc)) | fail)
  all_goals first
   | (exfalso; omega)
   | skip
  refine aO (vs := [.pointer (some ⟨b, 0, none⟩)]) (enters_of Tryz.func100 rfl rfl) rfl rfl (vM (hA.grow x1)) ?_
  rintro e w4 ⟨u, rfl, hu, hm⟩
  refine ⟨_, rfl, ?_⟩
  refine aA ?_
  have h14 := hm.at hb1 h.neBox
  refine aD (v := u) rfl rfl rfl h14 (by rw [hu.1.size]; exact (show aN Tryz.prog 33 7 = true by decide +kernel)) (by rw [hu.1.size]; rfl) hu.1.one ?_
  intro w5 p5
  obtain ⟨u1, u2, rfl, hr⟩ := TRet.box hu ((x1.mv _).trans hm) h14 (Nat.le_refl _) h.ext.size p5
  (repeat' first | ((with_reducible refine aG ?_); go_step) | ((with_reducible refine aE ?_); first | refine aL ?_ | (refine aJ ?_ ?_ <;> intro hc)) | fail)
  exact bodyPost_ret (bV (cs := bG (t.done 2 [] []).2 u1 u2) rfl rfl p5.this (show bK Tryz.prog 33 7 = true by decide +kernel)) rfl (by rw [hE]; exact hr)
 ·(repeat' first | ((with_reducible refine aG ?_); go_step) | ((with_reducible refine aE ?_); first | refine aL ?_ | (refine aJ ?_ ?_ <;> intro hc)) | fail)
  all_goals first
   | (exfalso; omega)
   | skip
  refine bF (n := 6) (v := .int .i64 (t.chain + 1)) hh1.blk rfl rfl rfl (by simp [bN]) (by decide +kernel) rfl ?_
  intro w2 p2
  have p2' : Put w1 w2 b (.cells (bN { t with chain := t.chain + 1 } rv sv gv ev).toArray 99 (0, 0)) := p2
  obtain ⟨k1, k2, k3, k4⟩ := hh1.kept p2
  have hT2 := hh1.put p2' k1 k2 k3 k4
  have hp2 := aC (cs := bN { t with chain := t.chain + 1 } rv sv gv ev) hT2.blk
  clear p2' hp1 hp
  (repeat' first | ((with_reducible refine aG ?_); go_step) | ((with_reducible refine aE ?_); first | refine aL ?_ | (refine aJ ?_ ?_ <;> intro hc)) | fail)
  refine bF (n := 0) (v := aF n) hT2.blk rfl rfl rfl (by simp [bN]) (by decide +kernel) rfl ?_
  intro w3 p3
  have p3' : Put w2 w3 b (.cells (bN { t with chain := t.chain + 1, qn := n } rv sv gv ev).toArray 99 (0, 0)) := p3
  obtain ⟨k1, k2, k3, k4⟩ := hT2.kept p3
  have hT3 := hT2.put p3' k1 k2 k3 k4
  clear p3' hp2
  (repeat' first | ((with_reducible refine aG ?_); go_step) | ((with_reducible refine aE ?_); first | refine aL ?_ | (refine aJ ?_ ?_ <;> intro hc)) | fail)
  refine bF (n := 3) (v := aF []) hT3.blk rfl rfl rfl (by simp [bN]) (by decide +kernel) rfl ?_
  intro w4 p4
  have p4' : Put w3 w4 b (.cells (bN { t with chain := t.chain + 1, qn := n, zone := [] } rv sv gv ev).toArray 99 (0, 0)) := p4
  obtain ⟨k1, k2, k3, k4⟩ := hT3.kept p4
  have hT4 := hT3.put p4' k1 k2 k3 k4
  clear p4'
  (repeat' first | ((with_reducible refine aG ?_); go_step) | ((with_reducible refine aE ?_); first | refine aL ?_ | (refine aJ ?_ ?_ <;> intro hc)) | fail)
  refine bF (n := 4) (v := rv) hT4.blk rfl rfl rfl (by simp [bN]) (by decide +kernel) k1.one ?_
  intro w5 p5
  have p5' : Put w4 w5 b (.cells (bN { t with chain := t.chain + 1, qn := n, zone := [], servers := t.roots } rv rv gv ev).toArray 99 (0, 0)) := p5
  obtain ⟨k1, k2, k3, k4⟩ := hT4.kept p5
  have hT5 := hT4.put p5' k1 k1.off k3 k4
  have hE : t.follow n = { t with chain := t.chain + 1, qn := n, zone := [], servers := t.roots }.on := by rw [TaskR.follow, if_neg hc8]
  have hm5 : Mv (some b) w w5 := (x1.mv _).trans (p2.mv.trans (p3.mv.trans (p4.mv.trans p5.mv)))
  clear p5'
  (repeat' first | ((with_reducible refine aG ?_); go_step) | ((with_reducible refine aE ?_); first | refine aL ?_ | (refine aJ ?_ ?_ <;> intro hc)) | fail)
  refine aO (vs := [.pointer (some ⟨b, 0, none⟩)]) (enters_of Tryz.func50 rfl rfl) rfl rfl (zC ⟨_, _, _, _, hT5⟩ h0 h1) ?_
  rintro e w6 ⟨u, rfl, hu, hm⟩
  refine ⟨_, rfl, ?_⟩
  refine aA ?_
  have h14 := hm.at (p5.mv.at (p4.mv.at (p3.mv.at (p2.mv.at hb1 h.neBox) h.neBox) h.neBox) h.neBox) h.neBox
  refine aD (v := u) rfl rfl rfl h14 (by rw [hu.1.size]; exact (show aN Tryz.prog 33 7 = true by decide +kernel)) (by rw [hu.1.size]; rfl) hu.1.one ?_
  intro w7 p7
  obtain ⟨u1, u2, rfl, hr⟩ := TRet.box hu (hm5.trans hm) h14 (Nat.le_refl _) h.ext.size p7
  (repeat' first | ((with_reducible refine aG ?_); go_step) | ((with_reducible refine aE ?_); first | refine aL ?_ | (refine aJ ?_ ?_ <;> intro hc)) | fail)
  exact bodyPost_ret (bV (cs := bG { t with chain := t.chain + 1, qn := n, zone := [], servers := t.roots }.on.2 u1 u2) rfl rfl p7.this (show bK Tryz.prog 33 7 = true by decide +kernel)) rfl (by rw [hE]; exact hr)
theorem xA {j : JudR} {k : Nat} (h : k < j.au.length) : (j.au.take (k + 1)).foldl j.step ([], -1) =
 if j.au[k].kind = 2 ∧ bB j.qn (fold j.au[k].name) = true ∧ kV (fold j.au[k].name) j.zone = false ∧ ((j.au.take k).foldl j.step ([], -1)).2 < yR (fold j.au[k].name) then (fold j.au[k].name, yR (fold j.au[k].name)) else (j.au.take k).foldl j.step ([], -1) := by
 rw [List.take_succ_eq_append_getElem h, List.foldl_append]
 rfl
set_option maxHeartbeats 3000000 in
theorem uG (j : JudR) (an au : Value) (w : World) (ha : Sl 4 w an (aI j.an)) (hu : Sl 4 w au (aI j.au)) : Calls Tryz.prog 98 #[.agg (fB j an au).toArray] w (bU w (.tuple #[.int .i64 j.referral.1, aF j.referral.2])) := by
 have hlen := aU j.au
 have hle := hu.le
 go_enter Tryz.func98, Tryz.ntmps98
 repeat' (first | ((with_reducible refine aG ?_); go_step) | fail)
 refine cQ (vs := fB j an au) rfl rfl ?_
 intro w1 x1 s1 h1
 refine aA ?_
 have hp := aC (cs := fB j an au) h1
 have hj0 : Pts w1 (bA (.pointer (some ⟨w.heap.size, 0, none⟩)) 0) [aF j.qn, .int .i64 j.qt] := (hp.part 0).front 2
 have hj2 : Pts w1 (bA (.pointer (some ⟨w.heap.size, 0, none⟩)) 2) [aF j.zone] := (hp.part 2).front 1
 have hj3 : Pts w1 (bA (.pointer (some ⟨w.heap.size, 0, none⟩)) 3) [.int .i64 j.code] := (hp.part 3).front 1
 have hj5 : Pts w1 (bA (.pointer (some ⟨w.heap.size, 0, none⟩)) 5) [au] := hp.part 5
 have hu1 := hu.ext x1
 (repeat' first | ((with_reducible refine aG ?_); go_step) | ((with_reducible refine aE ?_); first | refine aL ?_ | (refine aJ ?_ ?_ <;> intro hc)) | fail)
 go_loopw [4, 5, 13] (fun b m i wr => ∃ k : Nat, k ≤ j.au.length ∧ i = .int .i64 k ∧ Ext w1 wr ∧ b = aF ((j.au.take k).foldl j.step ([], -1)).1 ∧ m = .int .i64 ((j.au.take k).foldl j.step ([], -1)).2) (fun _ _ i _ => j.au.length - (intOf i).toNat)
 case atStart => exact ⟨0, Nat.zero_le _, rfl, Ext.refl _, rfl, rfl⟩
 case round =>
  obtain ⟨k, hk, rfl, hx, rfl, rfl⟩ := hrel
  have hx0 := x1.trans hx
  have hu2 := hu1.ext hx
  have hz2 := hj0.ext hx
  have hz3 := hj2.ext hx
  by_cases hlt : k < j.au.length
  ·have hpe := hu2.elem (dE hlt)
   have hst := xA hlt
   generalize (j.au.take k).foldl j.step ([], -1) = S at *
   (repeat' first | ((with_reducible refine aG ?_); go_step) | ((with_reducible refine aE ?_); first | refine aL ?_ | (refine aJ ?_ ?_ <;> intro hc)) | fail)
   refine aH (z := dZ) rfl (by decide +kernel) ?_
   intro w2 x2 s2 h2
   refine aA ?_
   refine aD (v := .agg #[aF j.au[k].name, .int .i64 j.au[k].kind, .int .i64 j.au[k].ttl, aF j.au[k].data]) rfl rfl rfl h2 (show aN Tryz.prog 64 4 = true by decide +kernel) rfl (nN rfl rfl rfl rfl) ?_
   intro w3 p3
   have x3 : Ext wr w3 := x2.move p3.mv (by rintro k ⟨⟩; exact Nat.le_refl _)
   have hp3 := aC (cs := [aF j.au[k].name, .int .i64 j.au[k].kind, .int .i64 j.au[k].ttl, aF j.au[k].data]) p3.this
   have hz23 := hz2.ext x3
   have hz33 := hz3.ext x3
   have hx3 := hx.trans x3
   clear p3 h2 x2
   (repeat' first | ((with_reducible refine aG ?_); go_step) | ((with_reducible refine aE ?_); first | refine aL ?_ | (refine aJ ?_ ?_ <;> intro hc)) | fail)
   refine aB (enters_of Tryz.func57 rfl rfl) rfl rfl (uY j.au[k].name _) ?_; intro w4 x4; refine aA ?_
   (repeat' first | ((with_reducible refine aG ?_); go_step) | ((with_reducible refine aE ?_); first | refine aL ?_ | (refine aJ ?_ ?_ <;> intro hc)) | fail)
   refine aM (enters_of Tryz.func114 rfl rfl) rfl rfl (yQ (fold j.au[k].name) _) ?_
   intro lv w5 x5 o5
   refine aA ?_
   have hsl5 := o5.sl
   have htl := aY ((aP (fold j.au[k].name)).getD [])
   have hL : yR (fold j.au[k].name) = ((aK ((aP (fold j.au[k].name)).getD [])).length : Int) := by rw [htl]; rfl
   have x45 := x4.trans x5
   have hp5 := hp3.ext x45
   have hy5 := hz23.ext x45
   have hz5 := hz33.ext x45
   have hx5 := hx3.trans x45
   clear hp3 hz23 hz33 hz2 hz3 hpe hu2
   rw [hL] at hst
   clear htl
   generalize aK ((aP (fold j.au[k].name)).getD []) = T at *
   generalize fold j.au[k].name = N at *
   by_cases c1 : j.au[k].kind = 2
   ·(repeat' first | ((with_reducible refine aG ?_); go_step) | ((with_reducible refine aE ?_); first | refine aL ?_ | (refine aJ ?_ ?_ <;> intro hc)) | fail)
    all_goals first
     | exact absurd c1 ‹_›
     | skip
    refine aB (enters_of Tryz.func62 rfl rfl) rfl rfl (nA j.qn N _) ?_; intro w6 x6; refine aA ?_
    have hp6 := hp5.ext x6
    have hz6 := hz5.ext x6
    have hx6 := hx5.trans x6
    cases c2 : bB j.qn N with
    | false =>
     rw [if_neg (by rw [c2]; rintro ⟨_, h, _⟩; cases h)] at hst
     (repeat' first | ((with_reducible refine aG ?_); go_step) | ((with_reducible refine aE ?_); first | refine aL ?_ | (refine aJ ?_ ?_ <;> intro hc)) | fail)
     exact ⟨⟨k + 1, by omega, by go_num, hx6, by rw [hst], by rw [hst]⟩, by simp [intOf]; omega⟩
    | true =>
     (repeat' first | ((with_reducible refine aG ?_); go_step) | ((with_reducible refine aE ?_); first | refine aL ?_ | (refine aJ ?_ ?_ <;> intro hc)) | fail)
     refine aB (enters_of Tryz.func149 rfl rfl) rfl rfl (qX N j.zone _) ?_; intro w7 x7; refine aA ?_
     have hx7 := hx6.trans x7
     cases c3 : kV N j.zone with
     | true =>
      rw [if_neg (by rw [c3]; rintro ⟨_, _, h, _⟩; cases h)] at hst
      (repeat' first | ((with_reducible refine aG ?_); go_step) | ((with_reducible refine aE ?_); first | refine aL ?_ | (refine aJ ?_ ?_ <;> intro hc)) | fail)
      exact ⟨⟨k + 1, by omega, by go_num, hx7, by rw [hst], by rw [hst]⟩, by simp [intOf]; omega⟩
     | false =>
      by_cases c4 : S.2 < (T.length : Int)
      ·rw [if_pos ⟨c1, c2, c3, c4⟩] at hst
       (repeat' first | ((with_reducible refine aG ?_); go_step) | ((with_reducible refine aE ?_); first | refine aL ?_ | (refine aJ ?_ ?_ <;> intro hc)) | fail)
       all_goals first
        | (exfalso; omega)
        | skip
       exact ⟨⟨k + 1, by omega, by go_num, hx7, by rw [hst], by rw [hst]⟩, by simp [intOf]; omega⟩
      ·rw [if_neg (by rintro ⟨_, _, _, h⟩; exact c4 h)] at hst
       (repeat' first | ((with_reducible refine aG ?_); go_step) | ((with_reducible refine aE ?_); first | refine aL ?_ | (refine aJ ?_ ?_ <;> intro hc)) | fail)
       all_goals first
        | (exfalso; omega)
        | skip
       exact ⟨⟨k + 1, by omega, by go_num, hx7, by rw [hst], by rw [hst]⟩, by simp [intOf]; omega⟩
   ·rw [if_neg (by rintro ⟨h, _⟩; exact c1 h)] at hst
    (repeat' first | ((with_reducible refine aG ?_); go_step) | ((with_reducible refine aE ?_); first | refine aL ?_ | (refine aJ ?_ ?_ <;> intro hc)) | fail)
    all_goals first
     | exact absurd ‹j.au[k].kind = 2› c1
     | skip
    exact ⟨⟨k + 1, by omega, by go_num, hx5, by rw [hst], by rw [hst]⟩, by simp [intOf]; omega⟩
  ·have : k = j.au.length := by omega
   subst this
   rw [List.take_length]
   have hz4 := hj3.ext hx
   have hB : j.best = j.au.foldl j.step ([], -1) := rfl
   rw [← hB]
   by_cases c1 : j.best.2 < 0
   ·have hE : j.referral = (6, []) := by rw [JudR.referral, if_pos (.inl c1)]
    (repeat' first | ((with_reducible refine aG ?_); go_step) | ((with_reducible refine aE ?_); first | refine aL ?_ | (refine aJ ?_ ?_ <;> intro hc)) | fail)
    all_goals first
     | (exfalso; omega)
     | skip
    go_ret2
    exact ⟨by rw [hE]; rfl, hx0⟩
   ·by_cases c2 : j.code = 0
    ·have hE : j.referral = (4, j.best.1) := by rw [JudR.referral, if_neg (by rintro (h | h); exact c1 h; exact h c2)]
     (repeat' first | ((with_reducible refine aG ?_); go_step) | ((with_reducible refine aE ?_); first | refine aL ?_ | (refine aJ ?_ ?_ <;> intro hc)) | fail)
     all_goals first
      | (exfalso; omega)
      | (exfalso; have hh := ‹(!decide (j.code = 0)) = true›; simp [c2] at hh; done)
      | skip
     go_ret2
     exact ⟨by rw [hE]; rfl, hx0⟩
    ·have hE : j.referral = (6, []) := by rw [JudR.referral, if_pos (.inr c2)]
     (repeat' first | ((with_reducible refine aG ?_); go_step) | ((with_reducible refine aE ?_); first | refine aL ?_ | (refine aJ ?_ ?_ <;> intro hc)) | fail)
     all_goals first
      | (exfalso; omega)
      | (exfalso; have hh := ‹(!decide (j.code = 0)) = false›; simp [c2] at hh; done)
      | skip
     go_ret2
     exact ⟨by rw [hE]; rfl, hx0⟩
theorem AP {r : Rec} (h : bH r = 0) : r.data.length ≤ 4000 := by
 unfold bH at h
 split at h
 ·cases h
 ·split at h
  ·cases h
  ·omega
theorem xB {l : List Rec} {z : List UInt8} {r : Rec} (h : r ∈ aT l z) : bH r = 0 := by
 have := (List.mem_filter.1 h).2
 simp at this
 exact this.1
theorem JudR.referral_ne (j : JudR) : ¬ j.referral.1 = 0 := by
 unfold JudR.referral
 split <;> simp
theorem AQ {j : JudR} {v1 v2 : Value} (h1 : v1.oneCell' = true) (h2 : v2.oneCell' = true) : (Value.agg (fB j v1 v2).toArray).cells.all (·.oneCell') = true := by
 have k1 : ∀ s, (aF s).oneCell' = true := fun _ => rfl
 have k2 : ∀ n, (Value.int .i64 n).oneCell' = true := fun _ => rfl
 simp [fB, Value.cells, h1, h2, k1, k2]
def BK : List Value := [aF [], .int .i64 0, aF [], .int .i64 0, .slice none 0 0, .slice none 0 0]
set_option maxHeartbeats 4000000 in
theorem AR (qn : List UInt8) (qt : Int) (m : MsgR) (q a u e : Value) (z : List UInt8) (w : World) (hm : MsgV w m q a u e) (hl : m.an.length ≤ 100000) (hl2 : m.au.length ≤ 100000) :
 Calls Tryz.prog 44 #[.agg #[aF qn, .int .i64 qt], .agg (dF m q a u e).toArray, aF z] w (bU w (.tuple #[.int .i64 (bX qn qt m z).1, aF (bX qn qt m z).2])) := by
 go_enter Tryz.func44, Tryz.ntmps44
 repeat' (first | ((with_reducible refine aG ?_); go_step) | fail)
 refine dB (vs := [aF qn, .int .i64 qt]) rfl rfl ?_
 intro pq w1 x1 hq
 refine aA ?_
 refine dB (vs := dF m q a u e) rfl rfl ?_
 intro pm w2 x2 hp
 refine aA ?_
 have hx2 := x1.trans x2
 have hq2 := hq.ext x2
 have hm2 := hm.ext hx2
 (repeat' first | ((with_reducible refine aG ?_); go_step) | ((with_reducible refine aE ?_); first | refine aL ?_ | (refine aJ ?_ ?_ <;> intro hc)) | fail)
 refine aB (enters_of Tryz.func62 rfl rfl) rfl rfl (nA qn z _) ?_; intro w3 x3; refine aA ?_
 have hx3 := hx2.trans x3
 have hp3 := hp.ext x3
 have hq3 := hq2.ext x3
 have hm3 := hm2.ext x3
 clear hp hq2 hm2 hq
 cases c1 : bB qn z with
 | false =>
  have hE : bX qn qt m z = (0, []) := by rw [bX, if_pos (.inl c1)]
  (repeat' first | ((with_reducible refine aG ?_); go_step) | ((with_reducible refine aE ?_); first | refine aL ?_ | (refine aJ ?_ ?_ <;> intro hc)) | fail)
  go_ret2
  exact ⟨by rw [hE]; rfl, hx3⟩
 | true =>
  cases c2 : m.trunc with
  | true =>
   have hE : bX qn qt m z = (0, []) := by rw [bX, if_pos (.inr (.inl c2))]
   have hp4 : Pts w3 pm [.int .i64 m.id, .bool m.resp, .int .i64 m.op, .bool m.auth, .bool true, .bool m.want, .bool m.avail, .int .i64 m.rcode, q, a, u, e, .int .i64 m.size] := by rw [← c2]; exact hp3
   clear hp3
   (repeat' first | ((with_reducible refine aG ?_); go_step) | ((with_reducible refine aE ?_); first | refine aL ?_ | (refine aJ ?_ ?_ <;> intro hc)) | fail)
   go_ret2
   exact ⟨by rw [hE]; rfl, hx3⟩
  | false =>
   have hp4 : Pts w3 pm [.int .i64 m.id, .bool m.resp, .int .i64 m.op, .bool m.auth, .bool false, .bool m.want, .bool m.avail, .int .i64 m.rcode, q, a, u, e, .int .i64 m.size] := by rw [← c2]; exact hp3
   clear hp3
   by_cases hok : m.rcode = 0 ∨ m.rcode = 3
   ·(repeat' first | ((with_reducible refine aG ?_); go_step) | ((with_reducible refine aE ?_); first | refine aL ?_ | (refine aJ ?_ ?_ <;> intro hc)) | fail)
    all_goals first
     | (exfalso; have h1 := ‹(!decide (m.rcode = 0)) = true›; have h2 := ‹(!decide (m.rcode = 3)) = true›; simp at h1 h2; rcases hok with h | h; exact h1 h; exact h2 h; done)
     | skip
    all_goals (
     have hE : bX qn qt m z = (if (⟨qn, qt, z, m.rcode, aT m.an z, aT m.au z⟩ : JudR).answer.1 ≠ 0 then (⟨qn, qt, z, m.rcode, aT m.an z, aT m.au z⟩ : JudR).answer else if (⟨qn, qt, z, m.rcode, aT m.an z, aT m.au z⟩ : JudR).alias.1 ≠ 0 then (⟨qn, qt, z, m.rcode, aT m.an z, aT m.au z⟩ : JudR).alias else if (⟨qn, qt, z, m.rcode, aT m.an z, aT m.au z⟩ : JudR).denial.1 ≠ 0 then (⟨qn, qt, z, m.rcode, aT m.an z, aT m.au z⟩ : JudR).denial else (⟨qn, qt, z, m.rcode, aT m.an z, aT m.au z⟩ : JudR).referral) := by rw [bX, if_neg (by rintro (h | h | ⟨h1, h2⟩); rw [c1] at h; cases h; rw [c2] at h; cases h; rcases hok with h | h; exact h1 h; exact h2 h)]
     generalize hJ : (⟨qn, qt, z, m.rcode, aT m.an z, aT m.au z⟩ : JudR) = J at *
     have hJ1 : J.an = aT m.an z := by rw [← hJ]
     have hJ2 : J.au = aT m.au z := by rw [← hJ]
     have hJd : ∀ r ∈ J.an, r.data.length ≤ 4000 := fun r hr => by
      rw [hJ1] at hr
      exact AP (xB hr)
     have hJc : ∀ v1 v2, fB J v1 v2 = [aF qn, .int .i64 qt, aF z, .int .i64 m.rcode, v1, v2] := fun v1 v2 => by rw [← hJ]; rfl
     refine cW (S := fun w' => Ext w3 w') (by decide +kernel) ?_
     intro w21 x21 hh21
     refine fI 0 ?_; refine aA ?_; refine fI 1 ?_; refine aA ?_; refine fI 2 ?_; refine aA ?_; refine fI 3 ?_; refine aA ?_; refine fI 4 ?_; refine aA ?_; refine fI 5 ?_; refine aA ?_; refine fI 6 ?_; refine aA ?_; refine fI 8 ?_; refine aA ?_; refine fI 9 ?_; refine aA ?_; refine fI 10 ?_; refine aA ?_
     refine zT 7 11 12 13 14 39 43 44 8 (fun b1 b2 b3 b4 b5 => (!b2 || b1) && (!b3 || b1) && (!b3 || b2) && (!b5 || b3) && (!b5 || b4)) (fun b1 b2 b3 b4 b5 => !b2 && !b3) (fun b1 b2 b3 b4 b5 => b1 && !b3) (fun b1 b2 b3 b4 b5 => b1 && b2 && !b5) (fun b1 b2 b3 b4 b5 => !b5) (fun b1 b2 b3 b4 b5 => b3 && b4) (fun b1 b2 b3 b4 b5 v1 v2 v3 v4 w' => ∃ zk, Ext w3 w' ∧ (b1 = true → Own w3.heap.size 4 64 w' v1 (aI J.an)) ∧ (b2 = true → Own w3.heap.size 4 64 w' v2 (aI J.au)) ∧ (b3 = true → v3 = .agg (fB J v1 v2).toArray) ∧ (b4 = true → v4 = .pointer (some ⟨zk, 0, none⟩) ∧ w3.heap.size ≤ zk ∧ w'.heap[zk]? = some (.cells (bif b5 then fB J v1 v2 else BK).toArray 159 (0, 0)))) ?_ ?_ ?_ ?_ ?_ ?_ ?_
     ·exact ⟨0, x21, by simp, by simp, by simp, by simp⟩
     ·rintro b1 b2 b3 b4 b5 v1 v2 v3 v4 w4 hq ⟨zk, x4, f1, f2, f3, f4⟩
      have hb2 : b2 = false := by revert hq; cases b2 <;> simp
      have hb3 : b3 = false := by revert hq; subst hb2; cases b3 <;> simp
      have hb5 : b5 = false := by revert hq; subst hb3; cases b5 <;> simp
      subst hb2 hb3 hb5
      refine aA ?_
      refine aM (enters_of Tryz.func26 rfl rfl) rfl rfl (oV a m.an z _ (hm3.an.ext x4) hl) ?_
      intro v5 w5 x5 o5
      refine aA ?_
      refine aS ⟨x4.trans x5, _, rfl, zk, x4.trans x5, fun _ => by rw [hJ1]; exact o5.weaken x4.size, by simp, by simp, fun e => ?_⟩
      obtain ⟨g1, g2, g3⟩ := f4 e
      exact ⟨g1, g2, x5.at g3⟩
     ·rintro b1 b2 b3 b4 b5 v1 v2 v3 v4 w4 hq ⟨zk, x4, f1, f2, f3, f4⟩
      have hb1 : b1 = true := by revert hq; cases b1 <;> simp
      have hb3 : b3 = false := by revert hq; cases b3 <;> simp
      have hb5 : b5 = false := by revert hq; subst hb3; cases b5 <;> simp
      subst hb1 hb3 hb5
      refine aA ?_
      refine aM (enters_of Tryz.func26 rfl rfl) rfl rfl (oV u m.au z _ (hm3.au.ext x4) hl2) ?_
      intro v5 w5 x5 o5
      refine aA ?_
      refine aS ⟨x4.trans x5, _, rfl, zk, x4.trans x5, fun _ => (f1 rfl).ext x5, fun _ => by rw [hJ2]; exact o5.weaken x4.size, by simp, fun e => ?_⟩
      obtain ⟨g1, g2, g3⟩ := f4 e
      exact ⟨g1, g2, x5.at g3⟩
     ·rintro b1 b2 b3 b4 b5 v1 v2 v3 v4 w4 hq ⟨zk, x4, f1, f2, f3, f4⟩
      have hb1 : b1 = true := by revert hq; cases b1 <;> simp
      have hb2 : b2 = true := by revert hq; cases b2 <;> simp
      have hb5 : b5 = false := by revert hq; cases b5 <;> simp
      subst hb1 hb2 hb5
      refine aA ?_
      have q1 := (f1 rfl).sl.slf
      have q2 := (f2 rfl).sl.slf
      refine bY (v := .agg (fB J v1 v2).toArray) rfl (Runs.build (vals := [(0, .agg #[aF qn, .int .i64 qt]), (1, aF z), (2, .int .i64 m.rcode), (3, v1), (4, v2)]) rfl (by rw [hJc]; obtain ⟨_, _, _, rfl⟩ := q1; obtain ⟨_, _, _, rfl⟩ := q2; kernel_rfl)) ?_
      refine aA ?_
      refine aS ⟨x4, _, rfl, zk, x4, fun _ => f1 rfl, fun _ => f2 rfl, fun _ => rfl, f4⟩
     ·rintro b1 b2 b3 b4 b5 v1 v2 v3 v4 w4 hq ⟨zk, x4, f1, f2, f3, f4⟩
      have hb5 : b5 = false := by revert hq; cases b5 <;> simp
      subst hb5
      refine aA ?_
      refine aH (z := BK) rfl (by decide +kernel) ?_
      intro w5 x5 s5 h5
      refine aA ?_
      refine aS ⟨x4.trans x5, _, rfl, _, x4.trans x5, fun e => (f1 e).ext x5, fun e => (f2 e).ext x5, f3, fun _ => ⟨rfl, x4.size, h5⟩⟩
     ·rintro b1 b2 b3 b4 b5 v1 v2 v3 v4 w4 hq ⟨zk, x4, f1, f2, f3, f4⟩
      have hb3 : b3 = true := by revert hq; cases b3 <;> simp
      have hb4 : b4 = true := by revert hq; cases b4 <;> simp
      subst hb3 hb4
      have g3 := f3 rfl
      subst g3
      obtain ⟨rfl, g5, g6⟩ := f4 rfl
      have hb2 : b2 = true := by revert hq; cases b2 <;> simp
      have hb1 : b1 = true := by revert hq; subst hb2; cases b1 <;> simp
      subst hb1 hb2
      have q1 := (f1 rfl).sl.one
      have q2 := (f2 rfl).sl.one
      have n1 := (f1 rfl).neBlock g6 (by decide)
      have n2 := (f2 rfl).neBlock g6 (by decide)
      refine aA ?_
      refine aD (v := .agg (fB J v1 v2).toArray) rfl rfl rfl g6 (show aN Tryz.prog 159 6 = true by decide +kernel) rfl (AQ q1 q2) ?_
      intro w5 p5
      have x5 : Ext w3 w5 := x4.move p5.mv (by rintro k ⟨⟩; exact g5)
      refine aS ⟨x5, rfl, zk, x5, fun _ => (f1 rfl).mv p5.mv (.inr n1), fun _ => (f2 rfl).mv p5.mv (.inr n2), by simp, fun _ => ⟨rfl, g5, p5.this⟩⟩
     ·rintro v1 v2 v3 v4 w9 ⟨zk, x9, f1, f2, f3, f4⟩
      have o1 := (f1 rfl).sl
      have o2 := (f2 rfl).sl
      have k3 := f3 rfl
      obtain ⟨k5, k6, k7⟩ := f4 rfl
      clear f1 f2 f3 f4
      subst k3 k5
      refine aA ?_
      refine cS (by decide +kernel) ?_
      have k7' : w9.heap[zk]? = some (.cells (fB J v1 v2).toArray 159 (0, 0)) := k7
      have hpz := aC (cs := fB J v1 v2) k7'
      (repeat' first | ((with_reducible refine aG ?_); go_step) | ((with_reducible refine aE ?_); first | refine aL ?_ | (refine aJ ?_ ?_ <;> intro hc)) | fail)
      refine bD (v := .agg #[.func (.func 95) #[] #[], .func (.func 96) #[] #[], .func (.func 97) #[] #[], .func (.func 98) #[] #[]]) (Runs.build rfl (by kernel_rfl)) ?_
      refine aA ?_
      (repeat' first | ((with_reducible refine aG ?_); go_step) | ((with_reducible refine aE ?_); first | refine aL ?_ | (refine aJ ?_ ?_ <;> intro hc)) | fail)
      have hx9 := hx3.trans x9
      go_loopw [46] (fun i wr => ∃ k : Nat, k ≤ 4 ∧ i = .int .i64 k ∧ Ext w9 wr ∧ (0 < k → J.answer.1 = 0) ∧ (1 < k → J.alias.1 = 0) ∧ (2 < k → J.denial.1 = 0) ∧ (3 < k → J.referral.1 = 0)) (fun i _ => 4 - (intOf i).toNat)
      case atStart => exact ⟨0, by omega, rfl, Ext.refl _, by omega, by omega, by omega, by omega⟩
      case round =>
       obtain ⟨k, hk, rfl, hx, g0, g1, g2, g3⟩ := hrel
       have hpz2 := hpz.ext hx
       rcases (by omega : k = 0 ∨ k = 1 ∨ k = 2 ∨ k = 3 ∨ k = 4) with rfl | rfl | rfl | rfl | rfl
       ·(repeat' first | ((with_reducible refine aG ?_); go_step) | ((with_reducible refine aE ?_); first | refine aL ?_ | (refine aJ ?_ ?_ <;> intro hc)) | fail)
        refine bD (v := .func (.func 95) #[] #[]) (Runs.idxA (i := 0) rfl rfl rfl (by decide) (show nK Tryz.prog 162 4 = true by decide +kernel)) ?_
        refine aA ?_
        (repeat' first | ((with_reducible refine aG ?_); go_step) | ((with_reducible refine aE ?_); first | refine aL ?_ | (refine aJ ?_ ?_ <;> intro hc)) | fail)
        refine bD (Runs.loadN hpz2 rfl (show bK Tryz.prog 159 6 = true by decide +kernel)) ?_
        refine aA ?_
        refine cR (enters_of Tryz.func95 rfl rfl) rfl rfl rfl (yU J v1 v2 _ (o1.ext hx) (o2.ext hx)) ?_
        rintro e w10 ⟨rfl, x10⟩
        refine ⟨_, rfl, ?_⟩
        refine aA ?_
        by_cases ck : J.answer.1 = 0
        ·(repeat' first | ((with_reducible refine aG ?_); go_step) | ((with_reducible refine aE ?_); first | refine aL ?_ | (refine aJ ?_ ?_ <;> intro hc)) | fail)
         all_goals first
          | (exfalso; have hh := ‹(!decide (J.answer.1 = 0)) = true›; simp [ck] at hh; done)
          | skip
         exact ⟨⟨1, by omega, by go_num, hx.trans x10, fun _ => ck, by omega, by omega, by omega⟩, by simp [intOf]⟩
        ·(repeat' first | ((with_reducible refine aG ?_); go_step) | ((with_reducible refine aE ?_); first | refine aL ?_ | (refine aJ ?_ ?_ <;> intro hc)) | fail)
         all_goals first
          | (exfalso; have hh := ‹(!decide (J.answer.1 = 0)) = false›; simp [ck] at hh; done)
          | skip
         go_ret2
         exact ⟨by rw [hE, if_pos ck]; rfl, (hx9.trans hx).trans x10⟩
       ·(repeat' first | ((with_reducible refine aG ?_); go_step) | ((with_reducible refine aE ?_); first | refine aL ?_ | (refine aJ ?_ ?_ <;> intro hc)) | fail)
        refine bD (v := .func (.func 96) #[] #[]) (Runs.idxA (i := 1) rfl rfl rfl (by decide) (show nK Tryz.prog 162 4 = true by decide +kernel)) ?_
        refine aA ?_
        (repeat' first | ((with_reducible refine aG ?_); go_step) | ((with_reducible refine aE ?_); first | refine aL ?_ | (refine aJ ?_ ?_ <;> intro hc)) | fail)
        refine bD (Runs.loadN hpz2 rfl (show bK Tryz.prog 159 6 = true by decide +kernel)) ?_
        refine aA ?_
        refine cR (enters_of Tryz.func96 rfl rfl) rfl rfl rfl (AK J v1 v2 _ (o1.ext hx) (o2.ext hx) hJd) ?_
        rintro e w10 ⟨rfl, x10⟩
        refine ⟨_, rfl, ?_⟩
        refine aA ?_
        by_cases ck : J.alias.1 = 0
        ·(repeat' first | ((with_reducible refine aG ?_); go_step) | ((with_reducible refine aE ?_); first | refine aL ?_ | (refine aJ ?_ ?_ <;> intro hc)) | fail)
         all_goals first
          | (exfalso; have hh := ‹(!decide (J.alias.1 = 0)) = true›; simp [ck] at hh; done)
          | skip
         exact ⟨⟨2, by omega, by go_num, hx.trans x10, fun _ => g0 (by omega), fun _ => ck, by omega, by omega⟩, by simp [intOf]⟩
        ·(repeat' first | ((with_reducible refine aG ?_); go_step) | ((with_reducible refine aE ?_); first | refine aL ?_ | (refine aJ ?_ ?_ <;> intro hc)) | fail)
         all_goals first
          | (exfalso; have hh := ‹(!decide (J.alias.1 = 0)) = false›; simp [ck] at hh; done)
          | skip
         go_ret2
         exact ⟨by rw [hE, if_neg (by rw [g0 (by omega)]; decide), if_pos ck]; rfl, (hx9.trans hx).trans x10⟩
       ·(repeat' first | ((with_reducible refine aG ?_); go_step) | ((with_reducible refine aE ?_); first | refine aL ?_ | (refine aJ ?_ ?_ <;> intro hc)) | fail)
        refine bD (v := .func (.func 97) #[] #[]) (Runs.idxA (i := 2) rfl rfl rfl (by decide) (show nK Tryz.prog 162 4 = true by decide +kernel)) ?_
        refine aA ?_
        (repeat' first | ((with_reducible refine aG ?_); go_step) | ((with_reducible refine aE ?_); first | refine aL ?_ | (refine aJ ?_ ?_ <;> intro hc)) | fail)
        refine bD (Runs.loadN hpz2 rfl (show bK Tryz.prog 159 6 = true by decide +kernel)) ?_
        refine aA ?_
        refine cR (enters_of Tryz.func97 rfl rfl) rfl rfl rfl (yV J v1 v2 _ (o1.ext hx) (o2.ext hx)) ?_
        rintro e w10 ⟨rfl, x10⟩
        refine ⟨_, rfl, ?_⟩
        refine aA ?_
        by_cases ck : J.denial.1 = 0
        ·(repeat' first | ((with_reducible refine aG ?_); go_step) | ((with_reducible refine aE ?_); first | refine aL ?_ | (refine aJ ?_ ?_ <;> intro hc)) | fail)
         all_goals first
          | (exfalso; have hh := ‹(!decide (J.denial.1 = 0)) = true›; simp [ck] at hh; done)
          | skip
         exact ⟨⟨3, by omega, by go_num, hx.trans x10, fun _ => g0 (by omega), fun _ => g1 (by omega), fun _ => ck, by omega⟩, by simp [intOf]⟩
        ·(repeat' first | ((with_reducible refine aG ?_); go_step) | ((with_reducible refine aE ?_); first | refine aL ?_ | (refine aJ ?_ ?_ <;> intro hc)) | fail)
         all_goals first
          | (exfalso; have hh := ‹(!decide (J.denial.1 = 0)) = false›; simp [ck] at hh; done)
          | skip
         go_ret2
         exact ⟨by rw [hE, if_neg (by rw [g0 (by omega)]; decide), if_neg (by rw [g1 (by omega)]; decide), if_pos ck]; rfl, (hx9.trans hx).trans x10⟩
       ·(repeat' first | ((with_reducible refine aG ?_); go_step) | ((with_reducible refine aE ?_); first | refine aL ?_ | (refine aJ ?_ ?_ <;> intro hc)) | fail)
        refine bD (v := .func (.func 98) #[] #[]) (Runs.idxA (i := 3) rfl rfl rfl (by decide) (show nK Tryz.prog 162 4 = true by decide +kernel)) ?_
        refine aA ?_
        (repeat' first | ((with_reducible refine aG ?_); go_step) | ((with_reducible refine aE ?_); first | refine aL ?_ | (refine aJ ?_ ?_ <;> intro hc)) | fail)
        refine bD (Runs.loadN hpz2 rfl (show bK Tryz.prog 159 6 = true by decide +kernel)) ?_
        refine aA ?_
        refine cR (enters_of Tryz.func98 rfl rfl) rfl rfl rfl (uG J v1 v2 _ (o1.ext hx) (o2.ext hx)) ?_
        rintro e w10 ⟨rfl, x10⟩
        refine ⟨_, rfl, ?_⟩
        refine aA ?_
        by_cases ck : J.referral.1 = 0
        ·(repeat' first | ((with_reducible refine aG ?_); go_step) | ((with_reducible refine aE ?_); first | refine aL ?_ | (refine aJ ?_ ?_ <;> intro hc)) | fail)
         all_goals first
          | (exfalso; have hh := ‹(!decide (J.referral.1 = 0)) = true›; simp [ck] at hh; done)
          | skip
         exact ⟨⟨4, by omega, by go_num, hx.trans x10, fun _ => g0 (by omega), fun _ => g1 (by omega), fun _ => g2 (by omega), fun _ => ck⟩, by simp [intOf]⟩
        ·(repeat' first | ((with_reducible refine aG ?_); go_step) | ((with_reducible refine aE ?_); first | refine aL ?_ | (refine aJ ?_ ?_ <;> intro hc)) | fail)
         all_goals first
          | (exfalso; have hh := ‹(!decide (J.referral.1 = 0)) = false›; simp [ck] at hh; done)
          | skip
         go_ret2
         exact ⟨by rw [hE, if_neg (by rw [g0 (by omega)]; decide), if_neg (by rw [g1 (by omega)]; decide), if_neg (by rw [g2 (by omega)]; decide)]; rfl, (hx9.trans hx).trans x10⟩
       ·exact absurd (g3 (by omega)) J.referral_ne)
   ·have hE : bX qn qt m z = (0, []) := by rw [bX, if_pos (.inr (.inr ⟨fun h => hok (.inl h), fun h => hok (.inr h)⟩))]
    (repeat' first | ((with_reducible refine aG ?_); go_step) | ((with_reducible refine aE ?_); first | refine aL ?_ | (refine aJ ?_ ?_ <;> intro hc)) | fail)
    all_goals first
     | (exfalso; apply hok; left; simpa using ‹(!decide (m.rcode = 0)) = false›; done)
     | (exfalso; apply hok; right; simpa using ‹(!decide (m.rcode = 3)) = false›; done)
     | skip
    go_ret2
    exact ⟨by rw [hE]; rfl, hx3⟩
end Go.Proofs.X
