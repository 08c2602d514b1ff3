/- Laws and walks that the proof of the statement is made of (part 18). -/
import Derived.Test.YteofaejlmdplhaaGreatRows
import Derived.Test.YteofaejlmdplhaaGreatP17
set_option linter.unusedSimpArgs false
set_option linter.unusedVariables false
namespace Go.Proofs.X
open Go.RowKit
set_option maxRecDepth 100000
set_option maxHeartbeats 2000000 in
theorem MD (u v : Value) (a b : List MsgR) (w : World) (hu : MsgsAt w u a) (hv : MsgsAt w v b) : Calls Tryz.prog 30 #[u, v] w (bC w (.bool (decide (a = b)))) := by
 obtain ⟨cs, sa, la, ea⟩ := hu.out
 obtain ⟨ds, sb, lb, eb⟩ := hv.out
 have la' := sa.le
 have lb' := sb.le
 go_enter Tryz.func30, Tryz.ntmps30
 refine_lift JL (fun _ _ _ => ?_) (fun _ => ?_)
 ·have hh := ‹(!decide ((cs.length : Int) = (ds.length : Int))) = true›
  have hab : a ≠ b := by
   intro h
   rw [la, lb, h] at hh
   simp at hh
  go_ret
  exact ⟨by rw [decide_eq_false hab]; rfl, Ext.refl _⟩
 ·have hh := ‹(!decide ((cs.length : Int) = (ds.length : Int))) = false›
  have hl : a.length = b.length := by
   rw [la, lb] at hh
   have : (a.length : Int) = b.length := by simpa using hh
   omega
  go_loopw [5] (fun i wr => ∃ k : Nat, k ≤ a.length ∧ i = .int .i64 k ∧ Ext w wr ∧ a.take k = b.take k) (fun i _ => a.length - (intOf i).toNat)
  case atStart => exact ⟨0, Nat.zero_le _, rfl, Ext.refl _, rfl⟩
  case round =>
   obtain ⟨k, hk, rfl, hx, hall⟩ := hrel
   by_cases hlt : k < a.length
   ·have hlt2 : k < b.length := by omega
    have hla : k < cs.length := by omega
    have hlb : k < ds.length := by omega
    obtain ⟨q, x, y, z, hc, hm⟩ := ea k _ (List.getElem?_eq_getElem hlt)
    obtain ⟨q', x', y', z', hd, hn⟩ := eb k _ (List.getElem?_eq_getElem hlt2)
    have hua := sa.ext hx
    have hvb := sb.ext hx
    have hpa := hua.elem hc
    have hpb := hvb.elem hd
    have hm := hm.ext hx
    have hn := hn.ext hx
    have hck : ∀ w', Ext wr w' → Calls Tryz.prog 78 #[.agg (cR a[k] q x y z).toArray, .agg (cR b[k] q' x' y' z').toArray] w' (bC w' (.bool (decide (a[k] = b[k])))) := fun w' c => NT a[k] b[k] q x y z q' x' y' z' w' (hm.ext c) (hn.ext c)
    refine_lift ME ?_; intro _ _ _ _ _ _
    refine bE (by decide +kernel) (by decide +kernel) ?_
    refine_lift OR ?_
    refine eY (fun w' x => Runs.loadN (hpa.ext x) rfl (show cY Tryz.prog 55 13 = true by decide +kernel)) ?_
    refine aA ?_
    refine_lift OR ?_
    refine eY (fun w' x => Runs.loadN (hpb.ext x) rfl (show cY Tryz.prog 55 13 = true by decide +kernel)) ?_
    refine aA ?_
    refine_lift OR ?_
    refine bY (enters_of Tryz.func78 rfl rfl) rfl rfl (fun w' c => hck w' c) ?_
    refine aA ?_
    refine_lift OR ?_
    intro w3 x3
    refine_lift xO (fun _ => ?_) (fun _ => ?_)
    ·have hne := ‹(!decide (a[k] = b[k])) = true›
     have hab : a ≠ b := lG hlt hlt2 (by simpa using hne)
     go_ret
     exact ⟨by rw [decide_eq_false hab]; rfl, hx.trans x3⟩
    ·have heq := ‹(!decide (a[k] = b[k])) = false›
     exact ⟨⟨k + 1, by omega, by go_num, hx.trans x3, eG hall hlt hlt2 (by simpa using heq)⟩, by simp [intOf]; omega⟩
   ·have : k = a.length := by omega
    subst this
    have hab : a = b := by rw [List.take_length, hl, List.take_length] at hall; exact hall
    have hla : ¬ a.length < cs.length := by omega
    refine_lift JK fun _ => ?_
    go_ret
    exact ⟨by rw [decide_eq_true hab]; rfl, hx⟩
def HB : MsgR := ⟨4, false, 0, false, false, false, false, 0, [([1, 97], 252)], [], [], [], 0⟩
def RS : List Rec := [⟨[1, 97], 6, 9, LC⟩, ⟨[1, 97], 6, 9, FL⟩, ⟨[1, 97], 6, 9, LC⟩, ⟨[1, 97], 6, 9, LC⟩]
theorem ZE.eq3 {q : ZE} {e : Int} {o : List UInt8} {l : List RSet} (h : q.e = e ∧ q.o = o ∧ q.l = l) : q = ⟨e, o, l⟩ := by
 obtain ⟨rfl, rfl, rfl⟩ := h
 rfl
theorem RT : eB [] [] [1, 65] wU = ⟨0, [1, 97], mN⟩ := ZE.eq3 (by decide +kernel)
theorem RU : (eB [] [] [1, 97] (wU.take 3)).e = 3 := by decide +kernel
theorem RV : iW [1, 97] mN 5 = 0 := by decide +kernel
theorem SW : rB [1, 97] mN [1, 97] xV = xV := by decide +kernel
theorem SX : nP 5 [1, 97] mN [] [1, 97] xV = [SU] := by decide +kernel
theorem SY : wP [1, 97] xV [SU] 5 = RS := by decide +kernel
theorem RW : eB [1, 97] mN [1, 97] RS = ⟨0, [1, 97], xV⟩ := ZE.eq3 (by decide +kernel)
theorem SZ : gQ HB wU 3 = 0 := by decide +kernel
theorem TA : kX HB (fK HB wU 3) = 0 := by decide +kernel
theorem TB : mQ HB (fK HB wU 3) = wU := by decide +kernel
theorem RX : (fK HB wU 3).length = 2 := by decide +kernel
theorem RY : (aC wU).length = 4 := rfl
theorem OL (w : World) {v : Value} (h : Sl 2 w v (bQ [([1, 97], 252)])) : MsgV w HB v (.slice none 0 0) (.slice none 0 0) (.slice none 0 0) := ⟨h, Sl.nil _ _, Sl.nil _ _, Sl.nil _ _⟩
theorem TC : (aC RS).length = 4 := rfl
theorem TD : ∀ x ∈ fK HB wU 3, x.an.length ≤ 900 := by decide +kernel
theorem QB : DOne [SU] := by unfold DOne; decide +kernel
set_option maxHeartbeats 4000000 in
theorem EE (w : World) : Calls Tryz.prog 10 #[] w (ST w) := by
 go_enter Tryz.func10, Tryz.ntmps10
 refine_lift kU fun _ _ => ?_
 refine aI (enters_of Tryz.func37 rfl rfl) rfl rfl (LG _) ?_
 intro v1 w1 x1 hv1
 refine aA ?_
 refine_lift cV ?_
 refine aI (enters_of Tryz.func36 rfl rfl) rfl rfl (FF [1, 97] v1 DM _ hv1 (by decide) RM) ?_
 rintro _ w2 x2 ⟨z, rfl, hz⟩
 rw [PV, PX]
 rw [PW] at hz
 have hz := hz.sets
 have hz1 : z.oneCell' = true := by obtain ⟨css, h, _⟩ := hz; exact h.one
 have hx2 := x1.trans x2
 refine aA ?_
 refine_lift cV ?_
 refine aF (z := aZ) rfl (by decide +kernel) ?_
 intro w3 x3 s3 h3
 refine aA ?_
 refine aD (v := .agg #[aH [1, 97], z]) rfl rfl rfl h3 (show aO Tryz.prog 25 2 = true by decide +kernel) rfl (cX hz1) ?_
 intro w4 p4
 have x4 : Ext w2 w4 := x3.move p4.mv (by rintro k ⟨⟩; exact Nat.le_refl _)
 have hp4 := aE (cs := [aH [1, 97], z]) p4.this
 have hz4 := hz.ext x4
 have hx4 := hx2.trans x4
 clear p4 h3 x3 hz
 generalize w2.heap.size = bz at *
 refine_lift kU fun _ _ => ?_
 refine aI (enters_of Tryz.func38 rfl rfl) rfl rfl (MY [1, 97] z mN 6 _ hz4 (by decide) GQ RL) ?_
 rintro _ w5 x5 ⟨y, rfl, hy⟩
 rw [LD, LF]
 rw [LE] at hy
 have hy := hy.sets
 have hy1 : y.oneCell' = true := by obtain ⟨css, h, _⟩ := hy; exact h.one
 have hx5 := hx4.trans x5
 have hp5 := hp4.ext x5
 have hz5 := hz4.ext x5
 refine aA ?_
 refine_lift cV ?_
 refine aF (z := aZ) rfl (by decide +kernel) ?_
 intro w6 x6 s6 h6
 refine aA ?_
 refine aD (v := .agg #[aH [1, 97], y]) rfl rfl rfl h6 (show aO Tryz.prog 25 2 = true by decide +kernel) rfl (cX hy1) ?_
 intro w7 p7
 have x7 : Ext w5 w7 := x6.move p7.mv (by rintro k ⟨⟩; exact Nat.le_refl _)
 have hq7 := aE (cs := [aH [1, 97], y]) p7.this
 have hy7 := hy.ext x7
 have hx7 := hx5.trans x7
 have hp7 := hp5.ext x7
 have hz7 := hz5.ext x7
 clear p7 h6 x6 hy hp5 hz5
 generalize w5.heap.size = by' at *
 refine_lift kU fun _ _ => ?_
 refine aI (enters_of Tryz.func11 rfl rfl) rfl rfl (BH [1, 97] z mN _ hz7 GQ) ?_
 rintro _ w8 x8 ⟨l, rfl, hl⟩
 rw [RK]
 rw [RQ] at hl
 have hl := hl.sl
 have hl1 := hl.one
 have hx8 := hx7.trans x8
 have hz8 := hz7.ext x8
 have hy8 := hy7.ext x8
 have hp8 := hp7.ext x8
 have hq8 := hq7.ext x8
 clear hp7 hq7 hz7 hy7 hp4 hz4
 refine aA ?_
 refine_lift kU fun _ _ => ?_
 refine aU (v := .agg aZ.toArray) rfl (Runs.build0 (by kernel_rfl)) ?_
 refine aA ?_
 refine_lift cV ?_
 have hI1 := sG [] (.slice none 0 0) [] [1, 65] l wU w8 (SetsO.nil 0 _).sets hl (by simp) (by simp) (by decide) (by decide) SV
 rw [RT] at hI1
 refine aI (enters_of Tryz.func21 rfl rfl) rfl rfl hI1 ?_
 rintro _ w9 x9 ⟨x, rfl, hxx⟩
 have hxx := hxx.sets
 have hxx1 : x.oneCell' = true := by obtain ⟨css, h, _⟩ := hxx; exact h.one
 have hx9 := hx8.trans x9
 refine aA ?_
 refine_lift cV ?_
 refine aF (z := aZ) rfl (by decide +kernel) ?_
 intro w10 x10 s10 h10
 refine aA ?_
 refine aD (v := .agg #[aH [1, 97], x]) rfl rfl rfl h10 (show aO Tryz.prog 25 2 = true by decide +kernel) rfl (cX hxx1) ?_
 intro w11 p11
 have x11 : Ext w9 w11 := x10.move p11.mv (by rintro k ⟨⟩; exact Nat.le_refl _)
 have hr11 := aE (cs := [aH [1, 97], x]) p11.this
 have hxx11 := hxx.ext x11
 have x811 := x9.trans x11
 have hx11 := hx9.trans x11
 have hl11 := hl.ext x811
 have hz11 := hz8.ext x811
 have hy11 := hy8.ext x811
 have hp11 := hp8.ext x811
 have hq11 := hq8.ext x811
 clear p11 h10 x10 hl hz8 hy8 hp8 hq8 hxx hI1
 generalize w9.heap.size = bx at *
 refine_lift kU fun _ _ => ?_
 refine aU (v := .agg aZ.toArray) rfl (Runs.build0 (by kernel_rfl)) ?_
 refine aA ?_
 have h4 := RY
 refine_lift cV ?_
 refine aN (Runs.maxI (m := ((aC wU).length : Int) - 1) (n := 0) rfl rfl) ?_
 rw [show max (((aC wU).length : Int) - 1) 0 = 3 by rw [RY]; rfl]
 refine aA ?_
 have hc11 : Sl 4 w11 (cW l 4 0 3) (aC (wU.take 3)) := (parts hl11 (n := 3) (by decide)).1
 refine aN (v := cW l 4 0 3) (Runs.takeT (k := 4) (n := 3) rfl hl11 (by decide) (by decide +kernel)) ?_
 refine aA ?_
 have hI2 := sG [] (.slice none 0 0) [] [1, 97] (cW l 4 0 3) (wU.take 3) w11 (SetsO.nil 0 _).sets hc11 (by simp) (by simp) (by decide) (by decide) (by decide +kernel)
 refine aI (enters_of Tryz.func21 rfl rfl) rfl rfl hI2 ?_
 rintro _ w12 x12 ⟨x', rfl, hx'⟩
 rw [RU]
 have hx'1 : x'.oneCell' = true := by obtain ⟨css, h, _⟩ := hx'.sets; exact h.one
 generalize (eB [] [] [1, 97] (wU.take 3)).o = oo' at *
 refine aA ?_
 refine_lift cV ?_
 refine aF (z := aZ) rfl (by decide +kernel) ?_
 intro w13 x13 s13 h13
 refine aA ?_
 refine aD (v := .agg #[aH oo', x']) rfl rfl rfl h13 (show aO Tryz.prog 25 2 = true by decide +kernel) rfl (cX hx'1) ?_
 intro w14 p14
 have x14 : Ext w12 w14 := x13.move p14.mv (by rintro k ⟨⟩; exact Nat.le_refl _)
 have x1114 := x12.trans x14
 have hx14 := hx11.trans x1114
 have hl14 := hl11.ext x1114
 have hz14 := hz11.ext x1114
 have hy14 := hy11.ext x1114
 have hp14 := hp11.ext x1114
 have hq14 := hq11.ext x1114
 have hr14 := hr11.ext x1114
 have hxx14 := hxx11.ext x1114
 clear p14 h13 x13 hl11 hz11 hy11 hp11 hq11 hr11 hxx11 hI2 hx' hc11 s13
 generalize w12.heap.size = bc at *
 refine_lift kU fun _ _ => ?_
 refine bB (enters_of Tryz.func14 rfl rfl) rfl rfl (OF [1, 97] z mN 5 _ hz14 (by decide) GQ) ?_
 rintro e w15 (⟨hne, -⟩ | ⟨-, b, rfl, hJ⟩)
 ·exact absurd RV hne
 refine ⟨_, rfl, ?_⟩
 refine aA ?_
 have x15 := hJ.ext
 have hO := GP RV
 have hx15 := hx14.trans x15
 have hq15 := hq14.ext x15
 refine_lift kU fun _ _ => ?_
 refine bB (enters_of Tryz.func16 rfl rfl) rfl rfl (zQ hJ hO [1, 97] y xV hy14 PM PN) ?_
 rintro e w16 ⟨rfl, hk16, hJ16⟩
 refine ⟨_, rfl, ?_⟩
 have hO16 := hO.next [1, 97] xV
 rw [SW, SX] at hJ16 hO16
 have x16 := hJ16.ext
 have hx16 := hx14.trans x16
 refine aA ?_
 refine_lift kU fun _ _ => ?_
 have hS := EC hJ16 hO16 QB 5
 rw [SY] at hS
 refine aI (enters_of Tryz.func18 rfl rfl) rfl rfl hS ?_
 rintro _ w17 x17 ⟨mv, rfl, hm⟩
 have x1417 := x16.trans x17
 have hx17 := hx14.trans x1417
 have hl17 := hl14.ext x1417
 have hz17 := hz14.ext x1417
 have hy17 := hy14.ext x1417
 have hp17 := hp14.ext x1417
 have hq17 := hq14.ext x1417
 have hr17 := hr14.ext x1417
 have hxx17 := hxx14.ext x1417
 clear hl14 hz14 hy14 hp14 hq14 hr14 hxx14 hS hJ16 hO16 hk16 hJ hO hq15 x15 hx15 x16 hx16 x17
 refine aA ?_
 refine_lift kU fun _ _ => ?_
 have hI3 := sG [1, 97] z mN [1, 97] mv RS w17 hz17 hm GQ PY PZ (by decide) (by decide +kernel)
 rw [RW] at hI3
 refine aI (enters_of Tryz.func21 rfl rfl) rfl rfl hI3 ?_
 rintro _ w18 x18 ⟨u, rfl, hu⟩
 have hu := hu.sets
 have hu1 : u.oneCell' = true := by obtain ⟨css, h, _⟩ := hu; exact h.one
 refine aA ?_
 refine_lift cV ?_
 refine aF (z := aZ) rfl (by decide +kernel) ?_
 intro w19 x19 s19 h19
 refine aA ?_
 refine aD (v := .agg #[aH [1, 97], u]) rfl rfl rfl h19 (show aO Tryz.prog 25 2 = true by decide +kernel) rfl (cX hu1) ?_
 intro w20 p20
 have x20 : Ext w18 w20 := x19.move p20.mv (by rintro k ⟨⟩; exact Nat.le_refl _)
 have ht20 := aE (cs := [aH [1, 97], u]) p20.this
 have hu20 := hu.ext x20
 have x1720 := x18.trans x20
 have hx20 := hx17.trans x1720
 have hl20 := hl17.ext x1720
 have hz20 := hz17.ext x1720
 have hy20 := hy17.ext x1720
 have hp20 := hp17.ext x1720
 have hq20 := hq17.ext x1720
 have hr20 := hr17.ext x1720
 have hxx20 := hxx17.ext x1720
 have hmL := TC
 clear p20 h19 x19 s19 hl17 hz17 hy17 hp17 hq17 hr17 hxx17 hI3 hu
 generalize w18.heap.size = bu at *
 refine_lift kU fun _ _ => ?_
 refine aU (v := .agg #[aH [1, 97], .int .i64 252]) rfl (Runs.build rfl (by kernel_rfl)) ?_
 refine aA ?_
 refine bR (e := 78) (k := 2) (bytes := 24) (xs := [.agg #[aH [1, 97], .int .i64 252]]) rfl rfl rfl (by simp [Value.cells]) (by decide +kernel) (by simp) ?_
 intro qv w21 x21 _ qs _
 refine aA ?_
 have hQ : Sl 2 w21 qv (bQ [([1, 97], 252)]) := qs
 have hQ1 := hQ.one
 obtain ⟨qa, qn, qc, rfl⟩ := hQ.slf
 refine aU (v := .agg (cR HB (.slice qa qn qc) (.slice none 0 0) (.slice none 0 0) (.slice none 0 0)).toArray) rfl (Runs.build rfl (by kernel_rfl)) ?_
 refine aA ?_
 refine aF (z := IQ) rfl (by decide +kernel) ?_
 intro w22 x22 s22 h22
 refine aA ?_
 have hQ22 := OL _ (hQ.ext x22)
 refine aD (v := .agg (cR HB (.slice qa qn qc) (.slice none 0 0) (.slice none 0 0) (.slice none 0 0)).toArray) rfl rfl rfl h22 (show aO Tryz.prog 55 13 = true by decide +kernel) rfl (oN hQ22) ?_
 intro w23 p23
 have x23 : Ext w21 w23 := x22.move p23.mv (by rintro k ⟨⟩; exact Nat.le_refl _)
 have hM23 := aE (cs := cR HB (.slice qa qn qc) (.slice none 0 0) (.slice none 0 0) (.slice none 0 0)) p23.this
 have hQ23 := OL _ (hQ.ext x23)
 have x2023 := x21.trans x23
 have hx23 := hx20.trans x2023
 have hl23 := hl20.ext x2023
 clear p23 h22 x22 s22 hl20 hQ hQ22 qs x21 x23
 generalize w21.heap.size = bq at *
 refine_lift kU fun _ _ => ?_
 refine aN (Runs.loadN hM23 rfl (show cY Tryz.prog 55 13 = true by decide +kernel)) ?_
 refine aA ?_
 refine_lift cV ?_
 have hP := MA HB _ _ _ _ l wU 3 w23 hQ23 hl23 (by decide)
 rw [SZ] at hP
 refine aI (enters_of Tryz.func26 rfl rfl) rfl rfl hP ?_
 rintro _ w24 x24 ⟨pv, rfl, hpm⟩
 have hpm := hpm.msgs
 have hQ24 := hQ23.ext x24
 have hM24 := hM23.ext x24
 refine aA ?_
 refine_lift kU fun _ _ => ?_
 refine aN (Runs.loadN hM24 rfl (show cY Tryz.prog 55 13 = true by decide +kernel)) ?_
 refine aA ?_
 refine_lift cV ?_
 have hU := wV HB _ _ _ _ pv (fK HB wU 3) w24 hQ24 hpm (by rw [RX]; decide) TD
 rw [TA, TB] at hU
 refine aI (enters_of Tryz.func28 rfl rfl) rfl rfl hU ?_
 rintro _ w25 x25 ⟨rv, rfl, hrv⟩
 have hrv := hrv.sl
 have x2025 := x2023.trans (x24.trans x25)
 have hx25 := hx20.trans x2025
 have hl25 := hl23.ext (x24.trans x25)
 have hz25 := hz20.ext x2025
 have hy25 := hy20.ext x2025
 have hp25 := hp20.ext x2025
 have hq25 := hq20.ext x2025
 have hr25 := hr20.ext x2025
 have ht25 := ht20.ext x2025
 have hxx25 := hxx20.ext x2025
 have hu25 := hu20.ext x2025
 have hm25 := hm.ext (x18.trans (x20.trans x2025))
 obtain ⟨pcs, hps, hpc, -⟩ := (hpm.ext x25).out
 rw [RX] at hpc
 clear hz20 hy20 hp20 hq20 hr20 ht20 hxx20 hu20 hm hl23 hQ24 hM24 hQ23 hM23 hP hU hpm
 refine aA ?_
 have b1 : ((aC wU).length : Int) = 4 := rfl
 have b2 : ((aC RS).length : Int) = 4 := rfl
 have b3 : (pcs.length : Int) = 2 := by rw [hpc]; rfl
 refine_lift QW (fun hc => ?_) (fun _ _ hc => ?_)
 all_goals first
  | exact absurd b1 ‹_›
  | skip
 refine aB (enters_of Tryz.func23 rfl rfl) rfl rfl (zS hxx25 hz25 rfl rfl) ?_; intro w26 x26; refine aA ?_
 have hy26 := hy25.ext x26
 have hp26 := hp25.ext x26
 have hq26 := hq25.ext x26
 have ht26 := ht25.ext x26
 have hu26 := hu25.ext x26
 have hm26 := hm25.ext x26
 have hl26 := hl25.ext x26
 have hps26 := hps.ext x26
 have hrv26 := hrv.ext x26
 clear hxx25 hz25 hy25 hp25 hq25 ht25 hu25 hm25 hl25 hps hrv hr25
 refine_lift xO (fun hc => ?_) (fun hc => ?_)
 all_goals first
  | exact absurd b2 ‹_›
  | skip
 refine aB (enters_of Tryz.func23 rfl rfl) rfl rfl (zS hu26 hy26 rfl rfl) ?_; intro w27 x27; refine aA ?_
 have hl27 := hl26.ext x27
 have hps27 := hps26.ext x27
 have hrv27 := hrv26.ext x27
 clear hu26 hy26 hp26 hq26 ht26 hm26 hl26 hps26 hrv26
 refine_lift xO (fun hc => ?_) (fun hc => ?_)
 all_goals first
  | exact absurd b3 ‹_›
  | skip
 have hsm := kM rv l wU wU w27 hrv27 hl27
 rw [decide_eq_true rfl] at hsm
 refine aB (enters_of Tryz.func13 rfl rfl) rfl rfl (hsm) ?_; intro w28 x28; refine aA ?_
 refine_lift cV ?_
 go_ret
 exact ⟨rfl, hx25.trans ((x26.trans x27).trans x28)⟩
theorem lM (w : World) : Calls Tryz.prog 10 #[] w (bC w (.bool true)) := EE w
set_option maxHeartbeats 8000000 in
theorem QK (o : List UInt8) (v : Value) (l : List RSet) (room : Int) (lv : Value) (zs : List (List UInt8 × List RSet)) (s : Int) (w : World) (hv : SetsAt w v l) (hz : ZonesAt w lv zs) :
 Calls Tryz.prog 3 #[.agg (LH o v room lv s).toArray] w (ST w) := by
 go_enter Tryz.func3, Tryz.ntmps3
 refine_lift gT fun _ _ => ?_
 refine dL (vs := LH o v room lv s) rfl rfl ?_
 intro w1 x1 s1 h1
 refine aA ?_
 have hp := aE h1
 have hp0 : Pts w1 (bG (.pointer (some ⟨w.heap.size, 0, none⟩)) 0) [aH o, v] := (hp.part 0).front 2
 have hp2 : Pts w1 (bG (.pointer (some ⟨w.heap.size, 0, none⟩)) 2) [.int .i64 room] := (hp.part 2).front 1
 have hp3 : Pts w1 (bG (.pointer (some ⟨w.heap.size, 0, none⟩)) 3) [lv] := (hp.part 3).front 1
 have hp4 : Pts w1 (bG (.pointer (some ⟨w.heap.size, 0, none⟩)) 4) [.int .i64 s] := hp.part 4
 have hv1 : v.oneCell' = true := by obtain ⟨css, h, _⟩ := hv; exact h.one
 refine_lift kU fun _ _ => ?_
 refine cE (S := fun w' => Ext w1 w') (by decide +kernel) ?_
 intro w2 x2 _
 refine rE 0 ?_; refine aA ?_; refine rE 1 ?_; refine aA ?_
 refine rE 2 (hy := fun _ _ => Runs.fieldJ (off := 2) rfl (by decide +kernel)) ?_; refine aA ?_
 refine rE 3 ?_; refine aA ?_
 refine rE 4 (hy := fun _ _ => Runs.fieldJ (off := 3) rfl (by decide +kernel)) ?_; refine aA ?_
 refine rE 5 ?_; refine aA ?_
 refine rE 6 (hy := fun _ _ => Runs.fieldJ (off := 4) rfl (by decide +kernel)) ?_; refine aA ?_
 refine rE 7 ?_; refine aA ?_
 refine aY (i := 8) (by decide +kernel) rfl rfl ?_
 refine aF (z := aZ) rfl (by decide +kernel) ?_
 intro w3 x3 s3 h3
 refine aA ?_
 have x23 := x2.trans x3
 refine aK ⟨x23, ?_⟩
 refine aY (i := 9) (by decide +kernel) rfl rfl ?_
 refine aD (v := .agg #[aH o, v]) rfl rfl rfl h3 (show aO Tryz.prog 25 2 = true by decide +kernel) rfl (cX hv1) ?_
 intro w4 p4
 have x14 : Ext w1 w4 := x23.move p4.mv (by rintro k ⟨⟩; exact x2.size)
 refine aK ⟨x14, ?_⟩
 refine rE 10 ?_; refine aA ?_; refine rE 11 ?_; refine aA ?_; refine rE 12 ?_; refine aA ?_
 refine cL (by decide +kernel) ?_
 have x4 : Ext w w4 := (x1.trans x23).move p4.mv (by rintro k ⟨⟩; exact (x1.trans x2).size)
 have hq := aE (cs := [aH o, v]) p4.this
 have hv4 := hv.ext x4
 have hz4 := hz.ext x4
 clear p4 h3 x3 x23 hp hp0 hp2 hp3 hp4 s3
 generalize w2.heap.size = bz at *
 refine_lift PB fun _ _ _ _ => ?_
 refine aB (enters_of Tryz.func9 rfl rfl) rfl rfl (KS o v l _ hv4) ?_; intro w5 x5; refine aA ?_
 have hx5 := x4.trans x5
 have hq5 := hq.ext x5
 have hv5 := hv4.ext x5
 have hz5 := hz4.ext x5
 obtain ⟨cs5, sl5, cl5, at5⟩ := hz5.out
 cases hf : (decide ((o.length : Int) ≤ 300) && tL l) with
 | false =>
  refine_lift kU fun _ _ => ?_
  refine aB (enters_of Tryz.func10 rfl rfl) rfl rfl (lM _) ?_; intro w6 x6; refine aA ?_
  refine_lift cV ?_
  go_ret
  exact ⟨rfl, hx5.trans x6⟩
 | true =>
  obtain ⟨fl, fb, fd, fo, fd2, fe⟩ := RN hf
  refine_lift JM (fun _ _ _ => ?_) (fun _ _ _ => ?_)
  ·refine aB (enters_of Tryz.func10 rfl rfl) rfl rfl (lM _) ?_; intro w6 x6; refine aA ?_
   refine_lift cV ?_
   go_ret
   exact ⟨rfl, hx5.trans x6⟩
  ·refine aI (enters_of Tryz.func11 rfl rfl) rfl rfl (BH o v l _ hv5 fb) ?_
   rintro _ w6 x6 ⟨y1, rfl, o1⟩
   refine aA ?_
   have hq6 := hq5.ext x6
   have hx6 := hx5.trans x6
   refine_lift kU fun _ _ => ?_
   refine aI (enters_of Tryz.func12 rfl rfl) rfl rfl (AB o v l _ (hv5.ext x6) fb fd) ?_
   rintro _ w7 x7 ⟨y2, rfl, o2⟩
   refine aA ?_
   have hq7 := hq6.ext x7
   have x57 := x6.trans x7
   have hx7 := hx6.trans x7
   have hsm : ∀ w', Ext w7 w' → Calls Tryz.prog 13 #[y1, y2] w' (bC w' (.bool true)) := fun w' c => by
    have := kM y1 y2 _ _ w' ((o1.sl.ext x7).ext c) (o2.sl.ext c)
    rwa [decide_eq_true rfl] at this
   clear hq6 hx6 o1 o2
   have eZ : aQ o l = aQ o l := rfl
   refine_lift PB fun _ _ _ _ => ?_
   refine aB (enters_of Tryz.func13 rfl rfl) rfl rfl (hsm _ (Ext.refl _)) ?_; intro w8 x8; refine aA ?_
   have hq8 := hq7.ext x8
   have x58 := x57.trans x8
   have hx8 := hx7.trans x8
   have hv8 := hv5.ext x58
   have hz8 := hz5.ext x58
   clear hq7 hsm
   refine_lift kU fun _ _ => ?_
   all_goals first
    | (exfalso; have hh := ‹(!decide (aQ o l = aQ o l)) = true›; simp at hh; done)
    | skip
   refine bB (enters_of Tryz.func14 rfl rfl) rfl rfl (OF o v l room _ hv8 (by omega) fb) ?_
   rintro e w9 (⟨hne, rfl, x9⟩ | ⟨h0, b, rfl, hJ9⟩)
   ·refine ⟨_, rfl, ?_⟩
    refine aA ?_
    have hq9 := hq8.ext x9
    have hx9 := hx8.trans x9
    refine_lift kU fun _ _ => ?_
    refine bB (enters_of Tryz.func15 rfl rfl) rfl rfl (GN (w0 := w8) o v l room _ x9 (hv8.ext x9) (by omega) fb fd) ?_
    rintro e w10 (⟨-, rfl, x10⟩ | ⟨h0, -⟩)
    ·refine ⟨_, rfl, ?_⟩
     refine aA ?_
     refine_lift SK (fun _ _ _ => ?_) (fun _ _ _ _ _ => ?_)
     all_goals first
      | (exfalso; have hh := ‹(!decide (iW o l room = 0)) = false›; simp [hne] at hh; done)
      | skip
     refine aB (enters_of Tryz.func10 rfl rfl) rfl rfl (lM _) ?_; intro w11 x11; refine aA ?_
     refine_lift cV ?_
     go_ret
     exact ⟨rfl, (hx9.trans x10).trans x11⟩
    ·exact absurd h0 hne
   ·refine ⟨_, rfl, ?_⟩
    refine aA ?_
    have x9 := hJ9.ext
    refine_lift kU fun _ _ => ?_
    refine bB (enters_of Tryz.func15 rfl rfl) rfl rfl (GN (w0 := w8) o v l room _ x9 (hv8.ext x9) (by omega) fb fd) ?_
    rintro e w10 (⟨hne, -⟩ | ⟨-, c, rfl, x10, hK10⟩)
    ·exact absurd h0 hne
    refine ⟨_, rfl, ?_⟩
    refine aA ?_
    have hJ10 := hJ9.grow x10
    have hO := GP h0
    clear x9 x10 hJ9 hq8
    refine_lift kU fun _ _ => ?_
    go_loopw [15] (fun i wr => ∃ (k : Nat) (l : List RSet) (ds : List DeltaR), k ≤ zs.length ∧ i = .int .i64 k ∧ JAt w8 wr b o l room ds ∧ KAt w8 wr c o l room ds ∧ JOk o l room ds ∧ DOne ds) (fun i _ => zs.length - (intOf i).toNat)
    case atStart => exact ⟨0, l, [], Nat.zero_le _, rfl, hJ10, hK10, hO, by intro d hd; simp at hd⟩
    case round =>
     clear hJ10 hK10 hO
     obtain ⟨k, l2, ds, hk, rfl, hJ, hK, hO, hD⟩ := hrel
     have hx := hJ.ext
     have hx5r := x58.trans hx
     by_cases hlt : k < zs.length
     ·obtain ⟨u, hc, hu⟩ := at5 k _ (List.getElem?_eq_getElem hlt)
      have hkc : k < cs5.length := by omega
      have slr := sl5.ext hx5r
      have hpe := slr.elem hc
      have hu8 := hu.ext x58
      refine_lift UE ?_; intro _ _ _ _ _ _ _ _
      refine aB (enters_of Tryz.func9 rfl rfl) rfl rfl (KS zs[k].1 u zs[k].2 _ (hu.ext hx5r)) ?_; intro w11 x11; refine aA ?_
      have hx11 := hx.trans x11
      have hJ11 := hJ.grow x11
      have hK11 := hK.grow x11
      cases hg : (decide ((zs[k].1.length : Int) ≤ 300) && tL zs[k].2) with
      | false =>
       refine_lift kU fun _ _ => ?_
       refine aB (enters_of Tryz.func10 rfl rfl) rfl rfl (lM _) ?_; intro w12 x12; refine aA ?_
       refine_lift cV ?_
       go_ret
       exact ⟨rfl, hx8.trans (hx11.trans x12)⟩
      | true =>
       obtain ⟨gl, gb, gd, _⟩ := RN hg
       have slr := sl5.ext (x58.trans hx11)
       have hpe := slr.elem hc
       clear hJ hK
       refine_lift kU fun _ _ => ?_
       refine bB (enters_of Tryz.func16 rfl rfl) rfl rfl (zQ hJ11 hO zs[k].1 u zs[k].2 hu8 gb gd) ?_
       rintro e w12 ⟨rfl, hk12, hJ12⟩
       refine ⟨_, rfl, ?_⟩
       refine aA ?_
       have hx12 := hJ12.ext
       have hK12 := hK11.keep hk12 hx12 (by decide) (by decide) (by decide) (by decide) (by decide)
       have slr := sl5.ext (x58.trans hx12)
       have hpe := slr.elem hc
       refine_lift cV ?_
       refine bB (enters_of Tryz.func17 rfl rfl) rfl rfl (DL hK12 hO zs[k].1 u zs[k].2 hu8 gb gd) ?_
       rintro e w13 ⟨rfl, hk13, hK13⟩
       refine ⟨_, rfl, ?_⟩
       refine aA ?_
       have hx13 := hK13.ext
       have hJ13 := hJ12.keep hk13 hx13 (by decide) (by decide) (by decide) (by decide) (by decide)
       have hO2 := hO.next zs[k].1 zs[k].2
       have hD2 := hD.next hO zs[k].1 zs[k].2
       clear hk12 hk13 hJ12 hK12 hJ11 hK11 hx11 hx12
       refine_lift cV ?_
       exact ⟨⟨k + 1, _, _, by omega, by go_num, hJ13, hK13, hO2, hD2⟩, by simp [intOf]; omega⟩
     ·have hke : ¬ k < cs5.length := by omega
      refine_lift SB fun _ _ _ => ?_
      refine aI (enters_of Tryz.func18 rfl rfl) rfl rfl (EC hJ hO hD s) ?_
      rintro _ w11 x11 ⟨y3, rfl, s3⟩
      refine aA ?_
      have hK11 := hK.grow x11
      have hx11 := hx.trans x11
      refine_lift kU fun _ _ => ?_
      refine aI (enters_of Tryz.func19 rfl rfl) rfl rfl (IS hK11 hO s) ?_
      rintro _ w12 x12 ⟨y4, rfl, s4⟩
      refine aA ?_
      have hx12 := hx11.trans x12
      have hsm := kM y3 y4 _ _ w12 (s3.ext x12) s4.sl
      rw [decide_eq_true rfl] at hsm
      clear s3 s4 hK11 hJ hK hx11
      refine_lift kU fun _ _ => ?_
      refine aB (enters_of Tryz.func13 rfl rfl) rfl rfl (hsm) ?_; intro w13 x13; refine aA ?_
      refine_lift cV ?_
      refine aB (enters_of Tryz.func10 rfl rfl) rfl rfl (lM _) ?_; intro w14 x14; refine aA ?_
      refine_lift cV ?_
      go_ret
      exact ⟨rfl, hx8.trans ((hx12.trans x13).trans x14)⟩
open Go.ChangeShapes Go.WideShapes Go.ChangeAt Go.RowKit
theorem lN {H : Type} {enc : TypeId × Value → H} {P : Program} {w : World} {base : Nat} {spare : Nat → Bool} {held : Bool} {t : TypeId} {fuel : Nat} {c : Value} {x : DataW H × List MemPlace} (ht : P.underlying t = some .bool) (h : DataW.trod enc P w base spare held fuel t [c] = some x) : ∃ b : Bool, c = .bool b := by
 obtain ⟨b, h1, _⟩ := DataW.trod_bool ht h
 exact ⟨b, by simpa using h1⟩
theorem EF {H : Type} {enc : TypeId × Value → H} {w : World} {base : Nat} {spare : Nat → Bool} {held : Bool} {fuel : Nat} {v : Value} {x : DataW H × List MemPlace} (h : DataW.trod enc Tryz.prog w base spare held fuel 53 [v] = some x) : ∃ qs : List xX, Sl 2 w v (bQ qs) := by
 obtain ⟨es, hs, he⟩ := jR Tryz.underlying53 (show Tryz.prog.cellsOf 78 = 2 by kernel_rfl) (by omega) h
 obtain ⟨l, rfl⟩ : ∃ l : List xX, es = l.map fun q => [aH q.1, .int .i64 q.2] := by
  refine lU fun c hc => ?_
  obtain ⟨n, y, hy⟩ := he c hc
  obtain ⟨xs, n', _, _, hl, hxl, hf⟩ := DataW.trod_struct Tryz.underlying78 hy
  have c3 : Tryz.prog.cellsOf 3 = 1 := by kernel_rfl
  have c22 : Tryz.prog.cellsOf 22 = 1 := by kernel_rfl
  have c65 : Tryz.prog.cellsOf 78 = 2 := by kernel_rfl
  rw [c65] at hl
  match c, hl, xs, hxl with
  | [a, b], _, [y0, y1], _ =>
   have g0 := hf 0 _ rfl
   have g1 := hf 1 _ rfl
   simp [c3, c22] at g0 g1
   obtain ⟨s0, rfl, _⟩ := lE Tryz.underlying22 g0
   obtain ⟨n1, rfl, _⟩ := fA Tryz.underlying3 g1
   exact ⟨(s0, n1), rfl⟩
 exact ⟨l, hs⟩
theorem EG {H : Type} {enc : TypeId × Value → H} {w : World} {base : Nat} {spare : Nat → Bool} {held : Bool} {fuel : Nat} {cl : List Value} {x : DataW H × List MemPlace} (h : DataW.trod enc Tryz.prog w base spare held fuel 55 cl = some x) :
 ∃ (m : MsgR) (q a u e : Value), cl = cR m q a u e ∧ MsgV w m q a u e := by
 obtain ⟨xs, n', _, _, hl, hxl, hf⟩ := DataW.trod_struct Tryz.underlying55 h
 have c3 : Tryz.prog.cellsOf 3 = 1 := by kernel_rfl
 have c4 : Tryz.prog.cellsOf 4 = 1 := by kernel_rfl
 have c5 : Tryz.prog.cellsOf 53 = 1 := by kernel_rfl
 have c6 : Tryz.prog.cellsOf 31 = 1 := by kernel_rfl
 have c7 : Tryz.prog.cellsOf 55 = 13 := by kernel_rfl
 rw [c7] at hl
 match cl, hl, xs, hxl with
 | [a0, a1, a2, a3, a4, a5, a6, a7, a8, a9, a10, a11, a12], _, [y0, y1, y2, y3, y4, y5, y6, y7, y8, y9, y10, y11, y12], _ =>
  have g0 := hf 0 _ rfl
  have g1 := hf 1 _ rfl
  have g2 := hf 2 _ rfl
  have g3 := hf 3 _ rfl
  have g4 := hf 4 _ rfl
  have g5 := hf 5 _ rfl
  have g6 := hf 6 _ rfl
  have g7 := hf 7 _ rfl
  have g8 := hf 8 _ rfl
  have g9 := hf 9 _ rfl
  have g10 := hf 10 _ rfl
  have g11 := hf 11 _ rfl
  have g12 := hf 12 _ rfl
  simp [c3, c4, c5, c6] at g0 g1 g2 g3 g4 g5 g6 g7 g8 g9 g10 g11 g12
  obtain ⟨n0, rfl, _⟩ := fA Tryz.underlying3 g0
  obtain ⟨n1, rfl⟩ := lN Tryz.underlying4 g1
  obtain ⟨n2, rfl, _⟩ := fA Tryz.underlying3 g2
  obtain ⟨n3, rfl⟩ := lN Tryz.underlying4 g3
  obtain ⟨n4, rfl⟩ := lN Tryz.underlying4 g4
  obtain ⟨n5, rfl⟩ := lN Tryz.underlying4 g5
  obtain ⟨n6, rfl⟩ := lN Tryz.underlying4 g6
  obtain ⟨n7, rfl, _⟩ := fA Tryz.underlying3 g7
  obtain ⟨qs, h8⟩ := EF g8
  obtain ⟨l9, h9⟩ := oG g9
  obtain ⟨l10, h10⟩ := oG g10
  obtain ⟨l11, h11⟩ := oG g11
  obtain ⟨n12, rfl, _⟩ := fA Tryz.underlying3 g12
  exact ⟨⟨n0, n1, n2, n3, n4, n5, n6, n7, qs, l9, l10, l11, n12⟩, a8, a9, a10, a11, rfl, ⟨h8, h9, h10, h11⟩⟩
theorem IU {H : Type} {enc : TypeId × Value → H} {w : World} {base : Nat} {spare : Nat → Bool} {held : Bool} {fuel : Nat} {v : Value} {x : DataW H × List MemPlace} (h : DataW.trod enc Tryz.prog w base spare held fuel 56 [v] = some x) : ∃ ms : List MsgR, MsgsAt w v ms := by
 obtain ⟨es, hs, he⟩ := jR Tryz.underlying56 (show Tryz.prog.cellsOf 55 = 13 by kernel_rfl) (by omega) h
 obtain ⟨l, rfl⟩ : ∃ l : List {p : MsgR × Value × Value × Value × Value // MsgV w p.1 p.2.1 p.2.2.1 p.2.2.2.1 p.2.2.2.2}, es = l.map fun p => cR p.1.1 p.1.2.1 p.1.2.2.1 p.1.2.2.2.1 p.1.2.2.2.2 := by
  refine lU fun c hc => ?_
  obtain ⟨n, y, hy⟩ := he c hc
  obtain ⟨m, q, a, u, e, rfl, hu⟩ := EG hy
  exact ⟨⟨(m, q, a, u, e), hu⟩, rfl⟩
 refine ⟨l.map fun p => p.1.1, _, hs, by simp, ?_⟩
 intro i s hi
 rw [List.getElem?_map] at hi
 obtain ⟨p, hp, rfl⟩ := Option.map_eq_some_iff.1 hi
 exact ⟨p.1.2.1, p.1.2.2.1, p.1.2.2.2.1, p.1.2.2.2.2, by rw [List.getElem?_map, hp]; rfl, p.2⟩
def BJ (m : MsgR) (q a u e lv : Value) (most : Int) (mv : Value) : List Value := cR m q a u e ++ [lv, .int .i64 most, mv]
theorem QC {H : Type} {enc : TypeId × Value → H} {w : World} {base : Nat} {spare : Nat → Bool} {held : Bool} {fuel : Nat} {c : Array Value} {x : DataW H × List MemPlace} (h : DataW.trod enc Tryz.prog w base spare held fuel 58 (Value.agg c).cells.toList = some x) :
 ∃ (m : MsgR) (q a u e lv : Value) (l : List Rec) (most : Int) (mv : Value) (ms : List MsgR), c = (BJ m q a u e lv most mv).toArray ∧ MsgV w m q a u e ∧ Sl 4 w lv (aC l) ∧ MsgsAt w mv ms := by
 have e : (Value.agg c).cells.toList = c.toList := rfl
 rw [e] at h
 obtain ⟨xs, n', _, _, hl, hxl, hf⟩ := DataW.trod_struct Tryz.underlying58 h
 have c3 : Tryz.prog.cellsOf 3 = 1 := by kernel_rfl
 have c5 : Tryz.prog.cellsOf 56 = 1 := by kernel_rfl
 have c6 : Tryz.prog.cellsOf 31 = 1 := by kernel_rfl
 have c7 : Tryz.prog.cellsOf 55 = 13 := by kernel_rfl
 have c8 : Tryz.prog.cellsOf 58 = 16 := by kernel_rfl
 rw [c8] at hl
 obtain ⟨cl⟩ := c
 match cl, hl, xs, hxl with
 | [a0, a1, a2, a3, a4, a5, a6, a7, a8, a9, a10, a11, a12, b1, b2, b3], _, [y0, y1, y2, y3], _ =>
  have g0 := hf 0 _ rfl
  have g1 := hf 1 _ rfl
  have g2 := hf 2 _ rfl
  have g3 := hf 3 _ rfl
  simp [c3, c5, c6, c7] at g0 g1 g2 g3
  obtain ⟨m, q, a, u, e', em, hm⟩ := EG g0
  obtain ⟨l, hls⟩ := oG g1
  obtain ⟨n2, rfl, _⟩ := fA Tryz.underlying3 g2
  obtain ⟨ms, hms⟩ := IU g3
  refine ⟨m, q, a, u, e', b1, l, n2, b3, ms, ?_, hm, hls, hms⟩
  rw [BJ, ← em]
  rfl
set_option maxHeartbeats 2000000 in
theorem FV (m : MsgR) (q a u e v : Value) (ms : List MsgR) (w : World) (hm : MsgV w m q a u e) (hv : MsgsAt w v ms) (hl : ms.length ≤ 1000) (ha : ∀ x ∈ ms, x.an.length ≤ 900) :
 Calls Tryz.prog 29 #[.agg (cR m q a u e).toArray, v] w (jK w fun r w' => ∃ y, r = .tuple #[y, .int .i64 (kX m ms)] ∧ Own w.heap.size 4 47 w' y (aC (mQ m ms))) := by
 have hql := bN m.qs
 obtain ⟨css, hs, hcl, hat⟩ := hv.out
 go_enter Tryz.func29, Tryz.ntmps29
 refine_lift rF ?_; intro _ _ _
 refine aT (vs := cR m q a u e) rfl rfl ?_
 intro p w1 x1 hp
 refine aA ?_
 unfold cR at hp
 have hq1 := hm.qs.ext x1
 have hs1 := hs.ext x1
 by_cases h1 : m.qs.length = 1
 ·have h1' : ((bQ m.qs).length : Int) = 1 := by omega
  by_cases h0 : ms = []
  ·have h0' : (css.length : Int) = 0 := by rw [hcl, h0]; rfl
   have hE : kX m ms = 2 := by rw [kX, if_neg (by simpa using h1), if_pos h0]
   refine_lift OZ (fun _ _ _ _ => ?_) (fun _ => ?_)
   all_goals first
    | (exfalso; have hh := ‹(!decide (((bQ m.qs).length : Int) = 1)) = true›; simp [h1'] at hh; done)
    | (exfalso; omega)
    | skip
   go_ret2
   refine ⟨_, rfl, x1, .slice none 0 0, by rw [hE]; rfl, ?_⟩
   rw [mQ, if_neg (by rw [hE]; decide)]
   exact Own.nil _ _ _ _
  ·have h0' : ¬ (css.length : Int) = 0 := by
    have := List.length_pos_iff.2 h0
    omega
   have hE : kX m ms = if ms.all (lO m) = true then 0 else 2 := by rw [kX, if_neg (by simpa using h1), if_neg h0]
   refine_lift OZ (fun _ _ _ _ => ?_) (fun _ => ?_)
   all_goals first
    | (exfalso; have hh := ‹(!decide (((bQ m.qs).length : Int) = 1)) = true›; simp [h1'] at hh; done)
    | (exfalso; omega)
    | skip
   have hsz1 := x1.size
   go_loopw [6, 7] (fun o i wr => ∃ k : Nat, k ≤ ms.length ∧ i = .int .i64 k ∧ Ext w1 wr ∧ Own w1.heap.size 4 47 wr o (aC ((ms.take k).map (·.an)).flatten) ∧ (ms.take k).all (lO m) = true) (fun _ i _ => ms.length - (intOf i).toNat)
   case atStart => exact ⟨0, Nat.zero_le _, rfl, Ext.refl _, Own.nil _ _ _ _, rfl⟩
   case round =>
    obtain ⟨k, hk, rfl, hx, ho, hall⟩ := hrel
    have hpr := hp.ext hx
    have hsr := hs1.ext hx
    by_cases hlt : k < ms.length
    ·obtain ⟨qk, ak, uk, ek, hck, hmk⟩ := hat k _ (List.getElem?_eq_getElem hlt)
     have hpe := hsr.elem hck
     have hkc : k < css.length := by omega
     have hmr := (hmk.ext x1).ext hx
     have hak := ha _ (List.getElem_mem hlt)
     unfold cR at hpe
     refine_lift ME ?_; intro _ _ _ _ _ _
     refine aF (z := IQ) rfl (by decide +kernel) ?_
     intro w3 x3 s3 h3
     refine aA ?_
     refine aD (v := .agg (cR ms[k] qk ak uk ek).toArray) rfl rfl rfl h3 (show aO Tryz.prog 55 13 = true by decide +kernel) rfl (oN hmr) ?_
     intro w4 p4
     have x4 : Ext wr w4 := x3.move p4.mv (by rintro k ⟨⟩; exact Nat.le_refl _)
     have hk4 : w4.heap[wr.heap.size]? = some (.cells (cR ms[k] qk ak uk ek).toArray 55 (0, 0)) := p4.this
     have hx4 := hx.trans x4
     have hp4 := hpr.ext x4
     have ho4 := ho.ext x4
     have hm4 := hmr.ext x4
     clear p4 h3 x3 x4 hpe hpr ho hx
     generalize wr.heap.size = mk at *
     have hpm := aE (cs := cR ms[k] qk ak uk ek) hk4
     unfold cR at hpm
     obtain ⟨x, hx0⟩ : ∃ x, x = ms[k] := ⟨_, rfl⟩
     rw [← hx0] at hpm hm4 hak
     have hx0 := hx0.symm
     cases hre : x.resp with
     | false =>
      rw [hre] at hpm
      refine_lift cV ?_
      go_ret2
      refine ⟨_, rfl, x1.trans hx4, .slice none 0 0, by rw [hE, if_neg (by rw [dP hlt (p := lO m) (by rw [hx0]; simp [lO, hre])]; decide)]; rfl, ?_⟩
      rw [mQ, if_neg (by rw [hE, if_neg (by rw [dP hlt (p := lO m) (by rw [hx0]; simp [lO, hre])]; decide)]; decide)]
      exact Own.nil _ _ _ _
     | true =>
      rw [hre] at hpm
      by_cases hid : x.id = m.id
      ·by_cases hrc : x.rcode = 0
       ·cases htr : x.trunc with
        | true =>
         rw [htr] at hpm
         refine_lift CF (fun hc hc => ?_) (fun hc => ?_) (fun hc hc => ?_)
         all_goals first
          | (exfalso; have hh := ‹(!decide (x.id = m.id)) = true›; simp [hid] at hh; done)
          | (exfalso; have hh := ‹(!decide (x.id = m.id)) = false›; simp [hid] at hh; done)
          | (exfalso; have hh := ‹(!decide (x.rcode = 0)) = true›; simp [hrc] at hh; done)
          | (exfalso; have hh := ‹(!decide (x.rcode = 0)) = false›; simp [hrc] at hh; done)
          | skip
         go_ret2
         refine ⟨_, rfl, x1.trans hx4, .slice none 0 0, by rw [hE, if_neg (by rw [dP hlt (p := lO m) (by rw [hx0]; simp [lO, hre, hid, hrc, htr])]; decide)]; rfl, ?_⟩
         rw [mQ, if_neg (by rw [hE, if_neg (by rw [dP hlt (p := lO m) (by rw [hx0]; simp [lO, hre, hid, hrc, htr])]; decide)]; decide)]
         exact Own.nil _ _ _ _
        | false =>
         rw [htr] at hpm
         refine_lift CF (fun hc hc => ?_) (fun hc => ?_) (fun hc hc => ?_)
         all_goals first
          | (exfalso; have hh := ‹(!decide (x.id = m.id)) = true›; simp [hid] at hh; done)
          | (exfalso; have hh := ‹(!decide (x.id = m.id)) = false›; simp [hid] at hh; done)
          | (exfalso; have hh := ‹(!decide (x.rcode = 0)) = true›; simp [hrc] at hh; done)
          | (exfalso; have hh := ‹(!decide (x.rcode = 0)) = false›; simp [hrc] at hh; done)
          | skip
         have hfl := GZ (ms := ms.take k) (n := 900) (fun y hy => ha y (List.mem_of_mem_take hy))
         have htk : (ms.take k).length ≤ 999 := by rw [List.length_take]; omega
         have hfl2 := Nat.le_trans hfl (Nat.mul_le_mul_right 900 htk)
         refine bW rfl ho4 rfl hm4.an eK (Ext.size hx4) (by rw [aG, aG]; omega) ?_
         intro v5 w5 o5 m5 _
         refine aA ?_
         have hx5 := ho4.mvx m5 hx4 (Nat.le_refl _)
         refine_lift cV ?_
         have o5' : Own w1.heap.size 4 47 w5 v5 (aC ((ms.take (k + 1)).map (·.an)).flatten) := by
          rw [AA hlt, kF, hx0]
          exact o5
         exact ⟨⟨k + 1, by omega, rfl, hx5, o5', gW hlt hall (by rw [hx0]; simp [lO, hre, hid, hrc, htr])⟩, by simp [intOf]; omega⟩
       ·skip
        refine_lift uK (fun hc hc _ => ?_) (fun hc hc => ?_) (fun hc => ?_) (fun hc hc _ => ?_)
        all_goals first
         | (exfalso; have hh := ‹(!decide (x.id = m.id)) = true›; simp [hid] at hh; done)
         | (exfalso; have hh := ‹(!decide (x.id = m.id)) = false›; simp [hid] at hh; done)
         | (exfalso; have hh := ‹(!decide (x.rcode = 0)) = true›; simp [hrc] at hh; done)
         | (exfalso; have hh := ‹(!decide (x.rcode = 0)) = false›; simp [hrc] at hh; done)
         | skip
        go_ret2
        refine ⟨_, rfl, x1.trans hx4, .slice none 0 0, by rw [hE, if_neg (by rw [dP hlt (p := lO m) (by rw [hx0]; simp [lO, hre, hid, hrc])]; decide)]; rfl, ?_⟩
        rw [mQ, if_neg (by rw [hE, if_neg (by rw [dP hlt (p := lO m) (by rw [hx0]; simp [lO, hre, hid, hrc])]; decide)]; decide)]
        exact Own.nil _ _ _ _
      ·skip
       refine_lift uK (fun hc hc _ => ?_) (fun hc hc => ?_) (fun hc => ?_) (fun hc hc _ => ?_)
       all_goals first
        | (exfalso; have hh := ‹(!decide (x.id = m.id)) = true›; simp [hid] at hh; done)
        | (exfalso; have hh := ‹(!decide (x.id = m.id)) = false›; simp [hid] at hh; done)
        | skip
       go_ret2
       refine ⟨_, rfl, x1.trans hx4, .slice none 0 0, by rw [hE, if_neg (by rw [dP hlt (p := lO m) (by rw [hx0]; simp [lO, hre, hid])]; decide)]; rfl, ?_⟩
       rw [mQ, if_neg (by rw [hE, if_neg (by rw [dP hlt (p := lO m) (by rw [hx0]; simp [lO, hre, hid])]; decide)]; decide)]
       exact Own.nil _ _ _ _
    ·have hk2 : k = ms.length := by omega
     subst hk2
     rw [List.take_length] at hall ho
     refine_lift JK fun _ => ?_
     go_ret2
     refine ⟨_, rfl, x1.trans hx, _, by rw [hE, if_pos hall]; rfl, ?_⟩
     rw [mQ, if_pos (by rw [hE, if_pos hall])]
     exact ho.weaken hsz1
 ·have h1' : ¬ ((bQ m.qs).length : Int) = 1 := by omega
  have hE : kX m ms = 1 := by rw [kX, if_pos h1]
  refine_lift GB (fun _ _ _ _ => ?_) (fun _ _ _ _ => ?_) (fun _ => ?_)
  all_goals first
   | (exfalso; have hh := ‹(!decide (((bQ m.qs).length : Int) = 1)) = false›; simp [h1'] at hh; done)
   | skip
  go_ret2
  refine ⟨_, rfl, x1, .slice none 0 0, by rw [hE]; rfl, ?_⟩
  rw [mQ, if_neg (by rw [hE]; decide)]
  exact Own.nil _ _ _ _
theorem fF (w : World) : Calls Tryz.prog 10 #[] w (bC w (.bool true)) := EE w
theorem BK {l : List Rec} (h : fQ l = true) : l.length ≤ 25 ∧ ∀ r ∈ l, r.data.length ≤ 300 := by
 simp only [fQ, Bool.and_eq_true, decide_eq_true_eq, List.all_eq_true] at h
 refine ⟨h.1, fun r hr => ?_⟩
 have := h.2 r hr
 simp only [jN, Bool.and_eq_true, decide_eq_true_eq] at this
 omega
theorem RZ {m : MsgR} (h : ED m = true) : (∀ r, r ∈ m.an ∨ r ∈ m.au ∨ r ∈ m.ex → r.data.length ≤ 300) ∧ m.an.length ≤ 25 := by
 unfold ED at h
 simp only [Bool.and_eq_true] at h
 have h1 := BK h.2.1.1
 have h2 := BK h.2.1.2
 have h3 := BK h.2.2
 exact ⟨fun r hr => hr.elim (h1.2 r) fun hr => hr.elim (h2.2 r) (h3.2 r), h1.1⟩
theorem tI {n : Nat} : ∀ (f : Nat) (l : List Rec), (dT f n l).flatten = l
 | 0, l => by simp [dT]
 | f + 1, l => by
   rw [dT]
   split
   ·simp
   ·rw [List.flatten_cons, tI (n := n) f, List.take_append_drop]
theorem IV {n : Nat} : ∀ (f : Nat) (l : List Rec), dT f n l ≠ []
 | 0, l => by simp [dT]
 | f + 1, l => by
   rw [dT]
   split <;> simp
theorem wY {n : Nat} : ∀ (f : Nat) (l : List Rec), (dT f n l).length ≤ f + 1 ∧ ∀ x ∈ dT f n l, x.length ≤ l.length
 | 0, l => by simp [dT]
 | f + 1, l => by
   rw [dT]
   split
   ·simp
   ·obtain ⟨a, b⟩ := wY (n := n) f (l.drop n)
    refine ⟨by rw [List.length_cons]; omega, fun x hx => ?_⟩
    rcases List.mem_cons.1 hx with rfl | hx
    ·rw [List.length_take]; omega
    ·have := b x hx; rw [List.length_drop] at this; omega
theorem IW {m : MsgR} {l : List Rec} {most : Int} (h : gQ m l most = 0) : kX m (fK m l most) = 0 ∧ mQ m (fK m l most) = l := by
 have hB : iD m l most = true := by
  unfold gQ at h
  split at h
  ·assumption
  ·cases h
 have hq : m.qs.length = 1 := by
  simp only [iD, Bool.and_eq_true, decide_eq_true_eq] at hB
  exact hB.1.2.1
 have hL : fK m l most = (eE most.toNat l).map (cP m) := by rw [fK, if_pos hB]
 have hE : kX m (fK m l most) = 0 := by
  rw [kX, if_neg (by omega), if_neg (by rw [hL]; intro e; exact IV _ _ (List.map_eq_nil_iff.1 e)), if_pos]
  rw [hL, List.all_eq_true]
  intro x hx
  obtain ⟨y, _, rfl⟩ := List.mem_map.1 hx
  simp [lO, cP]
 refine ⟨hE, ?_⟩
 rw [mQ, if_pos hE, hL, List.map_map]
 show (List.map (fun x => x) (eE most.toNat l)).flatten = l
 rw [List.map_id']
 exact tI _ _
theorem FW {m : MsgR} {l : List Rec} {most : Int} (h : l.length ≤ 25) : (fK m l most).length ≤ 1000 ∧ ∀ x ∈ fK m l most, x.an.length ≤ 900 := by
 unfold fK
 split
 ·obtain ⟨a, b⟩ := wY (n := most.toNat) l.length l
  refine ⟨by rw [List.length_map]; unfold eE; omega, fun x hx => ?_⟩
  obtain ⟨y, hy, rfl⟩ := List.mem_map.1 hx
  have := b y hy
  show y.length ≤ 900
  omega
 ·simp
set_option maxHeartbeats 8000000 in
theorem QL (m : MsgR) (q a u e lv : Value) (l : List Rec) (most : Int) (mv : Value) (ms : List MsgR) (w : World) (hm : MsgV w m q a u e) (hl : Sl 4 w lv (aC l)) (hv : MsgsAt w mv ms) :
 Calls Tryz.prog 5 #[.agg (BJ m q a u e lv most mv).toArray] w (ST w) := by
 go_enter Tryz.func5, Tryz.ntmps5
 refine_lift gT fun _ _ => ?_
 refine dL (vs := BJ m q a u e lv most mv) rfl rfl ?_
 intro w1 x1 s1 h1
 refine aA ?_
 have hp := aE h1
 have hp0 : Pts w1 (bG (.pointer (some ⟨w.heap.size, 0, none⟩)) 0) (cR m q a u e) := (hp.part 0).front 13
 have hp1 : Pts w1 (bG (.pointer (some ⟨w.heap.size, 0, none⟩)) 13) [lv] := (hp.part 13).front 1
 have hp2 : Pts w1 (bG (.pointer (some ⟨w.heap.size, 0, none⟩)) 14) [.int .i64 most] := (hp.part 14).front 1
 have hp3 : Pts w1 (bG (.pointer (some ⟨w.heap.size, 0, none⟩)) 15) [mv] := hp.part 15
 refine_lift kU fun _ _ => ?_
 refine cE (S := fun w' => Ext w1 w') (by decide +kernel) ?_
 intro w2 x2 _
 refine rE 0 ?_; refine aA ?_
 have hld : ∀ w9, Ext w1 w9 → Pts w9 (bG (.pointer (some ⟨w.heap.size, 0, none⟩)) 0) (cR m q a u e) := fun w9 c => hp0.ext c
 refine rE 1 (v := .agg (cR m q a u e).toArray) (hy := by intro w9 c9; exact Runs.loadN (hld w9 c9) rfl (show cY Tryz.prog 55 13 = true by decide +kernel)) ?_; refine aA ?_
 refine rE 2 (hy := fun _ _ => Runs.fieldJ (off := 13) rfl (by decide +kernel)) ?_; refine aA ?_
 refine rE 3 ?_; refine aA ?_
 refine rE 4 (hy := fun _ _ => Runs.fieldJ (off := 14) rfl (by decide +kernel)) ?_; refine aA ?_
 refine rE 5 ?_; refine aA ?_
 refine rE 6 (hy := fun _ _ => Runs.fieldJ (off := 15) rfl (by decide +kernel)) ?_; refine aA ?_
 refine rE 7 ?_; refine aA ?_
 refine aY (i := 8) (by decide +kernel) rfl rfl ?_
 refine aF (z := IQ) rfl (by decide +kernel) ?_
 intro w3 x3 s3 h3
 refine aA ?_
 have x23 := x2.trans x3
 refine aK ⟨x23, ?_⟩
 refine aY (i := 9) (by decide +kernel) rfl rfl ?_
 refine aD (v := .agg (cR m q a u e).toArray) rfl rfl rfl h3 (show aO Tryz.prog 55 13 = true by decide +kernel) rfl (oN hm) ?_
 intro w4 p4
 have x14 : Ext w1 w4 := x23.move p4.mv (by rintro k ⟨⟩; exact x2.size)
 refine aK ⟨x14, ?_⟩
 refine rE 10 ?_; refine aA ?_; refine rE 11 ?_; refine aA ?_; refine rE 12 ?_; refine aA ?_
 refine cL (by decide +kernel) ?_
 have x4 : Ext w w4 := (x1.trans x23).move p4.mv (by rintro k ⟨⟩; exact (x1.trans x2).size)
 have hq := aE (cs := cR m q a u e) p4.this
 have hm4 := hm.ext x4
 have hl4 := hl.ext x4
 have hv4 := hv.ext x4
 clear p4 h3 x3 x23 hp hp0 hp1 hp2 hp3 hld s3 h1
 generalize w2.heap.size = bz at *
 refine_lift PB fun _ _ _ _ => ?_
 refine aN (Runs.loadN hq rfl (show cY Tryz.prog 55 13 = true by decide +kernel)) ?_
 refine aA ?_
 refine aB (enters_of Tryz.func24 rfl rfl) rfl rfl (MC m q a u e _ hm4) ?_; intro w5 x5; refine aA ?_
 have hx5 := x4.trans x5
 have hq5 := hq.ext x5
 have hm5 := hm4.ext x5
 have hl5 := hl4.ext x5
 have hv5 := hv4.ext x5
 clear hq hm4 hl4 hv4 hm hl hv
 obtain ⟨cs5, sl5, cl5, at5⟩ := hv5.out
 cases hf : ED m with
 | false =>
  refine_lift kU fun _ _ => ?_
  refine aB (enters_of Tryz.func10 rfl rfl) rfl rfl (fF _) ?_; intro w6 x6; refine aA ?_
  refine_lift cV ?_
  go_ret
  exact ⟨rfl, hx5.trans x6⟩
 | true =>
  obtain ⟨fm, fa⟩ := RZ hf
  refine_lift cV ?_
  refine aB (enters_of Tryz.func25 rfl rfl) rfl rfl (t7 lv l _ hl5) ?_; intro w6 x6; refine aA ?_
  have hx6 := hx5.trans x6
  cases hsh : fQ l with
  | false =>
   refine_lift kU fun _ _ => ?_
   refine aB (enters_of Tryz.func10 rfl rfl) rfl rfl (fF _) ?_; intro w7 x7; refine aA ?_
   refine_lift cV ?_
   go_ret
   exact ⟨rfl, hx6.trans x7⟩
  | true =>
   obtain ⟨sl, sd⟩ := BK hsh
   have sl6 := sl5.ext x6
   refine_lift JM (fun _ _ _ => ?_) (fun _ _ _ => ?_)
   ·refine aB (enters_of Tryz.func10 rfl rfl) rfl rfl (fF _) ?_; intro w7 x7; refine aA ?_
    refine_lift cV ?_
    go_ret
    exact ⟨rfl, hx6.trans x7⟩
   ·have hms : ms.length ≤ 12 := by omega
    go_loopw [7] (fun i wr => ∃ k : Nat, k ≤ ms.length ∧ i = .int .i64 k ∧ Ext w5 wr ∧ ∀ x ∈ ms.take k, x.an.length ≤ 25) (fun i _ => ms.length - (intOf i).toNat)
    case atStart => exact ⟨0, Nat.zero_le _, rfl, x6, by simp⟩
    case round =>
     obtain ⟨k, hk, rfl, hx, hall⟩ := hrel
     have slr := sl5.ext hx
     by_cases hlt : k < ms.length
     ·obtain ⟨q', a', u', e', hc, hmk⟩ := at5 k _ (List.getElem?_eq_getElem hlt)
      have hkc : k < cs5.length := by omega
      have hpe := slr.elem hc
      refine_lift ME ?_; intro _ _ _ _ _ _
      refine aN (Runs.loadN hpe rfl (show cY Tryz.prog 55 13 = true by decide +kernel)) ?_
      refine aA ?_
      refine aB (enters_of Tryz.func24 rfl rfl) rfl rfl (MC ms[k] q' a' u' e' _ (hmk.ext hx)) ?_; intro w7 x7; refine aA ?_
      have hx7 := hx.trans x7
      cases hg : ED ms[k] with
      | false =>
       refine_lift kU fun _ _ => ?_
       refine aB (enters_of Tryz.func10 rfl rfl) rfl rfl (fF _) ?_; intro w8 x8; refine aA ?_
       refine_lift cV ?_
       go_ret
       exact ⟨rfl, hx5.trans (hx7.trans x8)⟩
      | true =>
       refine_lift cV ?_
       refine ⟨⟨k + 1, by omega, by go_num, hx7, fun x hx' => ?_⟩, by simp [intOf]; omega⟩
       rw [List.take_succ_eq_append_getElem hlt] at hx'
       rcases List.mem_append.1 hx' with h | h
       ·exact hall x h
       ·rw [List.mem_singleton.1 h]; exact (RZ hg).2
     ·have hke : ¬ k < cs5.length := by omega
      have hkm : k = ms.length := by omega
      subst hkm
      rw [List.take_length] at hall
      have hall9 : ∀ x ∈ ms, x.an.length ≤ 900 := fun x hx => by have := hall x hx; omega
      have hq6 := hq5.ext hx
      have hm6 := hm5.ext hx
      have hl6 := hl5.ext hx
      have hv6 := hv5.ext hx
      have hd0 : ∀ r, r ∈ m.an ∨ r ∈ m.au ∨ r ∈ m.ex ∨ r ∈ l → r.data.length ≤ 4611686018427387904 := fun r hr => by
       rcases hr with h | h | h | h
       ·have := fm r (.inl h); omega
       ·have := fm r (.inr (.inl h)); omega
       ·have := fm r (.inr (.inr h)); omega
       ·have := sd r h; omega
      refine_lift SB fun _ _ _ => ?_
      refine aN (Runs.loadN hq6 rfl (show cY Tryz.prog 55 13 = true by decide +kernel)) ?_
      refine aA ?_
      refine_lift cV ?_
      refine aI (enters_of Tryz.func26 rfl rfl) rfl rfl (MA m q a u e lv l most _ hm6 hl6 (by omega)) ?_
      rintro _ w7 x7 ⟨y1, rfl, p1⟩
      refine aA ?_
      have p1 := p1.msgs
      have hq7 := hq6.ext x7
      have hm7 := hm6.ext x7
      have hl7 := hl6.ext x7
      have hv7 := hv6.ext x7
      have hx7 := hx.trans x7
      clear hq6 hm6 hl6 hv6
      refine_lift kU fun _ _ => ?_
      refine aN (Runs.loadN hq7 rfl (show cY Tryz.prog 55 13 = true by decide +kernel)) ?_
      refine aA ?_
      refine_lift cV ?_
      refine aI (enters_of Tryz.func27 rfl rfl) rfl rfl (LX m q a u e lv l most _ hm7 hl7 (by omega) hd0) ?_
      rintro _ w8 x8 ⟨y2, rfl, p2⟩
      refine aA ?_
      have p2 := p2.msgs
      have p1 := p1.ext x8
      have hq8 := hq7.ext x8
      have hm8 := hm7.ext x8
      have hl8 := hl7.ext x8
      have hv8 := hv7.ext x8
      have hx8 := hx7.trans x8
      clear hq7 hm7 hl7 hv7
      refine_lift kU fun _ _ => ?_
      refine aN (Runs.loadN hq8 rfl (show cY Tryz.prog 55 13 = true by decide +kernel)) ?_
      refine aA ?_
      refine_lift cV ?_
      refine aI (enters_of Tryz.func28 rfl rfl) rfl rfl (wV m q a u e mv ms _ hm8 hv8 (by omega) hall9) ?_
      rintro _ w9 x9 ⟨y3, rfl, p3⟩
      refine aA ?_
      have p3 := p3.sl
      have p1 := p1.ext x9
      have p2 := p2.ext x9
      have hq9 := hq8.ext x9
      have hm9 := hm8.ext x9
      have hl9 := hl8.ext x9
      have hv9 := hv8.ext x9
      have hx9 := hx8.trans x9
      clear hq8 hm8 hl8 hv8
      refine_lift kU fun _ _ => ?_
      refine aN (Runs.loadN hq9 rfl (show cY Tryz.prog 55 13 = true by decide +kernel)) ?_
      refine aA ?_
      refine_lift cV ?_
      refine aI (enters_of Tryz.func29 rfl rfl) rfl rfl (FV m q a u e mv ms _ hm9 hv9 (by omega) hall9) ?_
      rintro _ w10 x10 ⟨y4, rfl, p4⟩
      refine aA ?_
      have p4 := p4.sl
      have p1 := p1.ext x10
      have p2 := p2.ext x10
      have p3 := p3.ext x10
      have hq10 := hq9.ext x10
      have hm10 := hm9.ext x10
      have hl10 := hl9.ext x10
      have hx10 := hx9.trans x10
      clear hq9 hm9 hl9 hv9
      have hs1 := MD y1 y2 _ _ w10 p1 p2
      rw [decide_eq_true rfl] at hs1
      have hs2 : ∀ w', Ext w10 w' → Calls Tryz.prog 13 #[y3, y4] w' (bC w' (.bool true)) := fun w' c => by
       have := kM y3 y4 _ _ w' (p3.ext c) (p4.ext c)
       rwa [decide_eq_true rfl] at this
      clear p3 p4
      refine_lift PB fun _ _ _ _ => ?_
      refine aB (enters_of Tryz.func30 rfl rfl) rfl rfl (hs1) ?_; intro w11 x11; refine aA ?_
      refine_lift cV ?_
      all_goals first
       | (exfalso; exact absurd rfl (‹¬ gQ m l most = gQ m l most›))
       | skip
      refine aB (enters_of Tryz.func13 rfl rfl) rfl rfl (hs2 _ x11) ?_; intro w12 x12; refine aA ?_
      have x1012 := x11.trans x12
      have p1 := p1.ext x1012
      have hq12 := hq10.ext x1012
      have hm12 := hm10.ext x1012
      have hl12 := hl10.ext x1012
      have hx12 := hx10.trans x1012
      clear hs1 hs2 p2 hq10 hm10 hl10
      refine_lift kU fun _ _ => ?_
      all_goals first
       | (exfalso; have hh := ‹(!decide (kX m ms = kX m ms)) = true›; simp at hh; done)
       | skip
      refine aN (Runs.loadN hq12 rfl (show cY Tryz.prog 55 13 = true by decide +kernel)) ?_
      refine aA ?_
      refine_lift cV ?_
      have hps := FW (m := m) (most := most) sl
      have hU := wV m q a u e y1 (fK m l most) w12 hm12 p1 hps.1 hps.2
      by_cases hE : gQ m l most = 0
      ·obtain ⟨e1, e2⟩ := IW hE
       rw [e1, e2] at hU
       refine aI (enters_of Tryz.func28 rfl rfl) rfl rfl hU ?_
       rintro _ w13 x13 ⟨y5, rfl, p5⟩
       refine aA ?_
       have p5 := p5.sl
       have hl13 := hl12.ext x13
       have hsm : ∀ w', Ext w13 w' → Calls Tryz.prog 13 #[y5, lv] w' (bC w' (.bool true)) := fun w' c => by
        have := kM y5 lv _ _ w' (p5.ext c) (hl13.ext c)
        rwa [decide_eq_true rfl] at this
       have hE' : (!decide (gQ m l most = 0)) = false := by simp [hE]
       clear p5 hl13 hl12 hm12 hq12 p1 hU
       refine_lift JM (fun _ _ hc => ?_) (fun _ _ hc => ?_)
       all_goals first
        | (exfalso; have hh := ‹(!decide (gQ m l most = 0)) = true›; rw [hE'] at hh; cases hh; done)
        | skip
       refine aB (enters_of Tryz.func13 rfl rfl) rfl rfl (hsm _ (Ext.refl _)) ?_; intro w14 x14; refine aA ?_
       refine_lift cV ?_
       refine aB (enters_of Tryz.func10 rfl rfl) rfl rfl (fF _) ?_; intro w15 x15; refine aA ?_
       refine_lift cV ?_
       go_ret
       exact ⟨rfl, hx5.trans (hx12.trans (x13.trans (x14.trans x15)))⟩
      ·refine aI (enters_of Tryz.func28 rfl rfl) rfl rfl hU ?_
       rintro _ w13 x13 ⟨y5, rfl, p5⟩
       refine aA ?_
       have hE' : (!decide (gQ m l most = 0)) = true := by simp [hE]
       clear p5 hl12 hm12 hq12 p1 hU
       refine_lift QX (fun hc hc => ?_) (fun _ _ hc => ?_) (fun _ _ hc hc => ?_)
       all_goals first
        | (exfalso; have hh := ‹(!decide (gQ m l most = 0)) = false›; rw [hE'] at hh; cases hh; done)
        | skip
       refine aB (enters_of Tryz.func10 rfl rfl) rfl rfl (fF _) ?_; intro w14 x14; refine aA ?_
       refine_lift cV ?_
       go_ret
       exact ⟨rfl, hx5.trans (hx12.trans (x13.trans x14))⟩
end Go.Proofs.X
