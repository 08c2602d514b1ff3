/- Laws and walks that the proof of the statement is made of (part 4). -/
import Derived.Test.YtgljkfpcadempaaGreatP3
set_option linter.unusedSimpArgs false
set_option linter.unusedVariables false
namespace Go.Proofs.X
open Go.RowKit
set_option maxRecDepth 100000
theorem YD (nm:List UInt8) (w:World):Calls Tryz.prog 126 #[aI nm] w fun e w'=>e=.returned (.func (.func 177) #[] #[.pointer (some ⟨w.heap.size,0,none⟩)])∧Ext w w'∧w'.heap.size=w.heap.size + 1∧w'.heap[w.heap.size]? = some (.cells #[aI nm] 47 (0,0)):=by
 go_enter Tryz.func126,Tryz.ntmps126
 refine_lift zN ?_;intro _ _ _
 refine eK (vs:=[aI nm]) rfl rfl ?_
 intro w1 x1 s1 h1
 refine aA ?_
 refine_lift bR ?_
 go_ret
 exact ⟨rfl,x1,s1,h1⟩
def aP (ls:List (List UInt8)):List (List Value):=ls.map fun x=>[aI x]
structure CutMid (w:World) (s:Nat) (lp:Loop) (pre:List (List UInt8)) (W:World):Prop where
 ext:Ext w W
 hs:w.heap.size=s
 c0:W.heap[s]? = some (.cells #[.slice none 0 0] 93 (0,0))
 c1:W.heap[s + 1]? = some (.cells #[.bool false] 4 (0,0))
 loc:∃ v,W.heap[s + 2]? = some (.cells #[v] 93 (0,0))∧Own (s + 6) 1 9 W v (aP pre)
 df:W.heap[s + 4]? = some (.deferred (some []))
 lp:W.heap[s + 5]? = some (.loop lp)
 size:s + 6≤W.heap.size
structure CutOut (w:World) (s:Nat) (lp:Loop) (W:World):Prop where
 ext:Ext w W
 hs:w.heap.size=s
 c0:W.heap[s]? = some (.cells #[.slice none 0 0] 93 (0,0))
 c1:W.heap[s + 1]? = some (.cells #[.bool false] 4 (0,0))
 df:W.heap[s + 4]? = some (.deferred (some []))
 lp:W.heap[s + 5]? = some (.loop { lp with state:=.done,pending:=some .ret })
theorem CutMid.put {w:World} {s:Nat} {lp:Loop} {pre:List (List UInt8)} {W W':World} (h:CutMid w s lp pre W) {o:Obj} (hp:Put W W' (s + 3) o):CutMid w s lp pre W':=by
 have hm:=hp.mv
 have ne:∀ k,k≠s + 3→some k≠some (s + 3):=fun k hk e=>hk (Option.some.inj e)
 obtain ⟨v,hv,ho⟩:=h.loc
 refine ⟨h.ext.move hm (by rintro k ⟨⟩;have:=h.hs;omega),h.hs,hm.at h.c0 (ne _ (by omega)),hm.at h.c1 (ne _ (by omega)),⟨v,hm.at hv (ne _ (by omega)),ho.mv hm ?_⟩,hm.at h.df (ne _ (by omega)),hm.at h.lp (ne _ (by omega)),Nat.le_trans h.size hm.size⟩
 cases hb:v.ownBlock with
 | none=>exact .inl rfl
 | some r=>have:=ho.block r hb;exact .inr (ne r (by omega))
set_option maxHeartbeats 1000000 in
theorem VM (nm:List UInt8) (w:World):Calls Tryz.prog 69 #[aI nm] w (oA w fun v w'=>match aV nm with
 | some ls=>∃ s,v=.tuple #[s, .bool true]∧Own w.heap.size 1 9 w' s (aP ls)
 | none=>v=.tuple #[.slice none 0 0, .bool false]):=by
 refine sF Tryz.func69 rfl ?_
 simp only [Tryz.ntmps69,List.size_toArray,List.length_cons,List.length_nil,Nat.reduceAdd,Nat.reduceSub,Array.replicate_succ,Array.replicate_zero,List.push_toArray,List.append_toArray,List.nil_append,List.cons_append]
 refine_lift zN ?_;intro _ _ _
 refine aL (z:=[.slice none 0 0]) rfl (by decide +kernel) ?_
 intro w1 x1 s1 h1
 refine aA ?_
 refine aL (z:=[.bool false]) rfl (by decide +kernel) ?_
 intro w2 x2 s2 h2
 refine aA ?_
 rw [s1] at h2 ⊢
 have h1':=x2.at h1
 refine_lift RM (fun _ _ _ => ?_) (fun _ _ _ _ _ => ?_)
 ·rename_i hc
  refine fB (v:=.slice none 0 0) rfl rfl rfl h1' (by decide +kernel) rfl ?_
  intro w3 p3
  have h23:=(p3.other _ (by omega)).trans h2
  refine fB (v:=.bool false) rfl rfl rfl h23 (by decide +kernel) rfl ?_
  intro w4 p4
  have h14:=(p4.other _ (by omega)).trans p3.this
  refine_lift bR ?_
  refine wR (kY rfl rfl rfl h14 p4.this (by decide +kernel) (by decide +kernel)) ⟨_,rfl,?_,?_⟩
  ·exact ((x1.trans x2).move p3.mv (by rintro k ⟨⟩;omega)).move p4.mv (by rintro k ⟨⟩;omega)
  ·rw [aV,if_pos (by omega)]
 ·rename_i hc
  refine aL (z:=[.slice none 0 0]) rfl (by decide +kernel) ?_
  intro w3 x3 s3 h3
  rw [s2,s1] at h3 s3 ⊢
  refine_lift oQ fun _ _ _ _ => ?_
  refine aN (enters_of Tryz.func126 rfl rfl) rfl rfl (YD nm _) ?_
  rintro e w4 ⟨rfl,x4,s4,h4⟩
  refine ⟨_,rfl,?_⟩
  rw [s3] at h4 s4
  refine aA ?_
  refine_lift TN ?_
  simp only [s3]
  have e4:w4.heap.size=w.heap.size + 4:=by omega
  generalize hs:w.heap.size=s at *
  have g0:w4.heap[s]? = _:=x4.at (x3.at h1')
  have g1:w4.heap[s + 1]? = _:=x4.at (x3.at h2)
  have g2:w4.heap[s + 2]? = _:=x4.at h3
  have g3:w4.heap[s + 3]? = _:=h4
  have gx:Ext w w4:=((x1.trans x2).trans x3).trans x4
  clear h1 h2 h1' h3 h4 x1 x2 x3 x4 s1 s2 s3 s4
  refine vR (caps:=#[.pointer (some ⟨s + 3,0,none⟩)]) rfl (enters_of Tryz.func177 rfl rfl) e4 ?_
  intro fn W lp hlp xW k4 k5 sW
  have hJ:CutMid w s lp [] W:=⟨gx.trans xW,hs,xW.at g0,xW.at g1,⟨_,xW.at g2,Own.nil _ _ _ _⟩,k4,k5,by omega⟩
  have gb:=xW.at g3
  have hrdy:lp.state=.ready∧lp.pending=none:=by subst hlp;exact ⟨rfl,rfl⟩
  have hlab:aV nm=gT nm:=by rw [aV,if_neg (by omega)]
  have hy:IE Tryz.prog (s + 5) (s + 3) lp (CutMid w s lp) (CutOut w s lp):=by
   constructor
   ·intro pre x rest W hpre hM hb
    subst hlp
    simp only [List.zip_toArray,List.zip_cons_cons,List.zip_nil_right,List.foldl_toArray',List.foldl_cons,List.foldl_nil,List.setIfInBounds_toArray,List.set_cons_succ,List.set_cons_zero,List.foldl_toArray,List.size_toArray,List.zip_toArray,List.length_cons,List.length_nil]
    have m0:=hM.c0
    have m1:=hM.c1
    obtain ⟨v,m2,mo⟩:=hM.loc
    have md:=hM.df
    have ml:=hM.lp
    have mx:=hM.ext
    have ms:=hM.size
    clear hM hJ gb xW k4 k5 sW g0 g1 g2 g3
    refine DO ?_
    repeat' (first | refine iV (by rfl) (by intro _ _ h;exact h) ?_ | ((with_reducible refine cJ ?_);(first | (refine jO ?_;refine GO ?_) | (refine oN ?_;first | refine qV ?_ | refine JH ?_ | refine JJ ?_ | refine JI ?_ | ((first | refine IA ?_ ?_ | refine IB ?_ ?_) <;> intro hc)))) | ((fail_if_success (with_reducible refine cJ ?_));first | go_step | gi_step))
    refine ⟨_,ml,rfl,?_⟩
    intro w2 p2
    have n0:=p2.at m0 (by omega)
    have n1:=p2.at m1 (by omega)
    have n2:=p2.at m2 (by omega)
    have no:=mo.put p2 (by omega)
    have nb:=p2.at hb (by omega)
    have nd:=p2.at md (by omega)
    have nl:=p2.this
    have nx:=mx.move p2.mv (by rintro k ⟨⟩;omega)
    have ns:s + 6≤w2.heap.size:=Nat.le_trans ms p2.mv.size
    clear m0 m1 m2 mo hb md ml mx ms p2
    have hp2:=aE (cs:=[v]) n2
    repeat' (first | refine iV (by rfl) (by intro _ _ h;exact h) ?_ | ((with_reducible refine cJ ?_);(first | (refine jO ?_;refine GO ?_) | (refine oN ?_;first | refine qV ?_ | refine JH ?_ | refine JJ ?_ | refine JI ?_ | ((first | refine IA ?_ ?_ | refine IB ?_ ?_) <;> intro hc)))) | ((fail_if_success (with_reducible refine cJ ?_));first | go_step | gi_step))
    refine bN (xs:=[aI x]) (k:=1) (e:=9) (bytes:=16) rfl rfl rfl (by intro y hy;simp at hy;subst hy;rfl) (by decide +kernel) (by simp) ?_
    intro v' w3 x3 s3 sl3 _
    refine aA ?_
    refine kX (B:=s + 6) (k:=1) (e:=9) (bytes:=16) (x:=v') rfl (no.ext x3) rfl sl3 (by decide +kernel) (by simp [aI,Value.cells];rfl) (by have:=x3.size;omega) (by simp [aP];omega) (by simp [aP];omega) ?_
    intro v2 w4 o4 mv4
    refine aA ?_
    have hv:Mv v.ownBlock w3 w4:=mv4
    have no3:=no.ext x3
    have q2:=no3.mvs hv (x3.at n2) (by omega)
    refine fB (v:=v2) rfl rfl rfl q2 (by decide +kernel) o4.one ?_
    intro w5 p5
    have q0:=p5.at (no3.mvs hv (x3.at n0) (by omega)) (by omega)
    have q1:=p5.at (no3.mvs hv (x3.at n1) (by omega)) (by omega)
    have q3:=p5.at (no3.mvs hv (x3.at nb) (by omega)) (by omega)
    have q4:=p5.at (no3.mvs hv (x3.at nd) (by omega)) (by omega)
    have q5:=p5.at (no3.mvs hv (x3.at nl) (by omega)) (by omega)
    have qx:=(no3.mvx hv (nx.trans x3) (by omega)).move p5.mv (by rintro k ⟨⟩;omega)
    have qs:s + 6≤w5.heap.size:=by have:=x3.size;have:=hv.size;have:=p5.mv.size;omega
    have qo:=o4.put p5 (by omega)
    have q2':=p5.this
    repeat' (first | refine iV (by rfl) (by intro _ _ h;exact h) ?_ | ((with_reducible refine cJ ?_);(first | (refine jO ?_;refine GO ?_) | (refine oN ?_;first | refine qV ?_ | refine JH ?_ | refine JJ ?_ | refine JI ?_ | ((first | refine IA ?_ ?_ | refine IB ?_ ?_) <;> intro hc)))) | ((fail_if_success (with_reducible refine cJ ?_));first | go_step | gi_step))
    refine BX q5 fun w6 p6=>⟨rfl,⟨qx.move p6.mv (by rintro k ⟨⟩;omega),hs,p6.at q0 (by omega),p6.at q1 (by omega),⟨v2,p6.at q2' (by omega),?_⟩,p6.at q4 (by omega),p6.this,Nat.le_trans qs p6.mv.size⟩,p6.at q3 (by omega)⟩
    have:=qo.put p6 (by omega)
    simpa [aP,aI,Value.cells] using this
   ·intro pre W hM
    subst hlp
    simp only [List.zip_toArray,List.zip_cons_cons,List.zip_nil_right,List.foldl_toArray',List.foldl_cons,List.foldl_nil,List.setIfInBounds_toArray,List.set_cons_succ,List.set_cons_zero,List.foldl_toArray,List.size_toArray,List.length_cons,List.length_nil]
    have m0:=hM.c0
    have m1:=hM.c1
    have md:=hM.df
    have ml:=hM.lp
    have mx:=hM.ext
    clear hM hJ gb xW k4 k5 sW g0 g1 g2 g3
    refine DO ?_
    repeat' (first | refine iV (by rfl) (by intro _ _ h;exact h) ?_ | ((with_reducible refine cJ ?_);(first | (refine jO ?_;refine GO ?_) | (refine oN ?_;first | refine qV ?_ | refine JH ?_ | refine JJ ?_ | refine JI ?_ | ((first | refine IA ?_ ?_ | refine IB ?_ ?_) <;> intro hc)))) | ((fail_if_success (with_reducible refine cJ ?_));first | go_step | gi_step))
    refine ⟨_,ml,rfl,?_⟩
    intro w2 p2
    have n0:=p2.at m0 (by omega)
    have n1:=p2.at m1 (by omega)
    have nd:=p2.at md (by omega)
    have nl:=p2.this
    have nx:=mx.move p2.mv (by rintro k ⟨⟩;omega)
    clear m0 m1 md ml mx p2
    repeat' (first | refine iV (by rfl) (by intro _ _ h;exact h) ?_ | ((with_reducible refine cJ ?_);(first | (refine jO ?_;refine GO ?_) | (refine oN ?_;first | refine qV ?_ | refine JH ?_ | refine JJ ?_ | refine JI ?_ | ((first | refine IA ?_ ?_ | refine IB ?_ ?_) <;> intro hc)))) | ((fail_if_success (with_reducible refine cJ ?_));first | go_step | gi_step))
    refine fB (v:=.slice none 0 0) rfl rfl rfl n0 (by decide +kernel) rfl ?_
    intro w3 p3
    refine fB (v:=.bool false) rfl rfl rfl (p3.at n1 (by omega)) (by decide +kernel) rfl ?_
    intro w4 p4
    have q0:=p4.at p3.this (by omega)
    have q1:=p4.this
    have q4:=p4.at (p3.at nd (by omega)) (by omega)
    have q5:=p4.at (p3.at nl (by omega)) (by omega)
    have qx:=(nx.move p3.mv (by rintro k ⟨⟩;omega)).move p4.mv (by rintro k ⟨⟩;omega)
    repeat' (first | refine iV (by rfl) (by intro _ _ h;exact h) ?_ | ((with_reducible refine cJ ?_);(first | (refine jO ?_;refine GO ?_) | (refine oN ?_;first | refine qV ?_ | refine JH ?_ | refine JJ ?_ | refine JI ?_ | ((first | refine IA ?_ ?_ | refine IB ?_ ?_) <;> intro hc)))) | ((fail_if_success (with_reducible refine cJ ?_));first | go_step | gi_step))
    exact JF q5 fun w6 p6=>⟨rfl,⟨qx.move p6.mv (by rintro k ⟨⟩;omega),hs,p6.at q0 (by omega),p6.at q1 (by omega),p6.at q4 (by omega),p6.this⟩⟩
  refine (YC (s + 5) (s + 3) lp (CutMid w s lp) (CutOut w s lp) (by subst hlp;rfl) (fun _ _ h=>h.lp) (fun _ _ _ _ h hp=>h.put hp) hy nm W hJ gb (by omega)).mono ?_
  rintro e W' ⟨rfl,hR⟩
  refine ⟨⟨_,rfl⟩,?_⟩
  clear hJ gb xW k4 k5 sW hy g0 g1 g2 g3
  cases hpn:gT nm with
  | some ls =>
   rw [hpn] at hR
   refine ⟨lp,hR.lp,by rw [hrdy.1];simp,?_⟩
   intro W2 hput
   rw [hrdy.2]
   clear hlp hrdy
   simp only
   have hm:=hput.mv
   have ne:∀ k,k≠s + 4 + 1→some k≠some (s + 4 + 1):=fun k hk e=>hk (Option.some.inj e)
   have f0:=hm.at hR.c0 (ne _ (by omega))
   have f1:=hm.at hR.c1 (ne _ (by omega))
   have fd:=hm.at hR.df (ne _ (by omega))
   obtain ⟨v,f2,ho⟩:=hR.loc
   have fo:Own (s + 6) 1 9 W2 v (aP ls):=ho.put hput (by omega)
   have f2:=hm.at f2 (ne _ (by omega))
   have fx:Ext w W2:=hR.ext.move hm (by rintro k ⟨⟩;omega)
   have fs:=Nat.le_trans hR.size hm.size
   clear hR hput hm
   have hp2:=aE (cs:=[v]) f2
   refine_lift dR fun _ _ => ?_
   refine fB (v:=v) rfl rfl rfl f0 (by decide +kernel) fo.one ?_
   intro W3 p3
   refine fB (v:=.bool true) rfl rfl rfl ((p3.other _ (by omega)).trans f1) (by decide +kernel) rfl ?_
   intro W4 p4
   have q0:=(p4.other _ (by omega)).trans p3.this
   have qd:=(p4.other _ (by omega)).trans ((p3.other _ (by omega)).trans fd)
   have qx:Ext w W4:=(fx.move p3.mv (by rintro k ⟨⟩;omega)).move p4.mv (by rintro k ⟨⟩;omega)
   have qo:Own (s + 6) 1 9 W4 v (aP ls):=(fo.put p3 (by omega)).put p4 (by omega)
   have qf:=(p4.this)
   refine_lift bR ?_
   refine uO qd fun W5 p5=>⟨_,kY rfl rfl rfl (p5.at q0 (by omega)) (p5.at qf (by omega)) (by decide +kernel) (by decide +kernel),_,rfl,qx.move p5.mv (by rintro k ⟨⟩;omega),?_⟩
   rw [hlab,hpn,hs]
   exact ⟨v,rfl,(qo.put p5 (by omega)).weaken (by omega)⟩
  | none =>
   rw [hpn] at hR
   refine ⟨_,hR.lp,by simp,?_⟩
   intro W2 hput
   simp only
   have hm:=hput.mv
   have ne:∀ k,k≠s + 4 + 1→some k≠some (s + 4 + 1):=fun k hk e=>hk (Option.some.inj e)
   have f0:=hm.at hR.c0 (ne _ (by omega))
   have f1:=hm.at hR.c1 (ne _ (by omega))
   have fd:=hm.at hR.df (ne _ (by omega))
   have fx:Ext w W2:=hR.ext.move hm (by rintro k ⟨⟩;omega)
   clear hlp hrdy
   refine_lift TN ?_
   refine uO fd fun W5 p5=>⟨_,kY rfl rfl rfl (p5.at f0 (by omega)) (p5.at f1 (by omega)) (by decide +kernel) (by decide +kernel),_,rfl,fx.move p5.mv (by rintro k ⟨⟩;omega),?_⟩
   rw [hlab,hpn]
open Go.RowKit Go.Proofs
theorem QL:(Tryz.prog.info? 188).map (·.size)=some 2:=by kernel_rfl
theorem UK:liesAt Tryz.prog Tryz.prog.depth 188 (2 / Tryz.prog.cellsOf 188) 0 188 1=true:=by kernel_rfl
theorem QM:(Tryz.prog.info? 5).map (fun i=>(i.zero,i.size,i.bytes))=some (some (.int .u8 0),1,1):=by kernel_rfl
set_option maxHeartbeats 1000000 in
set_option maxRecDepth 100000 in
theorem T.Builder_copyCheck_used (b:Nat) (w:World) (h0:w.cell? ⟨b,0,none⟩=some (.pointer (some ⟨b,0,none⟩))) :
 Calls Tryz.prog 178 #[.pointer (some ⟨b,0,none⟩)] w fun e w'=>e=.returned (.tuple #[])∧w'=w:=by
 obtain ⟨j,hj,_⟩:=Option.map_eq_some_iff.1 QL
 go_enter Tryz.func178,Tryz.ntmps178
 go_wp2
 rw [Lib.run_neq_ptr_same w _ Tryz.underlying186 hj]
 go_wp2
 go_end0
 exact ⟨rfl,rfl⟩
set_option maxHeartbeats 1000000 in
set_option maxRecDepth 100000 in
theorem T.Builder_copyCheck_fresh (b:Nat) (w:World) (h0:w.cell? ⟨b,0,none⟩=some (.pointer none)) (hsh:w.shape? b=some (188,2)) (hfz:w.frozen? ⟨b,0,none⟩=false) :
 Calls Tryz.prog 178 #[.pointer (some ⟨b,0,none⟩)] w fun e w'=>e=.returned (.tuple #[])∧w'=w.setCell ⟨b,0,none⟩ (.pointer (some ⟨b,0,none⟩)):=by
 obtain ⟨j,hj,hjs⟩:=Option.map_eq_some_iff.1 QL
 go_enter Tryz.func178,Tryz.ntmps178
 go_wp2
 rw [Lib.run_to_unsafe w ⟨b,0,none⟩ Tryz.underlying186 Tryz.underlying247 hj (by rw [hjs];decide) hsh (Nat.zero_lt_succ 1)]
 simp only [Result.andThen]
 rw [Oper.upon_value]
 go_wp2
 rw [run_callFunc_extern Tryz.func214 (by kernel_rfl) (by kernel_rfl) (by kernel_rfl) (e:=Extern.AbiNoEscape.same) (by kernel_rfl)]
 rw [Lib.run_noEscape]
 simp only [Result.andThen]
 rw [Oper.upon_value]
 go_wp2
 rw [Lib.run_from_unsafe w ⟨b,0,none⟩ Tryz.underlying247 Tryz.underlying186 hj hsh UK]
 simp only [Result.andThen]
 rw [Oper.upon_value]
 go_wp2
 go_end0
 exact ⟨rfl,rfl⟩
theorem T.Builder_copyCheck (B b:Nat) (bs:List Value) (w:World) (h:Lib.IsBuilder 188 5 B b bs w) :
 Calls Tryz.prog 178 #[.pointer (some ⟨b,0,none⟩)] w fun e w'=>e=.returned (.tuple #[])∧(Lib.BuilderAt 188 5 B b (.pointer (some ⟨b,0,none⟩)) bs w'∧Below B w w'∧w.drawn≤w'.drawn):=by
 rcases h with h | h
 ·refine (T.Builder_copyCheck_fresh b w h.cell0 h.shape h.frozen0).mono ?_
  rintro e w' ⟨rfl,rfl⟩
  exact ⟨rfl,h.used _,(Below.refl B w).setCell (p:=⟨b,0,none⟩) h.1 _,Nat.le_refl _⟩
 ·refine (T.Builder_copyCheck_used b w h.cell0).mono ?_
  rintro e w' ⟨rfl,rfl⟩
  exact ⟨rfl,h,Below.refl B _,Nat.le_refl _⟩
set_option maxHeartbeats 2000000 in
set_option maxRecDepth 100000 in
theorem T.Builder_WriteByte (B b:Nat) (bs:List Value) (c:Int) (w:World) (h:Lib.IsBuilder 188 5 B b bs w) (hlen:bs.length + 1≤140737488355328) (hBw:B≤w.heap.size) :
 Calls Tryz.prog 128 #[.pointer (some ⟨b,0,none⟩), .int .u8 c] w fun e w'=>e=.returned .nilIface∧(Lib.BuilderAt 188 5 B b (.pointer (some ⟨b,0,none⟩)) (bs ++ [.int .u8 c]) w'∧Below B w w'∧w.drawn≤w'.drawn):=by
 obtain ⟨i0,hi,hz0,hz1,hz2⟩:=info_parts QM
 go_enter Tryz.func128,Tryz.ntmps128
 go_wp2_with (go_at_call 178;refine (T.Builder_copyCheck B b bs _ h).mono ?_)
 rintro e w1 ⟨rfl,h1,hb1,hd1⟩
 obtain ⟨hB,v,hbk,hown,hne⟩:=h1
 have c0:w1.cell? ⟨b,0,none⟩=some (.pointer (some ⟨b,0,none⟩)):=by rw [Lib.cell_of_heap hbk];rfl
 have c1:w1.cell? ⟨b,1,none⟩=some v:=by rw [Lib.cell_of_heap hbk];rfl
 go_wp2_with (at_builtin;refine GM rfl _ _ 97 rfl B 5 i0 (.int .u8 0) 1 1 Tryz.underlying97 hi hz0 hz1 hz2 rfl (by decide) _ _ _ rfl (hown.alloc _) ⟨w1.heap.size,0,none⟩ 1 1 [.int .u8 c] rfl rfl ?c1 ?c2 ?c3 ?c4 ?c5 ?_)
 case c1 =>
  intro j u hj
  match j,hj with
  | 0,hj=>simp at hj;subst hj;simp [Addr.add]
 case c2=>intro u hu;simp at hu;subst hu;rfl
 case c3=>unfold maxLen;omega
 case c4=>omega
 case c5=>have:=hb1.size;simp;omega
 intro v' w2 hown' hgrow hd2
 have hlt:b < w1.heap.size:=by
  rcases Nat.lt_or_ge b w1.heap.size with h' | h'
  ·exact h'
  ·simp [Array.getElem?_eq_none h'] at hbk
 have hb2:w2.heap[b]? = some (.cells #[.pointer (some ⟨b,0,none⟩),v] 188 (0,0)):=by
  rw [hgrow.block b (by simp;omega) (fun e=>hne e.symm),Lib.alloc_old w1 _ b hlt]
  exact hbk
 have d0:w2.cell? ⟨b,0,none⟩=some (.pointer (some ⟨b,0,none⟩)):=by rw [Lib.cell_of_heap hb2];rfl
 have d1:w2.cell? ⟨b,1,none⟩=some v:=by rw [Lib.cell_of_heap hb2];rfl
 have f1:w2.frozen? ⟨b,1,none⟩=false:=Lib.frozen_of_heap hb2 1
 obtain ⟨g,cap,rfl⟩:∃ g cap,v'=.slice (some ⟨g,0,none⟩) (bs.length + 1) cap:=by
  rcases hown'.2 with ⟨_,h0⟩ | ⟨g,cap,cur,hv,_⟩
  ·omega
  ·exact ⟨g,cap,hv⟩
 go_wp2
 go_ret
 refine ⟨rfl,?_,?_⟩
 ·exact Lib.BuilderAt.put (T:=188) (e:=5) hB hb2 (bs':=bs ++ [.int .u8 c]) (by simpa using hown') (by decide)
 ·exact ⟨((hb1.alloc (by have:=hb1.size;omega) _).grown hgrow (by have:=hb1.size;simp;omega) (fun k hk=>(hown.lt k hk).1)).setCell (p:=⟨b,1,none⟩) hB _,Nat.le_trans hd1 hd2⟩
set_option maxHeartbeats 2000000 in
set_option maxRecDepth 100000 in
theorem T.Builder_WriteString (B b:Nat) (bs:List Value) (s:ByteArray) (w:World) (h:Lib.IsBuilder 188 5 B b bs w) (hlen:bs.length + s.size≤140737488355328) (hBw:B≤w.heap.size) :
 Calls Tryz.prog 129 #[.pointer (some ⟨b,0,none⟩), .string s] w fun e w'=>e=.returned (.tuple #[.int .i64 s.size, .nilIface])∧(Lib.BuilderAt 188 5 B b (.pointer (some ⟨b,0,none⟩)) (bs ++ Lib.strCells s) w'∧Below B w w'∧w.drawn≤w'.drawn):=by
 obtain ⟨i0,hi,hz0,hz1,hz2⟩:=info_parts QM
 go_enter Tryz.func129,Tryz.ntmps129
 go_wp2_with (go_at_call 178;refine (T.Builder_copyCheck B b bs _ h).mono ?_)
 rintro e w1 ⟨rfl,h1,hb1,hd1⟩
 obtain ⟨hB,v,hbk,hown,hne⟩:=h1
 have c0:w1.cell? ⟨b,0,none⟩=some (.pointer (some ⟨b,0,none⟩)):=by rw [Lib.cell_of_heap hbk];rfl
 have c1:w1.cell? ⟨b,1,none⟩=some v:=by rw [Lib.cell_of_heap hbk];rfl
 go_wp2_with (at_builtin;refine DP rfl _ _ 97 9 rfl B 5 i0 Tryz.underlying97 Tryz.underlying9 hi hz0 hz1 hz2 _ _ _ rfl hown s rfl ?c3 ?c4 ?c5 ?_)
 case c3=>unfold maxLen;omega
 case c4=>omega
 case c5=>have:=hb1.size;omega
 intro v' w2 hown' hgrow hd2
 have hlt:b < w1.heap.size:=by
  rcases Nat.lt_or_ge b w1.heap.size with h' | h'
  ·exact h'
  ·simp [Array.getElem?_eq_none h'] at hbk
 have hb2:w2.heap[b]? = some (.cells #[.pointer (some ⟨b,0,none⟩),v] 188 (0,0)):=by
  rw [hgrow.block b hlt (fun e=>hne e.symm)]
  exact hbk
 have d0:w2.cell? ⟨b,0,none⟩=some (.pointer (some ⟨b,0,none⟩)):=by rw [Lib.cell_of_heap hb2];rfl
 have d1:w2.cell? ⟨b,1,none⟩=some v:=by rw [Lib.cell_of_heap hb2];rfl
 have f1:w2.frozen? ⟨b,1,none⟩=false:=Lib.frozen_of_heap hb2 1
 obtain ⟨ao,n',cap,rfl⟩:∃ ao n' cap,v'=.slice ao n' cap:=by
  rcases hown'.2 with ⟨hv,_⟩ | ⟨g,cap,cur,hv,_⟩
  ·exact ⟨_,_,_,hv⟩
  ·exact ⟨_,_,_,hv⟩
 go_wp2
 go_ret2
 refine ⟨rfl,?_,?_⟩
 ·exact Lib.BuilderAt.put (T:=188) (e:=5) hB hb2 (bs':=bs ++ Lib.strCells s) (by simpa [Lib.strCells_length] using hown') (by decide)
 ·exact ⟨(hb1.grown hgrow (by have:=hb1.size;omega) (fun k hk=>(hown.lt k hk).1)).setCell (p:=⟨b,1,none⟩) hB _,Nat.le_trans hd1 hd2⟩
theorem Ext.heapEq {w w1:World} (h:w1.heap=w.heap) {k:Nat} {o:Obj} (hk:w.heap[k]? = some o):w1.heap[k]? = some o:=by rw [h];exact hk
theorem GR {w0 w:World} (h:Ext w0 w) {g n:Nat} (hg:w0.heap.size≤g):Ext w0 (w.freeze ⟨g,0,none⟩ n):=by
 unfold World.freeze
 split
 ·exact h
 ·refine ⟨h.os,h.tape,h.output,by simpa using h.size,fun k hk => ?_,h.drawn⟩
  have hne:g≠k:=by omega
  simp only [Array.getElem?_modify]
  rw [if_neg hne]
  exact h.block k hk
set_option maxHeartbeats 1000000 in
theorem T.Builder_String (B b:Nat) (l:List UInt8) (w0 w:World) (h:Lib.IsBuilder 188 5 B b (Lib.byteCells l) w) (hx0:Ext w0 w) (hB:w0.heap.size≤B) (hlen:l.length≤9223372036854775807) :
 Calls Tryz.prog 130 #[.pointer (some ⟨b,0,none⟩)] w fun e w'=>e=.returned (aI l)∧Ext w0 w':=by
 obtain ⟨p,hbB,v,hbk,hown,hne⟩:∃ p,Lib.BuilderAt 188 5 B b p (Lib.byteCells l) w:=by
  rcases h with h | h <;> exact ⟨_,h⟩
 go_enter Tryz.func130,Tryz.ntmps130
 refine_lift zO ?_;intro _ _ _
 refine dS (S:=fun w'=>Ext w0 w'∧w'.heap[b]? = some (.cells #[p,v] 188 (0,0))) (by decide +kernel) ?_
 intro w1 x1 hh1
 have hS:Ext w0 w1∧w1.heap[b]? = some (.cells #[p,v] 188 (0,0)):=⟨hx0.trans x1,Ext.heapEq hh1 hbk⟩
 have hsl':=(Own.sl (B:=B) (k:=1) (e:=5) (es:=aS l) ⟨by rw [oS];simpa [aS,Lib.byteCells] using lT hown,by simp [aS]⟩)
 ((with_reducible apply cO (i:=0));(rfl);(rfl);(decide +kernel);(decide +kernel);(decide +kernel);(rfl);(exact hS);(intro w9 hS9;(have hp:=aE (cs:=[p,v]) hS9.2);exact rn);(exact fun _ _ _ h=>h);(refine aA ?_));((with_reducible apply cO (i:=1));(rfl);(rfl);(decide +kernel);(decide +kernel);(decide +kernel);(rfl);(exact hS);(intro w9 hS9;(have hp:=aE (cs:=[p,v]) hS9.2);exact rn);(exact fun _ _ _ h=>h);(refine aA ?_));((with_reducible apply cO (i:=2));(rfl);(rfl);(decide +kernel);(decide +kernel);(decide +kernel);(rfl);(exact hS);(intro w9 hS9;(have hp:=aE (cs:=[p,v]) hS9.2);exact rn);(exact fun _ _ _ h=>h);(refine aA ?_));((with_reducible apply cO (i:=3));(rfl);(rfl);(decide +kernel);(decide +kernel);(decide +kernel);(rfl);(exact hS);(intro w9 hS9;(have hp:=aE (cs:=[p,v]) hS9.2);exact rn);(exact fun _ _ _ h=>h);(refine aA ?_));((with_reducible apply cO (i:=5));(rfl);(rfl);(decide +kernel);(decide +kernel);(decide +kernel);(rfl);(exact hS);(intro w9 hS9;(have hp:=aE (cs:=[p,v]) hS9.2);exact rn);(exact fun _ _ _ h=>h);(refine aA ?_));((with_reducible apply cO (i:=6));(rfl);(rfl);(decide +kernel);(decide +kernel);(decide +kernel);(rfl);(exact hS);(intro w9 hS9;(have hp:=aE (cs:=[p,v]) hS9.2);exact rn);(exact fun _ _ _ h=>h);(refine aA ?_));((with_reducible apply cO (i:=7));(rfl);(rfl);(decide +kernel);(decide +kernel);(decide +kernel);(rfl);(exact hS);(intro w9 hS9;(have hp:=aE (cs:=[p,v]) hS9.2);exact rn);(exact fun _ _ _ h=>h);(refine aA ?_));((with_reducible apply cO (i:=8));(rfl);(rfl);(decide +kernel);(decide +kernel);(decide +kernel);(rfl);(exact hS);(intro w9 hS9;(have hp:=aE (cs:=[p,v]) hS9.2);exact rn);(exact fun _ _ _ h=>h);(refine aA ?_))
 have hsz:∀ w',(Sl 1 w' v (aS l))∨True:=fun _=>.inr trivial
 refine cO (i:=9) (v:=.int .i64 ((aS l).length:Nat)) rfl rfl (by decide +kernel) (by decide +kernel) (by decide +kernel) rfl hS (fun w' _ => ?_) (fun _ _ _ h=>h) ?_
 ·obtain ⟨ad,cap,h1,_⟩:=hsl'.out
  obtain ⟨e,i,ht,_⟩:=eT (P:=Tryz.prog) (t:=97) (k:=1) (by decide +kernel)
  exact ⟨by simp [execOp,resolve,invoke,builtin,Act.eval,h1,Builtin.len_,run_underlying ht,goInt]⟩
 refine aA ?_
 have hlb:(aS l).length=l.length:=by simp [aS]
 have hE:Ext w0 w1:=hx0.trans x1
 obtain ⟨q,w2,hr2,x2,hq⟩:∃ q w2,(Builtin.unsafeSliceData_ #[97] 221 #[v]).run Tryz.prog w1=.ok (.pointer q) w2∧Ext w1 w2∧(l≠[]→∃ g cur,q=some ⟨g,0,none⟩∧B≤g∧w2.heap[g]? = some (.cells cur 5 (0,0))∧l.length≤cur.size∧∀ j x,l[j]? = some x→w2.cell? ⟨g,j,none⟩=some (.int .u8 (x.toNat:Nat))):=by
  rcases hown.2 with ⟨rfl,h0⟩ | ⟨g,cap,cur,rfl,hbg,hg,hnc,hcm,hcs,htake⟩
  ·refine ⟨none,w1,rfl,Ext.refl _,fun hne=>absurd (List.eq_nil_of_length_eq_zero ?_) hne⟩
   simpa [Lib.byteCells] using h0
  ·have hg1:w1.heap[g]? = some (.cells cur 5 (0,0)):=Ext.heapEq hh1 hg
   by_cases hc:cap=0
   ·subst hc
    have hl0:l=[]:=List.eq_nil_of_length_eq_zero (by simpa [Lib.byteCells] using hnc)
    exact ⟨_,_,Lib.run_unsafeSliceData_zero w1 _ _ 5 Tryz.underlying221 ⟨g,0,none⟩ _ (5,cur.size) (by simp [World.shape?,hg1]),Ext.alloc _ _,fun hne=>absurd hl0 hne⟩
   ·refine ⟨_,w1,Lib.run_unsafeSliceData_row _ _ _ _ _ _ hc,Ext.refl _,fun _=>⟨g,cur,rfl,hbg,hg1,?_,fun j x hj => ?_⟩⟩
    ·have:l.length≤cap:=by simpa [Lib.byteCells] using hnc
     omega
    ·rw [cell_of_row w1 g j cur 5 _ hg1]
     have:=congrArg (·[j]?) htake
     have hjl:j < l.length:=(List.getElem?_eq_some_iff.1 hj).1
     simp only [List.getElem?_take] at this
     rw [if_pos (by simpa [Lib.byteCells] using hjl)] at this
     rw [← Array.getElem?_toList,this]
     simp [Lib.byteCells,hj]
 refine cA (i:=4) (by decide +kernel) rfl rfl ?_
 refine sH rfl (w':=w2) (v:=.pointer q) (by simp [execOp,resolve,invoke,builtin,fP,Act.eval,hr2]) ?_
 refine aA ?_
 have hb1:b < w1.heap.size:=(Array.getElem?_eq_some_iff.1 hS.2).1
 refine aJ ⟨⟨hE.trans x2,x2.at hS.2⟩,?_⟩
 have hE2:Ext w0 w2:=hE.trans x2
 obtain ⟨w3,hr3,x3,hb3⟩:∃ w3,(Builtin.unsafeString_ #[221,3] 9 #[.pointer q, .int .i64 ((aS l).length:Nat)]).run Tryz.prog w2=.ok (aI l) w3∧Ext w0 w3∧w3.heap[b]? = some (.cells #[p,v] 188 (0,0)):=by
  by_cases hl0:l=[]
  ·subst hl0
   exact ⟨w2,Lib.run_unsafeString_none w2 _ _ _ q,hE2,x2.at hS.2⟩
  ·obtain ⟨g,cur,rfl,hbg,hg2,hcl,hcell⟩:=hq hl0
   refine ⟨_,by rw [hlb];exact Lib.run_unsafeString_row w2 221 3 9 5 Tryz.underlying221 (by decide +kernel) g cur.size (by simp [World.shape?,hg2]) l hl0 hcl hlen (fun j x hj=>by rw [dW,Nat.zero_add];exact hcell j x hj),GR hE2 (by omega),?_⟩
   have hgb:g≠b:=by
    rintro rfl
    rw [x2.at hS.2] at hg2
    simp at hg2
   unfold World.freeze
   split
   ·exact x2.at hS.2
   ·simp only [Array.getElem?_modify]
    rw [if_neg hgb]
    exact x2.at hS.2
 refine cA (i:=10) (by decide +kernel) rfl rfl ?_
 refine sH rfl (w':=w3) (v:=aI l) (by rw [hlb] at hr3;simp [execOp,resolve,invoke,builtin,Act.eval,hlb,hr3]) ?_
 refine aA ?_
 refine aJ ⟨⟨x3,hb3⟩,?_⟩
 refine cA (i:=11) (by decide +kernel) rfl rfl ?_
 refine_lift bR ?_
 refine ⟨⟨x3,hb3⟩,?_⟩
 refine dK (by decide +kernel) ?_
 refine_lift bR ?_
 go_ret
 exact ⟨rfl,x3⟩
theorem nL (a b:List (List UInt8)):enc (a ++ b)=enc a ++ enc b:=by simp [enc]
theorem CC (x:List UInt8):enc [x]=UInt8.ofNat x.length :: x:=by simp [enc]
theorem xM {ls:List (List UInt8)} {x:List UInt8} (h:x ∈ ls) (hb:iI x=false):jG ls=none:=by
 rw [jG,if_neg]
 rintro ⟨h1,_⟩
 have:=List.all_eq_true.1 h1 x h
 rw [hb] at this
 cases this
theorem AK {ls:List (List UInt8)} {k:Nat} (h:254 < (enc (ls.take k)).length):jG ls=none:=by
 rw [jG,if_neg]
 rintro ⟨_,h2⟩
 have:enc ls=enc (ls.take k) ++ enc (ls.drop k):=by rw [← nL,List.take_append_drop]
 rw [this,List.length_append] at h2
 omega
theorem tS (a b:List UInt8):Lib.byteCells (a ++ b)=Lib.byteCells a ++ Lib.byteCells b:=by simp [Lib.byteCells]
theorem jA (a:List UInt8):(Lib.byteCells a).length=a.length:=by simp [Lib.byteCells]
set_option maxHeartbeats 1000000 in
theorem XL (v:Value) (ls:List (List UInt8)) (w:World) (h:Sl 1 w v (aP ls)) (hl:ls.length≤9223372036854775806):Calls Tryz.prog 71 #[v] w (bM w (match jG ls with | some n=>.tuple #[aI n, .int .i64 0] | none=>.tuple #[aI [], .int .i64 1])):=by
 go_enter Tryz.func71,Tryz.ntmps71
 refine_lift zN ?_;intro _ _ _
 refine_lift dR fun _ _ => ?_
 refine aL (z:=[.pointer none, .slice none 0 0]) rfl (by decide +kernel) ?_
 intro w1 x1 s1 h1
 refine aA ?_
 have hb:Lib.IsBuilder 188 5 w.heap.size w.heap.size (Lib.byteCells []) w1:=.inl ⟨Nat.le_refl _, .slice none 0 0,h1,World.ownsRow_nil _ _ _ _,by simp [Value.ownBlock]⟩
 have hs:=h.ext x1
 refine_lift dR fun _ _ => ?_
 clear hs
 have hlt:(aP ls).length=ls.length:=by simp [aP]
 rw [hlt]
 go_loopw [9] (fun i wr=>∃ k:Nat,k≤ls.length∧i=.int .i64 k∧Ext w wr∧Lib.IsBuilder 188 5 w.heap.size w.heap.size (Lib.byteCells (enc (ls.take k))) wr∧(ls.take k).all iI=true∧(enc (ls.take k)).length≤318) (fun i _=>ls.length - (intOf i).toNat)
 case atStart=>exact ⟨0,Nat.zero_le _,rfl,x1,hb,rfl,by simp [enc]⟩
 case round =>
  obtain ⟨k,hk,rfl,hx,hbk,hall,h318⟩:=hrel
  have hsl:=h.ext hx
  by_cases hlt:k < ls.length
  ·have hp:=hsl.elem (e:=[aI ls[k]]) (i:=k) (by simp [aP,hlt])
   have hmem:ls[k] ∈ ls:=List.getElem_mem hlt
   (repeat' first | ((with_reducible refine cY ?_);go_step) | ((with_reducible refine cJ ?_);first | refine eS ?_ | (refine dD ?_ ?_ <;> intro hc)) | fail)
   ·rename_i hc0 hc1 hc2
    refine aN (enters_of Tryz.func127 rfl rfl) rfl rfl (Tryz.Builder_Len _ _ _ _ hbk) ?_
    rintro e w2 ⟨rfl,rfl⟩
    refine ⟨_,rfl,?_⟩
    refine aA ?_
    rw [jA]
    refine_lift DY (fun _ _ _ => ?_) (fun _ => ?_)
    ·rename_i hc3
     go_ret2
     refine ⟨?_,hx⟩
     rw [AK (k:=k) (by omega)]
     rfl
    ·rename_i hc3
     have h63:ls[k].length≤63:=by omega
     have e8:IntKind.wrap .u8 ((ls[k].length:Nat):Int)=((ls[k].length:Nat):Int):=by simp [IntKind.wrap,IntKind.bits,IntKind.signed];omega
     rw [e8]
     refine aN (enters_of Tryz.func128 rfl rfl) rfl rfl (T.Builder_WriteByte _ _ _ _ _ hbk (by rw [jA];omega) hx.size) ?_
     rintro e w3 ⟨rfl,hb3,bl3,dr3⟩
     refine ⟨_,rfl,?_⟩
     refine aA ?_
     refine_lift bR ?_
     refine aN (enters_of Tryz.func129 rfl rfl) rfl rfl (T.Builder_WriteString _ _ _ _ _ (.inr hb3) (by rw [List.length_append,jA,fD];simp;omega) (Nat.le_trans hx.size bl3.size)) ?_
     rintro e w4 ⟨rfl,hb4,bl4,dr4⟩
     refine ⟨_,rfl,?_⟩
     refine aA ?_
     have hx4:Ext w w4:=hx.below' (bl3.trans bl4) (Nat.le_trans dr3 dr4)
     have hb5:Lib.IsBuilder 188 5 w.heap.size w.heap.size (Lib.byteCells (enc (ls.take (k + 1)))) w4:=by
      rw [List.take_add_one,List.getElem?_eq_getElem hlt,Option.toList_some,nL,CC,tS]
      have e:Lib.byteCells (UInt8.ofNat ls[k].length :: ls[k])=Value.int .u8 (ls[k].length:Nat) :: Lib.strCells ⟨ls[k].toArray⟩:=by
       have:(UInt8.ofNat ls[k].length).toNat=ls[k].length:=by simp;omega
       simp [Lib.byteCells,Lib.strCells,this]
      rw [e]
      refine .inr ?_
      simpa using hb4
     have hall2:(ls.take (k + 1)).all iI=true:=by
      rw [List.take_add_one,List.getElem?_eq_getElem hlt,Option.toList_some,List.all_append,hall]
      have:ls[k].length≠0:=fun e=>hc2 (List.eq_nil_of_length_eq_zero e)
      simp [iI];omega
     have h3182:(enc (ls.take (k + 1))).length≤318:=by
      rw [List.take_add_one,List.getElem?_eq_getElem hlt,Option.toList_some,nL,CC]
      simp;omega
     clear hbk hb3 hb4 bl3 bl4 hsl hp
     refine_lift bR ?_
     exact ⟨⟨k + 1,by omega,rfl,hx4,hb5,hall2,h3182⟩,by simp [intOf];omega⟩
   ·go_ret2
    refine ⟨?_,hx⟩
    rw [xM hmem (by simp [iI];omega)]
    rfl
   ·go_ret2
    refine ⟨?_,hx⟩
    rw [xM hmem (by simp [iI,hc])]
    rfl
  ·have:k=ls.length:=by omega
   subst this
   rw [List.take_length] at hbk hall h318
   refine_lift TW fun _ _ _ _ _ => ?_
   refine aN (enters_of Tryz.func127 rfl rfl) rfl rfl (Tryz.Builder_Len _ _ _ _ hbk) ?_
   rintro e w2 ⟨rfl,rfl⟩
   refine ⟨_,rfl,?_⟩
   refine aA ?_
   rw [jA]
   refine_lift DY (fun _ _ _ => ?_) (fun _ => ?_)
   ·go_ret2
    refine ⟨?_,hx⟩
    rw [AK (k:=ls.length) (by rw [List.take_length];omega)]
    rfl
   ·refine aN (enters_of Tryz.func130 rfl rfl) rfl rfl (T.Builder_String _ _ _ w _ hbk hx (Nat.le_refl _) (by omega)) ?_
    rintro e w3 ⟨rfl,x3⟩
    refine ⟨_,rfl,?_⟩
    refine aA ?_
    refine_lift bR ?_
    go_ret2
    refine ⟨?_,x3⟩
    rw [jG,if_pos ⟨hall,by omega⟩]
    rfl
theorem iW (l:List (List UInt8)) (k:Nat) (b:List UInt8) (h:l[k]? = some b):(aP l)[k]? = some [aI b]:=by simp [aP,h]
theorem xN (l:List (List UInt8)) (k:Nat) (b:List UInt8):(aP l).set k [aI b]=aP (l.set k b):=by simp [aP,List.map_set]
theorem bA (l:List (List UInt8)):(aP l).length=l.length:=by simp [aP]
set_option maxHeartbeats 1000000 in
theorem LR (nm:List UInt8) (w:World):Calls Tryz.prog 32 #[aI nm] w (bM w (aI (fold nm))):=by
 go_enter Tryz.func32,Tryz.ntmps32
 refine_lift dR fun _ _ => ?_
 refine aK (enters_of Tryz.func69 rfl rfl) rfl rfl (VM nm _) ?_
 intro v w1 x1 hv
 cases hl:aV nm with
 | none =>
  rw [hl] at hv
  subst hv
  refine_lift bR ?_
  go_ret
  exact ⟨by simp [fold,hl],x1⟩
 | some ls =>
  rw [hl] at hv
  obtain ⟨s,rfl,hs⟩:=hv
  have hfit:=dG hl
  have hlen:=fH ls
  rw [hfit.2.1] at hlen
  have hsl:=hs.sl
  refine_lift dR fun _ _ => ?_
  clear hsl
  rw [bA]
  go_loopw [19] (fun i wr=>∃ k:Nat,k≤ls.length∧i=.int .i64 k∧Ext w wr∧Own w.heap.size 1 9 wr s (aP (rI low ls k))) (fun i _=>ls.length - (intOf i).toNat)
  case atStart=>exact ⟨0,Nat.zero_le _,rfl,x1,by simpa [AG] using hs⟩
  case round =>
   obtain ⟨k,hk,rfl,hx,ho⟩:=hrel
   have hsl:=ho.sl
   have hlen2:(aP (rI low ls k)).length=ls.length:=by rw [bA,uQ]
   by_cases hlt:k < ls.length
   ·have hp:=hsl.elem (iW _ _ _ (DU low ls k hlt))
    have h254:ls[k].length≤254:=by have:=iA (List.getElem_mem hlt);rw [hfit.2.1] at this;omega
    refine_lift oQ ?_;intro _ _ _ _
    refine aD (enters_of Tryz.func70 rfl rfl) rfl rfl (YB _ _ h254) ?_
    intro w2 x2
    refine aA ?_
    have hsl:=hsl.ext x2
    have ho:=ho.ext x2
    have hx:=hx.trans x2
    clear hp
    refine_lift bR ?_
    refine fE (c:=aI (low ls[k])) (i:=k) rfl rfl rfl ho (by omega) (by decide +kernel) rfl ?_
    intro w3 o3 m3
    have hx3:=ho.mvx m3 hx (Nat.le_refl _)
    rw [xN,← AH low ls k hlt] at o3
    clear hx ho hsl
    refine_lift bR ?_
    exact ⟨⟨k + 1,by omega,rfl,hx3,o3⟩,by simp [intOf];omega⟩
   ·have:k=ls.length:=by omega
    subst this
    rw [DT] at hsl
    refine_lift zO fun _ _ _ => ?_
    refine aD (enters_of Tryz.func71 rfl rfl) rfl rfl (XL _ _ _ hsl (by simp;omega)) ?_
    intro w2 x2
    refine aA ?_
    cases hj:jG (ls.map low) with
    | none =>
     refine_lift bR ?_
     go_ret
     exact ⟨by simp [fold,hl,hj],hx.trans x2⟩
    | some n =>
     refine_lift bR ?_
     go_ret
     exact ⟨by simp [fold,hl,hj],hx.trans x2⟩
theorem xO {l:List UInt8} {i:Nat} (h:i < l.length):l.drop i=l[i] :: l.drop (i + 1):=List.drop_eq_getElem_cons h
theorem sN {l:List UInt8} {i:Nat} (h:i < l.length):l.getD i 0=l[i]:=by simp [h]
theorem LS {l:List UInt8} {i:Nat} (h:i < l.length):gT (l.drop i)=if (l.getD i 0).toNat < 1∨63 < (l.getD i 0).toNat∨l.length - i - 1 < (l.getD i 0).toNat then none else (gT (l.drop (i + 1 + (l.getD i 0).toNat))).map ((l.take (i + 1 + (l.getD i 0).toNat)).drop (i + 1) :: ·):=by
 rw [xO h,sN h,lD]
 simp only [List.length_drop]
 rw [show l.length - (i + 1)=l.length - i - 1 by omega]
 congr 1
 rw [List.drop_drop,List.drop_take]
 rw [show i + 1 + l[i].toNat - (i + 1)=l[i].toNat by omega]
set_option maxHeartbeats 1000000 in
theorem mF (nm:List UInt8) (w:World):Calls Tryz.prog 85 #[aI nm] w (oA w fun v w'=>match aV nm with
 | none=>v=.tuple #[.slice none 0 0, .bool false]
 | some ls=>∃ s,v=.tuple #[s, .bool true]∧Own w.heap.size 1 9 w' s (aP ls)):=by
 by_cases h254:254 < nm.length
 ·go_enter Tryz.func85,Tryz.ntmps85
  refine_lift jP fun _ => ?_
  go_ret2
  exact ⟨_,rfl,Ext.refl _,by simp [aV,h254]⟩
 ·have hlab:aV nm=gT nm:=by rw [aV,if_neg h254]
  rw [hlab]
  go_enter Tryz.func85,Tryz.ntmps85
  refine_lift oQ ?_;intro _ _ _ _
  have h0:0≤nm.length:=Nat.zero_le _
  go_loopw [4,5,6] (fun o a _ wr=>∃ (i:Nat) (pre:List (List UInt8)),i≤nm.length∧a=.int .i64 i∧Ext w wr∧Own w.heap.size 1 9 wr o (aP pre)∧pre.length≤i∧gT nm=(gT (nm.drop i)).map (pre ++ ·)) (fun _ a _ _=>nm.length - (intOf a).toNat)
  case atStart=>exact ⟨0,[],Nat.zero_le _,rfl,Ext.refl _,Own.nil _ _ _ _,Nat.le_refl _,by simp⟩
  case round =>
   obtain ⟨i,pre,hi,rfl,hx,ho,hpl,hpar⟩:=hrel
   by_cases hlt:i < nm.length
   ·rw [LS hlt] at hpar
    have hb:(nm.getD i 0).toNat < 256:=UInt8.toNat_lt _
    (repeat' first | ((with_reducible refine cY ?_);go_step) | ((with_reducible refine cJ ?_);first | refine eS ?_ | (refine dD ?_ ?_ <;> intro hc)) | fail)
    rotate_left
    ·rw [if_neg (by omega),Option.map_map] at hpar
     refine XH [aI ((nm.take (i + 1 + (nm.getD i 0).toNat)).drop (i + 1))] hx ho (by rw [bA];omega) ?_
     intro s2 v2 w1 w2 _ _ x2 o2
     refine aA ?_
     refine_lift bR ?_
     refine ⟨⟨i + 1 + (nm.getD i 0).toNat,pre ++ [(nm.take (i + 1 + (nm.getD i 0).toNat)).drop (i + 1)],by omega,by go_num,x2,?_,by simp;omega,?_⟩,by simp [intOf];omega⟩
     ·simpa [aP] using o2
     ·rw [hpar];congr 1;funext x;simp
    all_goals
     go_ret2
     exact ⟨_,rfl,hx,by rw [hpar,if_pos (by omega)];rfl⟩
   ·have:i=nm.length:=by omega
    subst this
    rw [List.drop_length,tO,Option.map_some,List.append_nil] at hpar
    refine_lift jP fun _ => ?_
    go_ret2
    exact ⟨_,rfl,hx,by rw [hpar];exact ⟨_,rfl,ho⟩⟩
theorem pE (nm:List UInt8) (w:World):Calls Tryz.prog 75 #[aI nm] w (bM w (.int .i64 (if (aV nm).isSome then 0 else 1))):=by
 go_enter Tryz.func75,Tryz.ntmps75
 refine_lift dR fun _ _ => ?_
 refine aK (enters_of Tryz.func85 rfl rfl) rfl rfl (mF nm _) ?_
 intro v w1 x1 hv
 cases hl:aV nm with
 | none =>
  rw [hl] at hv
  subst hv
  refine_lift bR ?_
  go_ret
  exact ⟨by simp [hl],x1⟩
 | some ls =>
  rw [hl] at hv
  obtain ⟨s,rfl,_⟩:=hv
  refine_lift bR ?_
  go_ret
  exact ⟨by simp [hl],x1⟩
theorem JO {b:UInt8} (h:65≤b.toNat) (h2:b.toNat≤90):IntKind.wrap .u8 ((b.toNat:Int) + 32)=((tP b).toNat:Int):=by
 rw [tP,if_pos ⟨h,h2⟩]
 have:(b + 32).toNat=b.toNat + 32:=by rw [UInt8.toNat_add];simp;omega
 rw [this]
 simp [IntKind.wrap,IntKind.bits,IntKind.signed];omega
set_option maxHeartbeats 1000000 in
theorem pF (l:List UInt8) (w:World) (hl:l.length≤4611686018427387904):Calls Tryz.prog 86 #[aI l] w (bM w (aI (low l))):=by
 go_enter Tryz.func86,Tryz.ntmps86
 refine_lift dR fun _ _ => ?_
 refine qD (e:=5) (l:=l) rfl rfl (by decide +kernel) (by decide +kernel) (by omega) ?_
 intro v w1 x1 o1
 refine aA ?_
 have hlb:(aS l).length=l.length:=by simp [aS]
 refine_lift dR fun _ _ => ?_
 go_loopw [4] (fun i wr=>∃ k:Nat,k≤l.length∧i=.int .i64 k∧Ext w wr∧Own w.heap.size 1 5 wr v (aS (mD l k))) (fun i _=>l.length - (intOf i).toNat)
 case atStart=>exact ⟨0,Nat.zero_le _,rfl,x1,by simpa [AF] using o1⟩
 case round =>
  obtain ⟨k,hk,rfl,hx,ho⟩:=hrel
  have hsl:=ho.sl
  have hlen:(aS (mD l k)).length=l.length:=by simp [aS,oV]
  by_cases hlt:k < l.length
  ·have hp:=hsl.elem (xJ _ _ _ (wY l k hlt))
   (repeat' first | ((with_reducible refine cY ?_);go_step) | ((with_reducible refine cJ ?_);first | refine eS ?_ | (refine dD ?_ ?_ <;> intro hc)) | fail)
   ·refine fE (c:=.int .u8 _) (i:=k) rfl rfl rfl ho (by omega) (by decide +kernel) rfl ?_
    intro w2 o2 m2
    have hx2:=ho.mvx m2 hx (Nat.le_refl _)
    have e2:(aS (mD l k)).set k [Value.int .u8 (IntKind.u8.wrap (↑l[k].toNat + 32))]=aS (mD l (k + 1)):=by
     rw [tQ l k hlt,← xK,JO (by omega) (by omega)]
    rw [e2] at o2
    clear hx ho hsl hp
    refine_lift bR ?_
    exact ⟨⟨k + 1,by omega,by go_num,hx2,o2⟩,by simp [intOf];omega⟩
   all_goals
    refine ⟨⟨k + 1,by omega,by go_num,hx,?_⟩,by simp [intOf];omega⟩
    rw [tR l k hlt (BZ (by omega))];exact ho
  ·have:k=l.length:=by omega
   subst this
   rw [DS] at hsl hlen
   refine_lift jP fun _ => ?_
   go_ret
   exact ⟨rfl,hx⟩
theorem XM {B:Nat} {v:Value} {ls:List (List UInt8)} {w:World} (h:Own B 1 9 w v (aP ls)):Calls Tryz.prog 171 #[v] w fun e w'=>e=.returned (.tuple #[])∧Own B 1 9 w' v (aP ls.reverse)∧Mv v.ownBlock w w':=by
 rcases h.form with ⟨rfl,h0⟩ | ⟨g,cap,rfl,hg,hB,hc,hm⟩
 ·have:ls=[]:=by simpa [aP] using h0
  subst this
  refine (Tryz.slices_Reverse_string_empty none 0 w).mono ?_
  rintro e w' ⟨rfl,rfl⟩
  exact ⟨rfl,h,Mv.refl _ _⟩
 ·rw [bA] at h hm ⊢
  refine (Tryz.slices_Reverse_string g 0 cap ls w (Own.holds h) hm).mono ?_
  rintro e w' ⟨rfl,n,rfl⟩
  have:=Own.putRow (ys:=ls.reverse) h (by simp) n #[]
  rw [Sort.grow_empty] at this
  exact ⟨rfl,this.1,this.2⟩
theorem YE {B:Nat} {v:Value} {ls:List (List UInt8)} {w:World} (h:Own B 1 9 w v (aP ls)) (hl:ls.length < 4611686018427387904):Calls Tryz.prog 107 #[v] w fun e w'=>e=.returned (.tuple #[])∧Own B 1 9 w' v (aP (ls.mergeSort fun x y=>decide (x≤y)))∧Mv v.ownBlock w w':=by
 rcases h.form with ⟨rfl,h0⟩ | ⟨g,cap,rfl,hg,hB,hc,hm⟩
 ·have:ls=[]:=by simpa [aP] using h0
  subst this
  refine (Tryz.slices_Sort_string_none none 0 w).mono ?_
  rintro e w' ⟨rfl,rfl⟩
  exact ⟨rfl,by simpa using h,Mv.refl _ _⟩
 ·rw [bA] at h hm ⊢
  refine (Tryz.slices_Sort_string g 0 cap ls w (Own.holds h) hg hl).mono ?_
  rintro e w' ⟨rfl,n,os,rfl⟩
  have:=Own.putRow (ys:=ls.mergeSort fun x y=>decide (x≤y)) h (List.length_mergeSort _) n os
  exact ⟨rfl,this.1,this.2⟩
theorem GT (ls:List (List UInt8)):(Lib.compact ls).length≤ls.length:=by
 unfold Lib.compact Lib.compactUpTo
 rw [List.length_map]
 exact Nat.le_trans (List.length_filter_le _ _) (by simp)
theorem YF {B:Nat} {v:Value} {ls:List (List UInt8)} {w:World} (h:Own B 1 9 w v (aP ls)):Calls Tryz.prog 108 #[v] w fun e w'=>∃ v',e=.returned v'∧Own B 1 9 w' v' (aP (Lib.compact ls))∧Mv v.ownBlock w w'∧v'.ownBlock=v.ownBlock:=by
 rcases h.form with ⟨rfl,h0⟩ | ⟨g,cap,rfl,hg,hB,hc,hm⟩
 ·have:ls=[]:=by simpa [aP] using h0
  subst this
  refine (Tryz.slices_Compact_string_empty none 0 w).mono ?_
  rintro e w' ⟨rfl,rfl⟩
  exact ⟨_,rfl,h,Mv.refl _ _,rfl⟩
 ·rw [bA] at h hm hc ⊢
  refine (Tryz.slices_Compact_string g 0 cap ls w (Own.holds h) hm hc).mono ?_
  rintro e w' ⟨rfl,n,rfl⟩
  have hle:=GT ls
  have:=Own.putRow (ys:=Lib.compact ls ++ List.replicate (ls.length - (Lib.compact ls).length) []) h (by simp;omega) n #[]
  rw [Sort.grow_empty] at this
  refine ⟨_,rfl,?_,this.2,rfl⟩
  have h2:=this.1.short (m:=(Lib.compact ls).length) (by simp)
  rw [List.map_append,List.take_left' (by simp)] at h2
  exact h2
theorem TO (nm:List UInt8) (w:World):Calls Tryz.prog 116 #[aI nm] w (oA w fun v w'=>match dB nm with
 | some ls=>∃ s,v=.tuple #[s, .bool true]∧Sl 1 w' s (aP ls)∧ls.length≤254
 | none=>∃ s,v=.tuple #[s, .bool false]):=by
 go_enter Tryz.func116,Tryz.ntmps116
 refine_lift zO ?_;intro _ _ _
 refine aD (enters_of Tryz.func32 rfl rfl) rfl rfl (LR nm _) ?_
 intro w1 x1
 refine aA ?_
 refine aK (enters_of Tryz.func69 rfl rfl) rfl rfl (VM _ _) ?_
 intro v w2 x2 hv
 cases hl:aV (fold nm) with
 | none =>
  rw [hl] at hv
  subst hv
  refine_lift dR fun _ _ => ?_
  refine aN (enters_of Tryz.func171 rfl rfl) rfl rfl (XM (ls:=[]) (Own.nil w2.heap.size 1 9 w2)) ?_
  rintro e w3 ⟨rfl,_,m3⟩
  refine ⟨_,rfl,?_⟩
  refine_lift bR ?_
  go_ret2
  refine ⟨_,rfl,(x1.trans x2).move m3 (by rintro k ⟨⟩),?_⟩
  simp [dB,hl]
 | some ls =>
  rw [hl] at hv
  obtain ⟨s,rfl,hs⟩:=hv
  refine_lift dR fun _ _ => ?_
  refine aN (enters_of Tryz.func171 rfl rfl) rfl rfl (XM hs) ?_
  rintro e w3 ⟨rfl,o3,m3⟩
  refine ⟨_,rfl,?_⟩
  refine_lift bR ?_
  go_ret2
  refine ⟨_,rfl,hs.mvx m3 (x1.trans x2) x1.size,?_⟩
  have:=dG hl
  simp only [dB,hl,Option.map_some]
  refine ⟨s,rfl,o3.sl,?_⟩
  have h2:=fH ls
  rw [this.2.1] at h2
  simp;omega
theorem XN (a:List UInt8) (w:World):Calls Tryz.prog 230 #[aI a] w (bM w (.bool false)):=by
 go_enter Tryz.func230,Tryz.ntmps230
 refine_lift bR ?_
 go_ret
 exact ⟨by simp,Ext.refl _⟩
theorem XO (a:List UInt8) (w:World):Calls Tryz.prog 226 #[aI a] w (bM w (.bool false)):=by
 go_enter Tryz.func226,Tryz.ntmps226
 refine_lift bR ?_
 go_ret
 exact ⟨by simp,Ext.refl _⟩
theorem YG (a b:List UInt8) (w:World):Calls Tryz.prog 207 #[aI a,aI b] w (bM w (.int .i64 (jH a b))):=by
 go_enter Tryz.func207,Tryz.ntmps207
 refine_lift dR fun _ _ => ?_
 refine aD (enters_of Tryz.func230 rfl rfl) rfl rfl (XN _ _) ?_
 intro w1 x1
 refine_lift dR fun _ _ => ?_
 refine aD (enters_of Tryz.func230 rfl rfl) rfl rfl (XN _ _) ?_
 intro w2 x2
 refine_lift LJ (fun _ _ _ _ => ?_) (fun _ _ => ?_) (fun _ => ?_)
 ·rename_i h
  go_ret
  exact ⟨by simp [jH,h],x1.trans x2⟩
 ·have h:=‹Op.bytesLess a b=false›
  have h2:=‹(!(Op.bytesLess a b || a == b))=true›
  go_ret
  have h3:a≠b:=by intro e;subst e;simp at h2
  exact ⟨by simp [jH,h,h3],x1.trans x2⟩
 ·have h:=‹Op.bytesLess a b=false›
  have h2:=‹(!(Op.bytesLess a b || a == b))=false›
  go_ret
  rw [h] at h2
  have h3:a=b:=by simpa using h2
  subst h3
  exact ⟨by simp [jH,h],x1.trans x2⟩
theorem YH (a b:List UInt8) (w:World):Calls Tryz.prog 231 #[aI a,aI b] w (bM w (.int .i64 (jH a b))):=by
 go_enter Tryz.func231,Tryz.ntmps231
 refine_lift dR fun _ _ => ?_
 refine aD (enters_of Tryz.func226 rfl rfl) rfl rfl (XO _ _) ?_
 intro w1 x1
 refine_lift dR fun _ _ => ?_
 refine aD (enters_of Tryz.func226 rfl rfl) rfl rfl (XO _ _) ?_
 intro w2 x2
 refine_lift LJ (fun _ _ _ _ => ?_) (fun _ _ => ?_) (fun _ => ?_)
 ·rename_i h
  go_ret
  exact ⟨by simp [jH,h],x1.trans x2⟩
 ·have h:=‹Op.bytesLess a b=false›
  have h2:=‹(!(Op.bytesLess a b || a == b))=true›
  go_ret
  have h3:a≠b:=by intro e;subst e;simp at h2
  exact ⟨by simp [jH,h,h3],x1.trans x2⟩
 ·have h:=‹Op.bytesLess a b=false›
  have h2:=‹(!(Op.bytesLess a b || a == b))=false›
  go_ret
  rw [h] at h2
  have h3:a=b:=by simpa using h2
  subst h3
  exact ⟨by simp [jH,h],x1.trans x2⟩
theorem fM {l:List (List UInt8)} {k:Nat} (h:k < l.length):(aP l)[k]? = some [aI l[k]]:=iW l k _ (List.getElem?_eq_getElem h)
theorem YI (u v:Value) (xs ys:List (List UInt8)) (w:World) (hu:Sl 1 w u (aP xs)) (hv:Sl 1 w v (aP ys)):Calls Tryz.prog 208 #[u,v] w (bM w (.int .i64 (gP xs ys))):=by
 have hxl:=hu.le
 have hyl:=hv.le
 have hxe:=bA xs
 have hye:=bA ys
 go_enter Tryz.func208,Tryz.ntmps208
 refine_lift dR fun _ _ => ?_
 rw [hxe]
 go_loopw [11] (fun i wr=>∃ k:Nat,k≤xs.length∧k≤ys.length∧i=.int .i64 k∧Ext w wr∧gP xs ys=gP (xs.drop k) (ys.drop k)) (fun i _=>xs.length - (intOf i).toNat)
 case atStart=>exact ⟨0,Nat.zero_le _,Nat.zero_le _,rfl,Ext.refl _,rfl⟩
 case round =>
  obtain ⟨k,hk,hk2,rfl,hx,hrec⟩:=hrel
  have hul:=hu.ext hx
  have hvl:=hv.ext hx
  by_cases hlt:k < xs.length
  ·have hp:=hul.elem (fM hlt)
   have hd:=List.drop_eq_getElem_cons hlt
   by_cases hlt2:k < ys.length
   ·have hp2:=hvl.elem (fM hlt2)
    have hd2:=List.drop_eq_getElem_cons hlt2
    refine_lift XI ?_;intro _ _ _ _ _ _ _
    refine aD (enters_of Tryz.func231 rfl rfl) rfl rfl (YH _ _ _) ?_
    intro w2 x2
    have hx2:=hx.trans x2
    clear hx hul hvl hp hp2
    refine_lift xD (fun _ => ?_) (fun _ => ?_)
    ·rename_i hc
     go_ret
     refine ⟨?_,hx2⟩
     rw [hrec,hd,hd2,gP,if_pos (by simpa using hc)]
     rfl
    ·rename_i hc
     refine ⟨⟨k + 1,by omega,by omega,rfl,hx2,?_⟩,by simp [intOf];omega⟩
     rw [hrec,hd,hd2,gP,if_neg (by simpa using hc)]
   ·have:k=ys.length:=by omega
    subst this
    refine_lift xG fun _ _ _ _ _ _ => ?_
    go_ret
    refine ⟨?_,hx⟩
    rw [hrec,hd,List.drop_length,gP]
    rfl
  ·have:k=xs.length:=by omega
   subst this
   refine_lift LN (fun _ _ => ?_) (fun _ _ _ _ => ?_)
   ·rename_i hc
    go_ret
    refine ⟨?_,hx⟩
    have hlt2:xs.length < ys.length:=by rw [hxe,hye] at hc;omega
    rw [hrec,List.drop_length,List.drop_eq_getElem_cons hlt2,gP]
    rfl
   ·rename_i hc
    go_ret
    refine ⟨?_,hx⟩
    have hlt2:xs.length=ys.length:=by rw [hxe,hye] at hc;omega
    rw [hrec,List.drop_length,hlt2,List.drop_length,gP]
    rfl
theorem YJ (a b:List UInt8) (w:World):Calls Tryz.prog 159 #[aI a,aI b] w (bM w (.int .i64 (gQ a b))):=by
 go_enter Tryz.func159,Tryz.ntmps159
 refine_lift dR fun _ _ => ?_
 refine aK (enters_of Tryz.func116 rfl rfl) rfl rfl (TO a _) ?_
 intro v w1 x1 hv
 cases ha:dB a with
 | none =>
  rw [ha] at hv
  obtain ⟨s,rfl⟩:=hv
  refine_lift dR fun _ _ => ?_
  refine aK (enters_of Tryz.func116 rfl rfl) rfl rfl (TO b _) ?_
  intro v w2 x2 hv
  cases hb:dB b with
  | none =>
   rw [hb] at hv
   obtain ⟨s2,rfl⟩:=hv
   refine_lift oQ fun _ _ _ _ => ?_
   refine aD (enters_of Tryz.func207 rfl rfl) rfl rfl (YG _ _ _) ?_
   intro w3 x3
   refine_lift bR ?_
   go_ret
   exact ⟨by simp [gQ,ha,hb],(x1.trans x2).trans x3⟩
  | some ys =>
   rw [hb] at hv
   obtain ⟨s2,rfl,hs2,_⟩:=hv
   refine_lift bR ?_
   go_ret
   exact ⟨by simp [gQ,ha,hb],x1.trans x2⟩
 | some xs =>
  rw [ha] at hv
  obtain ⟨s,rfl,hs,_⟩:=hv
  refine_lift dR fun _ _ => ?_
  refine aK (enters_of Tryz.func116 rfl rfl) rfl rfl (TO b _) ?_
  intro v w2 x2 hv
  cases hb:dB b with
  | none =>
   rw [hb] at hv
   obtain ⟨s2,rfl⟩:=hv
   refine_lift bR ?_
   go_ret
   exact ⟨by simp [gQ,ha,hb],x1.trans x2⟩
  | some ys =>
   rw [hb] at hv
   obtain ⟨s2,rfl,hs2,_⟩:=hv
   have hs:=hs.ext x2
   refine_lift dR fun _ _ => ?_
   refine aD (enters_of Tryz.func208 rfl rfl) rfl rfl (YI _ _ _ _ _ hs hs2) ?_
   intro w3 x3
   refine_lift bR ?_
   go_ret
   exact ⟨by simp [gQ,ha,hb],(x1.trans x2).trans x3⟩
theorem RV (nm:List UInt8) (w:World):Calls Tryz.prog 65 #[aI nm] w (bM w (.int .i64 (if (aV nm).isSome then 0 else 1))):=by
 go_enter Tryz.func65,Tryz.ntmps65
 refine_lift oQ fun _ _ _ _ => ?_
 refine aK (enters_of Tryz.func69 rfl rfl) rfl rfl (VM nm _) ?_
 intro v w1 x1 hv
 cases hl:aV nm with
 | none =>
  rw [hl] at hv
  subst hv
  refine_lift bR ?_
  go_ret
  exact ⟨by simp [hl],x1⟩
 | some ls =>
  rw [hl] at hv
  obtain ⟨s,rfl,_⟩:=hv
  refine_lift bR ?_
  go_ret
  exact ⟨by simp [hl],x1⟩
theorem WF (nm:List UInt8) (w:World) (hl:nm.length≤9223372036854775806):Calls Tryz.prog 184 #[aI nm] w (bM w (if (aV nm).isSome=true then .tuple #[aI (nm ++ [0]), .int .i64 0] else .tuple #[aI [], .int .i64 1])):=by
 have h27:=fun w=>RV nm w
 cases hls:aV nm with
 | none =>
  simp only [hls,Option.isSome_none,Bool.false_eq_true,if_false] at h27 ⊢
  go_enter Tryz.func184,Tryz.ntmps184
  refine_lift oQ fun _ _ _ _ => ?_
  refine aD (enters_of Tryz.func65 rfl rfl) rfl rfl (h27 _) ?_
  intro w1 x1
  refine_lift jP fun _ => ?_
  go_ret2
  exact ⟨rfl,x1⟩
 | some ls =>
  simp only [hls,Option.isSome_some,if_true] at h27 ⊢
  go_enter Tryz.func184,Tryz.ntmps184
  refine_lift oQ fun _ _ _ _ => ?_
  refine aD (enters_of Tryz.func65 rfl rfl) rfl rfl (h27 _) ?_
  intro w1 x1
  refine_lift bR ?_
  go_ret2
  exact ⟨rfl,x1⟩
theorem XP (s:List UInt8) (w:World) (hl:s.length≤9223372036854775807):Calls Tryz.prog 151 #[aI s] w (bM w (.tuple #[aI ((eX s).getD []), .bool (eX s).isSome])):=by
 have h27:=fun w=>RV (Lib.trimSuffix s [0]) w
 go_enter Tryz.func151,Tryz.ntmps151
 refine_lift dR fun _ _ => ?_
 refine aN (vs:=[aI s,aI [0]]) (enters_of Tryz.func186 rfl rfl) rfl rfl (Tryz.strings_CutSuffix ⟨s.toArray⟩ ⟨[0].toArray⟩ _ (by rw [fD];exact hl)) ?_
 rintro e w1 ⟨rfl,rfl⟩
 refine ⟨_,rfl,?_⟩
 refine aA ?_
 cases hh:Lib.hasSuffix s [0] with
 | false =>
  refine_lift bR ?_
  go_ret2
  refine ⟨?_,Ext.refl _⟩
  simp only [eX,hh,Bool.false_eq_true,false_and,if_false]
  rfl
 | true =>
  cases hls:aV (Lib.trimSuffix s [0]) with
  | none =>
   simp only [hls,Option.isSome_none,Bool.false_eq_true,if_false] at h27
   refine_lift oQ fun _ _ _ _ => ?_
   all_goals try (exact absurd ‹false=true› Bool.false_ne_true)
   refine aD (enters_of Tryz.func65 rfl rfl) rfl rfl (h27 _) ?_
   intro w2 x2
   refine_lift jP fun _ => ?_
   go_ret2
   refine ⟨?_,x2⟩
   simp only [eX,hh,hls,Option.isSome_none,Bool.false_eq_true,and_false,if_false]
   rfl
  | some ls =>
   simp only [hls,Option.isSome_some,if_true] at h27
   refine_lift oQ fun _ _ _ _ => ?_
   all_goals try (exact absurd ‹false=true› Bool.false_ne_true)
   refine aD (enters_of Tryz.func65 rfl rfl) rfl rfl (h27 _) ?_
   intro w2 x2
   refine_lift bR ?_
   go_ret2
   refine ⟨?_,x2⟩
   simp only [eX,hh,hls,Option.isSome_some,and_self,if_true]
   rfl
theorem YK (k:Int) (w:World):Calls Tryz.prog 150 #[.int .i64 k] w (bM w (.int .i64 (dY k))):=by
 go_enter Tryz.func150,Tryz.ntmps150
 (repeat' first | ((with_reducible refine cY ?_);go_step) | ((with_reducible refine cJ ?_);first | refine eS ?_ | (refine dD ?_ ?_ <;> intro hc)) | fail)
 all_goals
  go_ret
  refine ⟨?_,Ext.refl _⟩
  simp [dY, *]
theorem YL (s:List UInt8) (w:World) (hl:s.length≤4611686018427387904):Calls Tryz.prog 185 #[aI s] w (bM w (.bool (rL s))):=by
 go_enter Tryz.func185,Tryz.ntmps185
 refine_lift dR fun _ _ => ?_
 go_loopw [0] (fun s2 wr=>wr=w∧∃ r:List UInt8,s2=aI r∧r.length≤s.length∧mE s=mE r) (fun s2 _=>rB s2)
 case atStart=>exact ⟨rfl,s,rfl,Nat.le_refl _,rfl⟩
 case round =>
  obtain ⟨rfl,r,rfl,hr,hrec⟩:=hrel
  cases r with
  | nil =>
   refine_lift bR ?_
   go_ret
   refine ⟨?_,Ext.refl _⟩
   rw [rL,hrec]
   simp [mE,oW]
  | cons k t =>
   have hk:k.toNat < 256:=k.toNat_lt
   have hne:s≠[]:=by intro e;subst e;simp at hr
   refine_lift LN (fun _ _ => ?_) (fun _ _ _ _ => ?_)
   ·have hc:=‹((k :: t).length:Int) < 1 + (k.toNat:Int)›
    go_ret
    refine ⟨?_,Ext.refl _⟩
    rw [rL,hrec,oY,if_pos (by simp at hc;omega)]
    simp
   ·have hc:=‹1 + (k.toNat:Int)≤((k :: t).length:Int)›
    have e:(1 + (k.toNat:Int)).toNat=k.toNat + 1:=by omega
    rw [e,List.drop_succ_cons]
    refine ⟨⟨trivial,_,rfl,by simp at hr ⊢;omega,?_⟩,by simp [kW];omega⟩
    rw [hrec,oY,if_neg (by simp at hc;omega)]
theorem VN (k:Int) (d:List UInt8) (w:World) (hl:d.length≤9223372036854775807):Calls Tryz.prog 105 #[.int .i64 k,aI d] w (bM w (.tuple #[aI (aY k d).1, .int .i64 (aY k d).2])):=by
 go_enter Tryz.func105,Tryz.ntmps105
 refine_lift dR fun _ _ => ?_
 refine aD (enters_of Tryz.func150 rfl rfl) rfl rfl (YK _ _) ?_
 intro w1 x1
 refine_lift TU (fun _ _ => ?_) (fun _ _ _ _ => ?_) (fun _ => ?_)
 ·have hc:=‹dY k < 0›
  go_ret2
  refine ⟨?_,x1⟩
  rw [aY,if_pos hc]
  rfl
 ·have hc:¬ dY k < 0:=by have:=‹0≤dY k›;omega
  have hc2:=‹(d.length:Int) < dY k›
  go_ret2
  refine ⟨?_,x1⟩
  rw [aY,if_neg hc,if_pos hc2]
  rfl
 ·have hc:¬ dY k < 0:=by have:=‹0≤dY k›;omega
  have hc2:¬ (d.length:Int) < dY k:=by have:=‹dY k≤(d.length:Int)›;omega
  refine aD (enters_of Tryz.func151 rfl rfl) rfl rfl (XP (d.drop (dY k).toNat) _ (by simp;omega)) ?_
  intro w2 x2
  cases hh:eX (d.drop (dY k).toNat) with
  | none =>
   simp only [hh,Option.isSome_none,Option.getD_none]
   refine_lift bR ?_
   go_ret2
   refine ⟨?_,x1.trans x2⟩
   rw [aY,if_neg hc,if_neg hc2,hh]
   rfl
  | some n =>
   simp only [hh,Option.isSome_some,Option.getD_some]
   refine_lift bR ?_
   go_ret2
   refine ⟨?_,x1.trans x2⟩
   rw [aY,if_neg hc,if_neg hc2,hh]
   rfl
theorem OQ {s:List UInt8} {k:Nat} (h:k < s.length):s.getD k 0=s[k]:=by simp [h]
theorem XQ (s:List UInt8) (w:World) (hl:s.length≤4611686018427387904):Calls Tryz.prog 152 #[aI s] w (bM w (.tuple #[aI (cL s).1,aI (cL s).2.1, .bool (cL s).2.2])):=by
 go_enter Tryz.func152,Tryz.ntmps152
 refine_lift dR fun _ _ => ?_
 go_loopw [5] (fun i wr=>wr=w∧∃ k:Nat,i=.int .i64 k∧k≤s.length + 256∧fT s=k + fT (s.drop k)) (fun i _=>s.length + 256 - (intOf i).toNat)
 case atStart=>exact ⟨rfl,0,rfl,by omega,by simp⟩
 case round =>
  obtain ⟨rfl,k,rfl,hk,hrec⟩:=hrel
  by_cases hlt:k < s.length
  ·have hd:=List.drop_eq_getElem_cons hlt
   have hb:(s.getD k 0).toNat < 256:=UInt8.toNat_lt _
   have hg:=OQ hlt
   refine_lift VU (fun hc _ _ _ _ => ?_) (fun hc _ => ?_)
   ·have hc:=‹(!decide (((s.getD k 0).toNat:Int)=0))=true›
    have hne:(s.getD k 0).toNat≠0:=by simpa using hc
    go_roundw
    case rel =>
     refine ⟨trivial,k + (1 + (s.getD k 0).toNat),by congr 1,by omega,?_⟩
     rw [hrec,hd,rK,← hg,if_neg hne,List.drop_drop]
     rw [show k + 1 + (s.getD k 0).toNat=k + (1 + (s.getD k 0).toNat) by omega]
     omega
    case measure=>simp only [intOf];omega
   ·have hc:=‹(!decide (((s.getD k 0).toNat:Int)=0))=false›
    have hz:(s.getD k 0).toNat=0:=by simpa using hc
    have hw:fT s=k:=by rw [hrec,hd,rK,← hg,if_pos hz];rfl
    have hf:cL s=((eX (s.take (k + 1))).getD [],s.drop (k + 1),(eX (s.take (k + 1))).isSome):=by
     rw [cL,hw,if_neg (by omega)]
    refine aD (enters_of Tryz.func151 rfl rfl) rfl rfl (XP _ _ (by simp;omega)) ?_
    intro w2 x2
    refine aA ?_
    refine_lift dR fun _ _ => ?_
    refine cB (by decide +kernel) (by decide +kernel) ?_
    repeat' (first | ((first | (with_reducible apply sI) | ((with_reducible apply LF);(rfl);(rfl);(with_reducible rfl)));(intro _ _;exact rn);(refine aA ?_)) | ((with_reducible apply AE);(rfl);(rfl);(first | (with_reducible exact (rfl:true = !false)) | (with_reducible exact (rfl:false = !true)) | (exact Bool.not_false.symm) | (exact Bool.not_true.symm));(refine aA ?_)) | (with_reducible (apply HY)))
    intro w3 x3
    refine_lift bR ?_
    refine bodyPost_ret (results_tmp3 rfl _ _ _) rfl ⟨?_,x2.trans x3⟩
    rw [hf]
    rfl
  ·refine_lift oQ fun hc _ _ _ => ?_
   refine bodyPost_ret (results_tmp3 rfl _ _ _) rfl ⟨?_,Ext.refl _⟩
   have hw:s.length≤fT s:=by omega
   rw [cL,if_pos hw]
   rfl
theorem UL (r:List UInt8) (i:Nat) (p:Value) (w:World) (hp:Pts w p [aI r]) (hr:r.length=20) (hi:i < 5):Calls Tryz.prog 153 #[.int .i64 i,p] w (bM w (.int .i64 (numP r i 4:Nat))):=by
 go_enter Tryz.func153,Tryz.ntmps153
 refine_lift dR fun _ _ => ?_
 go_loopw [4,6] (fun n j wr=>wr=w∧∃ k:Nat,k≤4∧j=.int .i64 k∧n=.int .i64 (numP r i k:Nat)) (fun _ j _=>4 - (intOf j).toNat)
 case atStart=>exact ⟨rfl,0,by omega,rfl,rfl⟩
 case round =>
  obtain ⟨rfl,k,hk,rfl,rfl⟩:=hrel
  by_cases hlt:k < 4
  ·have hn:=IC r i k
   have hn2:numP r i k * 256 < 4294967296:=by
    have:256 ^ k≤256 ^ 3:=Nat.pow_le_pow_right (by omega) (by omega)
    omega
   have hb:(r.getD (4 * i + k) 0).toNat < 256:=UInt8.toNat_lt _
   have hb2:(r.getD (4 * (i:Int) + (k:Int)).toNat 0).toNat < 256:=UInt8.toNat_lt _
   have e3:(4 * (i:Int) + (k:Int)).toNat=4 * i + k:=by omega
   refine_lift jP fun _ => ?_
   refine ⟨⟨trivial,k + 1,by omega,rfl,?_⟩,by simp [intOf];omega⟩
   rw [numP]
  ·have:k=4:=by omega
   subst this
   refine_lift jP fun _ => ?_
   go_ret
   exact ⟨rfl,Ext.refl _⟩
theorem xP (n:Nat):IntKind.wrap .u8 (n:Int)=((UInt8.ofNat n).toNat:Nat):=by
 simp only [IntKind.wrap,IntKind.bits,IntKind.signed,UInt8.toNat_ofNat']
 simp
theorem XR {B:Nat} {v:Value} {l:List UInt8} {w:World} (n:Nat) (h:Own B 1 5 w v (aS l)) (hB:B≤w.heap.size) (hn:n < 4294967296) (hl:l.length≤1000000):Calls Tryz.prog 187 #[v, .int .i64 n] w fun e w'=>∃ v',e=.returned v'∧Own B 1 5 w' v' (aS (l ++ zJ n))∧Mv v.ownBlock w w':=by
 go_enter Tryz.func187,Tryz.ntmps187
 refine_lift zO ?_;intro _ _ _
 have e1:IntKind.wrap .u8 ((n:Int) / 2 ^ Int.toNat 24)=((UInt8.ofNat (n / 16777216)).toNat:Nat):=by
  rw [← xP];congr 1
 have e2:IntKind.wrap .u8 ((n:Int) / 2 ^ Int.toNat 16)=((UInt8.ofNat (n / 65536)).toNat:Nat):=by
  rw [← xP];congr 1
 have e3:IntKind.wrap .u8 ((n:Int) / 2 ^ Int.toNat 8)=((UInt8.ofNat (n / 256)).toNat:Nat):=by
  rw [← xP];congr 1
 have e4:IntKind.wrap .u8 (n:Int)=((UInt8.ofNat n).toNat:Nat):=xP n
 rw [e1,e2,e3,e4]
 refine bN (xs:=[.int .u8 ((UInt8.ofNat (n / 16777216)).toNat:Nat), .int .u8 ((UInt8.ofNat (n / 65536)).toNat:Nat), .int .u8 ((UInt8.ofNat (n / 256)).toNat:Nat), .int .u8 ((UInt8.ofNat n).toNat:Nat)]) (k:=1) (e:=5) (bytes:=1) rfl rfl rfl (by intro y hy;simp at hy;rcases hy with rfl | rfl | rfl | rfl <;> rfl) (by decide +kernel) (by simp) ?_
 intro v1 w1 x1 s1 sl1 _
 refine aA ?_
 have hll:(aS l).length=l.length:=by simp [aS]
 refine kX (B:=B) (k:=1) (e:=5) (bytes:=1) (x:=v1) rfl (h.ext x1) rfl sl1 (by decide +kernel) (by simp [Value.cells,Value.oneCell']) (Nat.le_trans hB x1.size) (by rw [hll];simp;omega) (by rw [hll];simp;omega) ?_
 intro v2 w2 o2 m2
 refine aA ?_
 refine_lift bR ?_
 go_ret
 refine ⟨v2,rfl,?_,(x1.mv _).trans m2⟩
 have:aS (l ++ zJ n)=aS l ++ aS (zJ n):=by simp [aS]
 rw [this]
 exact o2
structure RSet where
 name:List UInt8
 kind:Int
 ttl:Int
 data:List (List UInt8)
 deriving DecidableEq,Inhabited
structure SetAt (w:World) (cs:List Value) (s:RSet):Prop where
 out:∃ v,cs=[aI s.name, .int .i64 s.kind, .int .i64 s.ttl,v]∧Sl 1 w v (aP s.data)
theorem SetAt.ext {w w':World} {cs:List Value} {s:RSet} (h:SetAt w cs s) (hx:Ext w w'):SetAt w' cs s:=by
 obtain ⟨v,h1,h2⟩:=h
 exact ⟨v,h1,h2.ext hx⟩
theorem YM (v:Value) (a b:Int) (w:World) (h:Sl 1 w v [[.int .i64 a],[.int .i64 b]]):Calls Tryz.prog 158 #[v] w (bM w (.int .i64 (if a≠0 then a else b))):=by
 have h0:=h.elem (i:=0) rfl
 have h1:=h.elem (i:=1) rfl
 go_enter Tryz.func158,Tryz.ntmps158
 refine_lift dR fun _ _ => ?_
 go_loopw [8] (fun i wr=>wr=w∧∃ k:Nat,i=.int .i64 k∧k≤2∧(1≤k→a=0)∧(2≤k→b=0)) (fun i _=>2 - (intOf i).toNat)
 case atStart=>exact ⟨rfl,0,rfl,by omega,by omega,by omega⟩
 case round =>
  obtain ⟨rfl,k,rfl,hk,ha,hb⟩:=hrel
  have hk3:k=0∨k=1∨k=2:=by omega
  rcases hk3 with rfl | rfl | rfl
  ·refine_lift LN (fun _ _ => ?_) (fun _ _ _ _ => ?_)
   ·go_ret
    refine ⟨?_,Ext.refl _⟩
    have hne:a≠0:=by simp at *;assumption
    rw [if_pos hne]
    rfl
   ·have h0:a=0:=by simp at *;assumption
    exact ⟨⟨trivial,1,rfl,by omega,fun _=>h0,by omega⟩,by simp [intOf]⟩
  ·have ha:=ha (by omega)
   refine_lift LN (fun _ _ => ?_) (fun _ _ _ _ => ?_)
   ·go_ret
    refine ⟨?_,Ext.refl _⟩
    rw [if_neg (by simpa using ha)]
    rfl
   ·have h0:b=0:=by simp at *;assumption
    exact ⟨⟨trivial,2,rfl,by omega,fun _=>ha,fun _=>h0⟩,by simp [intOf]⟩
  ·have ha:=ha (by omega)
   have hb:=hb (by omega)
   refine_lift jP fun _ => ?_
   go_ret
   refine ⟨?_,Ext.refl _⟩
   rw [if_neg (by simpa using ha),hb]
   rfl
theorem XS (s:RSet) (v:Value) (d:List UInt8) (w:World):Calls Tryz.prog 172 #[.agg #[aI s.name, .int .i64 s.kind, .int .i64 s.ttl,v],aI d] w (bM w (.agg #[aI s.name, .int .i64 s.kind, .int .i64 s.ttl,aI d])):=by
 go_enter Tryz.func172,Tryz.ntmps172
 refine_lift lF fun _ _ => ?_
 refine bJ (vs:=[aI s.name, .int .i64 s.kind, .int .i64 s.ttl,v]) rfl rfl ?_
 intro p w1 x1 hp
 refine aA ?_
 refine aL (z:=[aI [], .int .i64 0, .int .i64 0,aI []]) rfl (by decide +kernel) ?_
 intro w2 x2 s2 h2
 have hp:=hp.ext x2
 refine_lift dR fun _ _ => ?_
 refine cH (v:=.agg #[aI s.name, .int .i64 s.kind, .int .i64 s.ttl,aI d]) rfl (Runs.build rfl (by kernel_rfl)) ?_
 refine aA ?_
 refine aG (v:=.agg #[aI s.name, .int .i64 s.kind, .int .i64 s.ttl,aI d]) rfl rfl rfl h2 (show aR Tryz.prog 106 4=true by decide +kernel) rfl (by simp [Value.cells,Value.oneCell',aI]) ?_
 intro w3 p3
 have x13:Ext w w3:=(x1.trans x2).move p3.mv (by rintro k ⟨⟩;exact x1.size)
 have h3:=p3.this
 refine_lift bR ?_
 exact bodyPost_ret (bH (cs:=[aI s.name, .int .i64 s.kind, .int .i64 s.ttl,aI d]) rfl rfl h3 (show cP Tryz.prog 106 4=true by decide +kernel)) rfl ⟨rfl,x13⟩
structure SetsAt (w:World) (v:Value) (l:List RSet):Prop where
 out:∃ css,Sl 4 w v css∧css.length=l.length∧∀ (i:Nat) (s:RSet),l[i]? = some s→∃ x,css[i]? = some [aI s.name, .int .i64 s.kind, .int .i64 s.ttl,x]∧Sl 1 w x (aP s.data)
theorem SetsAt.ext {w w':World} {v:Value} {l:List RSet} (h:SetsAt w v l) (hx:Ext w w'):SetsAt w' v l:=by
 obtain ⟨css,h1,h2,h3⟩:=h
 exact ⟨css,h1.ext hx,h2,fun i s hi=>let ⟨x,a,b⟩:=h3 i s hi;⟨x,a,b.ext hx⟩⟩
theorem SetsAt.elem {w:World} {v:Value} {l:List RSet} (h:SetsAt w v l) {i:Nat} {s:RSet} (hi:l[i]? = some s):∃ x,Pts w (dN v (i * 4)) [aI s.name, .int .i64 s.kind, .int .i64 s.ttl,x]∧Sl 1 w x (aP s.data):=by
 obtain ⟨css,h1,h2,h3⟩:=h
 obtain ⟨x,a,b⟩:=h3 i s hi
 exact ⟨x,h1.elem a,b⟩
theorem SetsAt.sl {w:World} {v:Value} {l:List RSet} (h:SetsAt w v l):∃ css:List (List Value),Sl 4 w v css∧css.length=l.length:=by
 obtain ⟨css,h1,h2,h3⟩:=h
 exact ⟨css,h1,h2⟩
def Rec.cells (r:Rec):List Value:=[aI r.name, .int .i64 r.kind, .int .i64 r.ttl,aI r.data]
def aO (l:List Rec):List (List Value):=l.map Rec.cells
theorem aQ (l:List Rec):(aO l).length=l.length:=by simp [aO]
theorem gJ {l:List Rec} {k:Nat} (h:k < l.length):(aO l)[k]? = some [aI l[k].name, .int .i64 l[k].kind, .int .i64 l[k].ttl,aI l[k].data]:=by simp [aO,h,Rec.cells]
theorem iJ {α:Type} {a b:List α} {k:Nat} (h:a.take k=b.take k) (ha:k < a.length) (hb:k < b.length) (he:a[k]=b[k]):a.take (k + 1)=b.take (k + 1):=by
 rw [List.take_add_one,List.take_add_one,List.getElem?_eq_getElem ha,List.getElem?_eq_getElem hb,h,he]
theorem xQ {α:Type} {a b:List α} {k:Nat} (ha:k < a.length) (hb:k < b.length) (he:a[k]≠b[k]):a≠b:=by
 rintro rfl;exact he rfl
def GW (a b:Int):Int:=if a < b then -1 else if b < a then 1 else 0
def eJ (na nb:List UInt8) (ka kb:Int):Int:=if gQ na nb≠0 then gQ na nb else GW ka kb
theorem YN (a b:Int) (w:World):Calls Tryz.prog 160 #[.int .i64 a, .int .i64 b] w (bM w (.int .i64 (GW a b))):=by
 refine (Tryz.cmp_Compare_int a b w).mono ?_
 rintro e w' ⟨rfl,rfl⟩
 refine ⟨?_,Ext.refl _⟩
 unfold GW Lib.compareInt
 rfl
set_option maxHeartbeats 1000000 in
theorem XT (na nb:List UInt8) (ka kb ta tb:Int) (va vb:Value) (w:World):Calls Tryz.prog 110 #[.agg #[aI na, .int .i64 ka, .int .i64 ta,va], .agg #[aI nb, .int .i64 kb, .int .i64 tb,vb]] w (bM w (.int .i64 (eJ na nb ka kb))):=by
 go_enter Tryz.func110,Tryz.ntmps110
 refine_lift lF fun _ _ => ?_
 refine bJ (vs:=[aI na, .int .i64 ka, .int .i64 ta,va]) rfl rfl ?_
 intro p w1 x1 hp
 refine aA ?_
 refine bJ (vs:=[aI nb, .int .i64 kb, .int .i64 tb,vb]) rfl rfl ?_
 intro q w2 x2 hq
 refine aA ?_
 refine_lift dR fun _ _ => ?_
 refine dS (S:=Ext w2) (by decide +kernel) ?_
 intro w3 x3 _
 refine tk 0 ?_;refine aA ?_;refine tk 1 ?_;refine aA ?_;refine tk 2 ?_;refine aA ?_;refine tk 3 ?_;refine aA ?_;refine tk 5 ?_;refine aA ?_;refine tk 6 ?_;refine aA ?_;refine tk 7 ?_;refine aA ?_;refine tk 8 ?_;refine aA ?_
 refine cA (i:=4) (by decide +kernel) rfl rfl ?_
 refine aD (enters_of Tryz.func159 rfl rfl) rfl rfl (YJ _ _ _) ?_;intro w4 x4;refine aA ?_
 refine aJ ⟨by exact eU,?_⟩
 refine cA (i:=9) (by decide +kernel) rfl rfl ?_
 refine aD (enters_of Tryz.func160 rfl rfl) rfl rfl (YN _ _ _) ?_;intro w5 x5;refine aA ?_
 refine aJ ⟨by exact eU,?_⟩
 refine cA (i:=10) (by decide +kernel) rfl rfl ?_
 refine bN (e:=3) (k:=1) (bytes:=8) (xs:=[.int .i64 (gQ na nb), .int .i64 (GW ka kb)]) rfl rfl rfl (by simp [Value.cells]) (by decide +kernel) (by simp) ?_
 intro v w6 x6 _ h6 _
 refine aA ?_
 refine aJ ⟨by exact eU,?_⟩
 refine cA (i:=11) (by decide +kernel) rfl rfl ?_
 refine aD (enters_of Tryz.func158 rfl rfl) rfl rfl (YM _ _ _ _ h6) ?_;intro w7 x7;refine aA ?_
 refine aJ ⟨by exact eU,?_⟩
 refine tk 12 ?_;refine aA ?_
 refine dK (by decide +kernel) ?_
 refine_lift bR ?_
 go_ret
 exact ⟨rfl,by exact eU⟩
end Go.Proofs.X
