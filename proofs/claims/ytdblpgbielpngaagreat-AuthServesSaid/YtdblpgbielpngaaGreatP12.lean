/- Laws and walks that the proof of the statement is made of (part 12). -/
import Derived.Test.YtdblpgbielpngaaGreatP11
set_option linter.unusedSimpArgs false
set_option linter.unusedVariables false
set_option maxRecDepth 100000
set_option maxHeartbeats 20000000
namespace Go.Proofs.X
open Go.RowKit
variable {cs:Array Value} {held:Bool} {qt:Int} {ps rs:List (List UInt8 × Nat)} {ls:List (List UInt8)} {css css0 es:List (List Value)} {d l m n o qn s t x y z:List UInt8} {B a b base c e fuel i j k p q:Nat} {fz:Nat × Nat} {row:Option Nat} {r u v:Value} {w w' w0 w1 w2:World}
theorem Kg.keep (h:Kg w w'):Keep [106,5,162] w w':=fun c cs t fz hc ht =>
 h c cs t fz (fun e=>ht (by simp [e])) (fun e=>ht (by simp [e])) (fun e=>ht (by simp [e])) hc
def eR:List (List UInt8)→List UInt8→List (List UInt8 × Nat)→List UInt8 × List (List UInt8 × Nat)
 | [],l,rs=>(l ++ [0],rs)
 | x :: ls,l,rs=>match rs.find? (fun p=>decide (p.1=enc (x :: ls)) && decide (p.2 < 16384)) with
   | some p=>(l ++ aT (49152 + p.2),rs)
   | none=>eR ls (l ++ iA x) (rs ++ [(enc (x :: ls),l.length)])
theorem QE {L:List (List UInt8)} (hf:L.all jD=true) (hl:(enc L).length≤254) (i:Nat):kO (L.drop i)=some (enc (L.drop i)):=by
 unfold kO;rw [if_pos];refine ⟨?_,Nat.le_trans (JL L i) hl⟩;rw [List.all_eq_true] at hf ⊢;exact fun x hx=>hf x (List.mem_of_mem_drop hx)
theorem FV {α:Type} {p:α→Bool} {rs:List α} (h:∀ i,i < j→∀ x,rs[i]? = some x→p x=false):rs.find? p=(rs.drop j).find? p:=by
 induction j generalizing rs with
 | zero=>rfl
 | succ j ih =>
  cases rs with
  | nil=>rfl
  | cons a rs =>
   rw [List.find?_cons,h 0 aE a rfl,List.drop_succ_cons];exact ih fun i hi x hx=>h (i + 1) aE x (by simpa using hx)
theorem WN (h:WgAt w0 w b l rs) (n:List UInt8) (hn:(aP n).isSome=true) (hl:l.length + 2000≤100000000000000) (hr:rs.length≤900000) (hp2:∀ p ∈ rs,p.2≤100000000) (hl2:l.length≤10000000):Calls Tryz.prog 53 #[.pointer (some ⟨b,0,none⟩),aI n] w (FU w0 w b (eR (dU n) l rs).1 (eR (dU n) l rs).2):=by
 obtain ⟨hf,hen,hnl⟩:=fS hn;have hL:=mT n w;have hlab:(aP n).getD []=dU n:=rfl;rw [hlab] at hL;generalize dU n=L at *;have hen2:(enc L).length≤254:=by rw [hen];exact hnl
 have hge:=LU hf;go_enter Tryz.func53,Tryz.ntmps53
 refine_lift cC fun _ _ => ?_;refine EF hL fun lv w1 x1 ol1 => ?_;have h1:WgAt w0 w1 b l rs:=by
  obtain ⟨hb,hx,v,p,hB,ho,hP⟩:=h;exact ⟨hb,hx.trans x1,v,p,x1.at hB,ho.ext x1,hP.ext x1⟩
 have hbw:b < w.heap.size:=by
  obtain ⟨_,_,v,p,hB,_,_⟩:=h;exact (Array.getElem?_eq_some_iff.1 hB).1
 have htl:=aV L;generalize hRES:eR L l rs=RES at *;refine_lift cC fun _ _ => ?_;go_loopw [5,6,7,8] (fun iv _ _ _ wr=>∃ (i:Nat) (l':List UInt8) (rs':List (List UInt8 × Nat)),i≤L.length∧iv=.int .i64 i∧WgAt w0 wr b l' rs'∧Own w.heap.size 1 9 wr lv (aK L)∧Kg w wr∧eR (L.drop i) l' rs'=RES∧l'.length + (enc (L.drop i)).length≤10000300∧rs'.length≤900000 + i∧(∀ p ∈ rs',p.2≤100000000)) (fun iv _ _ _ _=>L.length - (intOf iv).toNat)
 case atStart=>exact ⟨0,l,rs,Nat.zero_le _,rfl,h1,ol1,x1.kg,hRES,by rw [List.drop_zero];omega,aE,hp2⟩
 case round =>
  obtain ⟨i,l',rs',hi,rfl,hW,hol,hk,hg,hle,hrl,hp3⟩:=hrel;have hsl:=hol.sl;by_cases hlt:i < L.length
  ·have hdr:L.drop i=L[i] :: L.drop (i + 1):=List.drop_eq_getElem_cons hlt;have hjd:=QE hf hen2 i;have hel:=hsl.elem (i:=i) (e:=[aI L[i]]) (by rw [aK,List.getElem?_map,List.getElem?_eq_getElem hlt];rfl);have hxl:L[i].length≤63∧1≤L[i].length:=by
    have:=List.all_eq_true.1 hf L[i] (List.getElem_mem hlt);simp only [jD,Bool.and_eq_true,decide_eq_true_eq] at this;exact ⟨this.2,this.1⟩
   have hsd:Sl 1 wr (dG lv 1 i (aK L).length) (aK (L.drop i)):=by
    have h9:=hsl.cut (m:=i) (n:=(aK L).length) aE (Nat.le_refl _)
    rwa [List.take_length,show (aK L).drop i=aK (L.drop i) by simp [aK,List.map_drop]] at h9
   have hJ:=zW _ (L.drop i) wr hsd;rw [hjd] at hJ;dsimp only at hJ;generalize hN:enc (L.drop i)=N at *;refine_lift DI ?_;intro _ _ _ _ _ _;refine cY hJ fun w2 x2 => ?_;obtain ⟨hb,hxw,v,p,hB,hov,hP⟩:=hW;have hB2:=x2.at hB;have ho2:=hov.ext x2;have hP2:=hP.ext x2;have hpB:=aA (cs:=[v,p]) hB2;have hPl:=hP2.sl;have hpl:=DQ rs';have hol2:=hol.ext x2;clear hsd hJ hB hov hP hsl hel;refine_lift cC fun _ _ => ?_;go_loopw [8] (fun kv wr=>∃ j:Nat,j≤rs'.length∧kv=.int .i64 j∧Ext w2 wr∧∀ a,a < j→∀ x,rs'[a]? = some x→(decide (x.1=N) && decide (x.2 < 16384))=false) (fun kv _=>rs'.length - (intOf kv).toNat)
   case atStart=>exact ⟨0,Nat.zero_le _,rfl,Ext.refl _,fun a ha=>absurd ha (Nat.not_lt_zero _)⟩
   case round =>
    obtain ⟨j,hj,rfl,x23,hno⟩:=hrel;have hpB3:=hpB.ext x23;have hP3:=hP2.ext x23;have hPl3:=hP3.sl;have hB3:=x23.at hB2;have ho3:=ho2.ext x23;have hol3:=hol2.ext x23;have kg3:=hk.trans (x2.trans x23).kg;have xw3:=(hxw.trans x2).trans x23;by_cases hjl:j < rs'.length
    ·have hr:rs'[j]? = some rs'[j]:=List.getElem?_eq_getElem hjl;have hel:=hPl3.elem (i:=j) (e:=[aI rs'[j].1, .int .i64 ((rs'[j].2:Nat):Int)]) (by rw [CO,List.getElem?_map,hr];rfl);have hat:=hp3 _ (List.getElem_mem hjl);by_cases hm:rs'[j].1=N∧rs'[j].2 < 16384
     ·have hfind:rs'.find? (fun p=>decide (p.1=N) && decide (p.2 < 16384))=some rs'[j]:=by
       rw [FV hno,List.drop_eq_getElem_cons hjl,List.find?_cons,decide_eq_true hm.1,decide_eq_true hm.2];rfl
      have hg2:(l' ++ aT (49152 + rs'[j].2),rs')=RES:=by
       rw [← hg,hdr];unfold eR;rw [← hdr,hN,hfind]
      (repeat' first | ((with_reducible refine cQ ?_);go_step) | ((with_reducible refine bM ?_);first | refine gR ?_ | (refine cV ?_ ?_ <;> intro hc)) | fail)
      all_goals first
       | (have hh:False:=aE
          exact hh.elim)
       | (have hh:False:=absurd hm.1 (by assumption)
          exact hh.elim)
       | skip
      have hW3:WgAt w0 wr b l' rs':=⟨hb,xw3,v,p,hB3,ho3,hP3⟩;have hcn:=eQ hW3 (49152 + rs'[j].2) 2 aE aE aE;rw [show ((49152 + rs'[j].2:Nat):Int)=49152 + ((rs'[j].2:Nat):Int) by omega] at hcn;refine bK hcn fun w4 h4 k4 => ?_;refine_lift aX ?_
      ((try simp only [Exit.inBlock,Exit.then]);refine bodyPost_ret (results_none rfl _ _ _) rfl ?_)
      rw [← hg2];exact ⟨rfl,h4,kg3.trans k4⟩
     ·(repeat' first | ((with_reducible refine cQ ?_);go_step) | ((with_reducible refine bM ?_);first | refine gR ?_ | (refine cV ?_ ?_ <;> intro hc)) | fail)
      all_goals first
       | (have hh:False:=aE
          exact hh.elim)
       | (have hh:False:=hm ⟨by assumption,aE⟩
          exact hh.elim)
       | skip
      all_goals refine ⟨⟨j + 1,aE,by go_num,x23,?_⟩,by simp [intOf];omega⟩
      all_goals (
       intro a ha x hx;by_cases he:a=j
       ·subst he;rw [hr] at hx;cases hx
        rw [Bool.eq_false_iff];intro h9;simp only [Bool.and_eq_true,decide_eq_true_eq] at h9;exact hm h9
       ·exact hno a aE x hx)
    ·have hfind:rs'.find? (fun p=>decide (p.1=N) && decide (p.2 < 16384))=none:=by
      rw [FV hno,List.drop_eq_nil_of_le aE];rfl
     have hg2:eR (L.drop (i + 1)) (l' ++ iA L[i]) (rs' ++ [(N,l'.length)])=RES:=by
      rw [← hg,hdr]
      conv=>rhs;unfold eR
      rw [← hdr,hN,hfind]
     have hbl:(aL l').length=l'.length:=List.length_map ..;have hvl:=ho3.sl;refine_lift rI fun _ _ _ => ?_
     all_goals first
      | (have hh:False:=aE
         exact hh.elim)
      | skip
     refine bE 13 (Ext wr) aR ?_;intro v1 k1 _;refine ⟨k1,?_⟩;refine zU 0 ?_;refine cI 1 ?_;refine cI 2 ?_;refine cI 3 ?_;refine cI 4 ?_;refine cI 5 ?_;refine cI 6 ?_;refine cI 7 ?_;refine cI 8 ?_;refine cI 9 ?_;refine cI 10 ?_;refine IX (i:=11) (v:=.agg #[aI N, .int .i64 ((l'.length:Nat):Int)]) rfl rfl (fun _=>Runs.build (vals:=[(0,aI N),(1, .int .i64 ((l'.length:Nat):Int))]) (by rw [← hbl];rfl) (by kernel_rfl)) ?_;refine aD ?_;refine fR 12 ?_;refine nG (e:=162) (k:=2) (bytes:=24) (xs:=[.agg #[aI N, .int .i64 ((l'.length:Nat):Int)]]) (by simp [Value.cells]) fun u2 v2 k2 _ sl2 _ => ?_;refine aD ?_;have k02:=k1.trans k2;refine aG ⟨bJ k02,?_⟩;refine fR 13 ?_;have hP4:=hP3.ext k02;refine aZ (e:=162) (k:=2) (fs:=[[aI N, .int .i64 ((l'.length:Nat):Int)]]) rfl hP4 rfl sl2 (by simp [aI,Value.oneCell']) (xw3.trans k02).size (by rw [hpl];simp;omega) ?_;intro p5 v5 oP5 m5 _;refine aD ?_;refine aG ⟨bF rfl,?_⟩;refine zU 14 ?_;refine zU 15 ?_;refine fR 16 ?_;have hB5:=m5.at (k02.at hB3) (fun e=>(hP4.neBlock (k02.at hB3) bG) e.symm);have ho5:=(ho3.ext k02).mv m5 ((ho3.ext k02).ne hP4 bG);have hol5:=(hol3.ext k02).mv m5 ((hol3.ext k02).ne hP4 bG);have xw5:Ext w0 v5:=(xw3.trans k02).move m5 (fun k e=>(hP4.block k e).1);have kg5:=kg3.trans (k02.kg.trans (Mv.kgPl hP4 m5));refine eS 1 p5 hB5 oP5.one fun v6 p6 => ?_;refine aG ⟨bF rfl,?_⟩;refine qR ?_;have hB6:v6.heap[b]? = some (.cells [v,p5].toArray 106 (0,0)):=p6.this;have ho6:=cM ho5 p6 hB5;have hol6:=cM hol5 p6 hB5;have oP6:=cM oP5 p6 hB5;have xw6:=cH xw5 p6;have kg6:=kg5.trans (Mv.kgBox hB5 p6.mv);have hW6:WgAt w0 v6 b l' (rs' ++ [(N,l'.length)]):=⟨hb,xw6,v,p5,hB6,ho6,by simpa [CO] using oP6⟩;have hsl6:=hol6.sl;have hel6:=hsl6.elem (i:=i) (e:=[aI L[i]]) (by rw [aK,List.getElem?_map,List.getElem?_eq_getElem hlt];rfl);clear hpB hpB3 hPl hPl3 hvl ho2 hP2 hB2 hol2 ho3 hP3 hB3 hol3 ho5 hB5 hol5;have hel9:(enc (L.drop (i + 1))).length + L[i].length + 1=N.length:=by
      rw [← hN,hdr,KQ,List.length_append,zI];omega
     refine_lift cC fun _ _ => ?_;refine bK (eQ hW6 L[i].length 1 aE aE aE) fun w7 h7 k7 => ?_;have hol7:=hol6.keep k7.keep bG;have hsl7:=hol7.sl;have hel7:=hsl7.elem (i:=i) (e:=[aI L[i]]) (by rw [aK,List.getElem?_map,List.getElem?_eq_getElem hlt];rfl);clear hsl6 hel6;refine_lift aX ?_;refine bK (qL h7 L[i] (by rw [tF];simp;omega)) fun w8 h8 k8 => ?_;have hol8:=hol7.keep k8.keep bG;refine_lift aX ?_;refine ⟨⟨i + 1,l' ++ iA L[i],rs' ++ [(N,l'.length)],aE,by go_num,?_,hol8,kg6.trans (k7.trans k8),hg2,?_,?_,?_⟩,by simp [intOf];omega⟩
     ·rw [tF,List.append_assoc] at h8;exact h8
     ·rw [List.length_append,zI];omega
     ·rw [List.length_append,List.length_singleton];omega
     ·intro q hq;rw [List.mem_append,List.mem_singleton] at hq;rcases hq with hq | rfl
      ·exact hp3 q hq
      ·dsimp only;omega
  ·have hd:L.drop i=[]:=List.drop_eq_nil_of_le aE;rw [hd] at hg;refine_lift jS fun _ => ?_
   all_goals first
    | (have hh:False:=aE
       exact hh.elim)
    | skip
   refine bK (eQ hW 0 1 aE aE aE) fun w2 h2 k2 => ?_;refine_lift aX ?_
   ((try simp only [Exit.inBlock,Exit.then]);refine bodyPost_ret (results_none rfl _ _ _) rfl ?_)
   rw [← hg];exact ⟨rfl,h2,hk.trans k2⟩
theorem KW (o:List UInt8) (v:Value) (l:List RSet) (n:List UInt8) (w:World) (hv:SetsAt w v l):Calls Tryz.prog 105 #[.agg #[aI o,v],aI n] w (bC w (.bool (pX o l n))):=by
 obtain ⟨cv,hv1,hvl⟩:=hv.sl;have hle:=hv1.le;go_enter Tryz.func105,Tryz.ntmps105
 refine_lift mS fun _ _ => ?_;refine kN (vs:=[aI o,v]) fun p w1 x1 hp => ?_;refine aD ?_;refine_lift qQ fun _ _ _ _ => ?_;refine cY (oY n o _) fun w2 x2 => ?_;have hp2:=hp.ext x2;have x02:=x1.trans x2;cases hu:bO n o with
 | false =>
  refine_lift aX ?_;go_ret;rw [pX,hu];exact ⟨rfl,x02⟩
 | true =>
  have hT:pX o l n=l.any fun s=>bO s.name n:=by rw [pX,hu];rfl
  refine_lift cC fun _ _ => ?_;go_loopw [5] (fun iv wr=>∃ k:Nat,k≤l.length∧iv=.int .i64 k∧Ext w2 wr∧((l.take k).any fun s=>bO s.name n)=false) (fun iv _=>l.length - (intOf iv).toNat)
  case atStart=>exact ⟨0,Nat.zero_le _,rfl,Ext.refl _,rfl⟩
  case round =>
   obtain ⟨k,hk,rfl,hx,hno⟩:=hrel;have hpx:=hp2.ext hx;have hvx:=(hv1.ext x02).ext hx;by_cases hlt:k < l.length
   ·obtain ⟨x,hel,hsx⟩:=((hv.ext x02).ext hx).elem (List.getElem?_eq_getElem hlt);refine_lift DI ?_;intro _ _ _ _ _ _;refine cY (oY l[k].name n _) fun w3 x3 => ?_;have hx3:=hx.trans x3;cases hk2:bO l[k].name n with
    | true =>
     refine_lift aX ?_;go_ret;rw [hT,GL hlt hk2];exact ⟨rfl,x02.trans hx3⟩
    | false =>
     refine_lift aX ?_;exact ⟨⟨k + 1,aE,by go_num,hx3,kF hlt hno hk2⟩,by simp [intOf];omega⟩
   ·have:k=l.length:=aE;subst this;rw [List.take_length] at hno;refine_lift jS fun _ => ?_;go_ret;rw [hT,hno];exact ⟨rfl,x02.trans hx⟩
theorem YY (o:List UInt8) (v:Value) (l:List RSet) (n:List UInt8) (w:World) (hv:SetsAt w v l) (hb:∀ s ∈ l,s.data.length≤1000000) (hd:∀ s ∈ l,∀ d ∈ s.data,d.length≤4611686018427387904) (hz:cB o l=0):Calls Tryz.prog 101 #[.agg #[aI o,v],aI n] w (bC w (.tuple #[aI (mL o l n).1, .bool (mL o l n).2])):=by
 go_enter Tryz.func101,Tryz.ntmps101
 refine_lift mS fun _ _ => ?_;refine kN (vs:=[aI o,v]) fun p w1 x1 hp => ?_;refine aD ?_;refine_lift qQ fun _ _ _ _ => ?_;refine cY (BO o v l _ (hv.ext x1) hb hd) fun w2 x2 => ?_;rw [hz];have hp2:=hp.ext x2;refine_lift cC fun _ _ => ?_;refine cY (GQ o v l n _ (hv.ext (x1.trans x2))) fun w3 x3 => ?_;refine_lift aX ?_;go_ret2;exact ⟨rfl,(x1.trans x2).trans x3⟩
theorem QF {nm:List UInt8} {t:List (List UInt8)} (w:World) (h:aP nm=some (x :: t)):Calls Tryz.prog 161 #[aI nm] w (bC w (.tuple #[aI (enc t), .int .i64 0])):=by
 have hf:=dO h;have hj:kO t=some (enc t):=by
  unfold kO;rw [if_pos];refine ⟨?_,?_⟩
  ·have:=hf.1;simp only [List.all_cons,Bool.and_eq_true] at this;exact this.2
  ·have h1:=hf.2.1;have h2:=hf.2.2;rw [← h1] at h2;simp [enc] at h2 ⊢;omega
 go_enter Tryz.func161,Tryz.ntmps161
 refine_lift cC fun _ _ => ?_;refine gE (oL nm _) fun v w1 x1 hv => ?_;rw [h] at hv;obtain ⟨s,rfl,hs⟩:=hv;have hsl:=hs.sl;have hsl1:(aK (x :: t)).length=t.length + 1:=by simp [aK]
 refine aD ?_;refine_lift rI fun _ _ _ => ?_
 all_goals first
  | (have hh:False:=aE
     exact hh.elim)
  | skip
 have hsc:Sl 1 w1 (dG s 1 1 (aK (x :: t)).length) (aK t):=by
  have:=hsl.cut (m:=1) (n:=(aK (x :: t)).length) aE (Nat.le_refl _);rw [List.take_length] at this;exact this
 refine cY (zW _ t _ hsc) fun w2 x2 => ?_;rw [hj];refine_lift aX ?_;go_ret2;exact ⟨rfl,x1.trans x2⟩
theorem mQ (k:Int) (d:List UInt8) (w:World) (hl:d.length≤4611686018427387904):Calls Tryz.prog 107 #[.int .i64 k,aI d] w (bC w (.tuple #[aI (aQ k d).1, .int .i64 (aQ k d).2])):=by
 go_enter Tryz.func107,Tryz.ntmps107
 refine_lift cC fun _ _ => ?_;refine cY (JE k _) fun w1 x1 => ?_
 (repeat' first | ((with_reducible refine cQ ?_);go_step) | ((with_reducible refine bM ?_);first | refine gR ?_ | (refine cV ?_ ?_ <;> intro hc)) | fail)
 ·have hc:=‹eL k < 0›;go_ret2;refine ⟨?_,x1⟩;rw [aQ,if_pos hc];rfl
 ·have hc:¬ eL k < 0:=by have:=‹0≤eL k›;omega
  have hc2:¬ (d.length:Int) < eL k:=by assumption
  refine cY (xR (d.drop (eL k).toNat) _ (by simp;omega)) fun w2 x2 => ?_;cases hh:fX (d.drop (eL k).toNat) with
  | none =>
   simp only [Option.isSome_none];refine_lift aX ?_;go_ret2;refine ⟨?_,x1.trans x2⟩;rw [aQ,if_neg hc,if_neg hc2,hh];rfl
  | some n =>
   have hhs:=uK hh;have hdl:=congrArg List.length hhs.1;simp only [List.length_drop,List.length_append,List.length_cons,List.length_nil] at hdl;simp only [Option.isSome_some];refine_lift aX ?_;go_ret2;refine ⟨?_,x1.trans x2⟩;rw [aQ,if_neg hc,if_neg hc2,hh];have e:List.drop (eL k).toNat (List.take ((d.length:Int) - 1).toNat d)=n:=by
    rw [List.drop_take,hhs.1];rw [show ((d.length:Int) - 1).toNat - (eL k).toNat=n.length by omega];simp
   show Ending.returned (Value.tuple #[aI (List.drop (eL k).toNat (List.take ((d.length:Int) - 1).toNat d)),_])=_;rw [e];rfl
 ·have hc:¬ eL k < 0:=by have:=‹0≤eL k›;omega
  have hc2:=‹(d.length:Int) < eL k›;go_ret2;refine ⟨?_,x1⟩;rw [aQ,if_neg hc,if_pos hc2];rfl
def MX (ps:List (List UInt8 × Nat)) (n:List UInt8):Option Nat:=match ps.find? (fun p=>decide (p.1=n)) with
 | some p=>if p.2 < 16384 then some p.2 else none
 | none=>none
def sM (rs:List (List UInt8 × Nat)) (n:List UInt8):Option Nat:=(rs.find? (fun p=>decide (p.1=n) && decide (p.2 < 16384))).map (·.2)
structure SimP (l:List UInt8) (ps rs:List (List UInt8 × Nat)):Prop where
 eq:∀ n,MX ps n=sM rs n
 le:∀ p ∈ ps,p.2≤l.length
theorem SimP.more (h:SimP l ps rs) (ht:l.length≤t.length):SimP t ps rs:=⟨h.eq,fun p hp=>Nat.le_trans (h.le p hp) ht⟩
theorem uU (h:sM rs n=none):rs.find? (fun p=>decide (p.1=n) && decide (p.2 < 16384))=none:=by
 unfold sM at h
 simpa using h
theorem FW (h:sM rs n=none):sM (rs ++ [(n,k)]) m=if m=n then (if k < 16384 then some k else none) else sM rs m:=by
 unfold sM;rw [List.find?_append];by_cases hm:m=n
 ·subst hm;rw [uU h,if_pos rfl];by_cases hk:k < 16384 <;> simp [hk]
 ·rw [if_neg hm];have:¬ n=m:=fun e=>hm e.symm;simp [this]
theorem UD (h:ps.find? (fun p=>decide (p.1=n))=none):MX (ps ++ [(n,k)]) m=if m=n then (if k < 16384 then some k else none) else MX ps m:=by
 unfold MX;rw [List.find?_append];by_cases hm:m=n
 ·subst hm;rw [h,if_pos rfl];simp
 ·rw [if_neg hm];have:¬ n=m:=fun e=>hm e.symm;simp [this]
theorem nS:∀ (ls:List (List UInt8)) (l:List UInt8) (ps rs:List (List UInt8 × Nat)),SimP l ps rs→(eR ls l rs).1=(dA ls l ps).1∧SimP (dA ls l ps).1 (dA ls l ps).2 (eR ls l rs).2
 | [],l,ps,rs,h=>⟨rfl,h.more (by simp [dA])⟩
 | x :: ls,l,ps,rs,h=>by
   have hN:=h.eq (enc (x :: ls));unfold eR dA;cases hf:ps.find? (fun p=>decide (p.1=enc (x :: ls))) with
   | some p =>
    have hpm:=List.mem_of_find?_eq_some hf;have hpn:p.1=enc (x :: ls):=by simpa using List.find?_some hf
    dsimp only;by_cases hlt:p.2 < 16384
    ·have h1:sM rs (enc (x :: ls))=some p.2:=by
      rw [← hN];unfold MX;rw [hf];dsimp only;rw [if_pos hlt]
     unfold sM at h1;obtain ⟨q,hq,hq2⟩:=Option.map_eq_some_iff.1 h1;rw [hq,if_pos hlt];dsimp only;rw [hq2,WI hlt];exact ⟨rfl,h.more bP⟩
    ·have h1:sM rs (enc (x :: ls))=none:=by
      rw [← hN];unfold MX;rw [hf];dsimp only;rw [if_neg hlt]
     rw [uU h1,if_neg hlt];dsimp only;refine nS ls (l ++ iA x) ps _ ⟨fun m => ?_,fun q hq=>Nat.le_trans (h.le q hq) bP⟩;rw [FW h1];by_cases hm:m=enc (x :: ls)
     ·subst hm;have:=h.le p hpm;rw [if_pos rfl,if_neg aE,hN,h1]
     ·rw [if_neg hm,h.eq]
   | none =>
    have h1:sM rs (enc (x :: ls))=none:=by
     rw [← hN];unfold MX;rw [hf]
    rw [uU h1];dsimp only;refine nS ls (l ++ iA x) _ _ ⟨fun m => ?_,fun q hq => ?_⟩
    ·rw [FW h1,UD hf,h.eq]
    ·rw [List.mem_append,List.mem_singleton] at hq;rcases hq with hq | rfl
     ·exact Nat.le_trans (h.le q hq) bP
     ·simp
def kP (r:Rec) (l:List UInt8) (rs:List (List UInt8 × Nat)):List UInt8 × List (List UInt8 × Nat) :=
 if r.kind=6 then ((eR (dU (fL r.data).mail) (eR (dU (fL r.data).main) l rs).1 (eR (dU (fL r.data).main) l rs).2).1 ++ r.data.drop (r.data.length - 20),(eR (dU (fL r.data).mail) (eR (dU (fL r.data).main) l rs).1 (eR (dU (fL r.data).main) l rs).2).2)
 else if (aQ r.kind r.data).2=0∧r.kind≠33 then eR (dU (aQ r.kind r.data).1) (l ++ r.data.take (r.data.length - (aQ r.kind r.data).1.length - 1)) rs
 else (l ++ r.data,rs)
theorem UE (r:Rec) (l:List UInt8) (ps rs:List (List UInt8 × Nat)) (h:SimP l ps rs):(kP r l rs).1=(dH r l ps).1∧SimP (dH r l ps).1 (dH r l ps).2 (kP r l rs).2:=by
 unfold kP dH;split
 ·obtain ⟨h1,h2⟩:=nS (dU (fL r.data).main) l ps rs h;rw [h1];obtain ⟨h3,h4⟩:=nS (dU (fL r.data).mail) _ _ _ h2;dsimp only;rw [h3];exact ⟨rfl,h4.more bP⟩
 ·split
  ·exact nS _ _ _ _ (h.more bP)
  ·exact ⟨rfl,h.more bP⟩
def CP (r:Rec) (l:List UInt8) (rs:List (List UInt8 × Nat)):CZ :=
 (l ++ aT ((kP r (l ++ aT 0) rs).1.length - l.length - 2) ++ (kP r (l ++ aT 0) rs).1.drop (l.length + 2),(kP r (l ++ aT 0) rs).2)
def lQ (x:CZ) (r:Rec):CZ:=CP r ((eR (dU r.name) x.1 x.2).1 ++ aT r.kind.toNat ++ aT 1 ++ jC r.ttl.toNat) (eR (dU r.name) x.1 x.2).2
def qX (x:CZ) (q:rC):CZ:=((eR (dU q.1) x.1 x.2).1 ++ aT q.2.toNat ++ aT 1,(eR (dU q.1) x.1 x.2).2)
def DR (x y:CZ):Prop:=y.1=x.1∧SimP x.1 x.2 y.2
theorem As {x y:CZ} (h:DR x y) (q:rC):DR (qW x q) (qX y q):=by
 obtain ⟨h1,h2⟩:=h;obtain ⟨h3,h4⟩:=nS (dU q.1) x.1 x.2 y.2 h2;unfold qW qX;rw [h1];exact ⟨by dsimp only;rw [h3],h4.more bP⟩
theorem WO {x y:CZ} (h:DR x y) (r:Rec):DR (lM x r) (lQ y r):=by
 obtain ⟨h1,h2⟩:=h;obtain ⟨h3,h4⟩:=nS (dU r.name) x.1 x.2 y.2 h2;unfold lM lQ;rw [h1,h3];have h5:=h4.more (t:=(dA (dU r.name) x.1 x.2).1 ++ aT r.kind.toNat ++ aT 1 ++ jC r.ttl.toNat ++ aT 0) bP;generalize (dA (dU r.name) x.1 x.2).1 ++ aT r.kind.toNat ++ aT 1 ++ jC r.ttl.toNat=l at *;obtain ⟨h6,h7⟩:=UE r (l ++ aT 0) _ _ h5;unfold qI CP DR;dsimp only;rw [h6];refine ⟨rfl,h7.more ?_⟩;obtain ⟨t,h8,_⟩:=HQ r (l ++ aT 0) (l ++ aT 0) (dA (dU r.name) x.1 x.2).2 rfl;rw [h8];simp [aT]
theorem UF:∀ (qs:List rC) {x y:CZ},DR x y→DR (qs.foldl qW x) (qs.foldl qX y)
 | [],_,_,h=>h
 | q :: qs,_,_,h=>UF qs (As h q)
theorem wT:∀ (l:List Rec) {x y:CZ},DR x y→DR (l.foldl lM x) (l.foldl lQ y)
 | [],_,_,h=>h
 | r :: l,_,_,h=>wT l (WO h r)
def CQ (m:MsgR):CZ:=m.ex.foldl lQ (m.au.foldl lQ (m.an.foldl lQ (m.qs.foldl qX (gK m,[]))))
theorem UG (m:MsgR):(CQ m).1=(wO m).1:=by
 have h0:DR (gK m,[]) (gK m,[]):=⟨rfl,fun _=>rfl,fun _ hp=>by cases hp⟩;exact (wT m.ex (wT m.au (wT m.an (UF m.qs h0)))).1
def flagA (m:MsgR):Nat:=flagN m.resp 128 + 8 * m.op.toNat + flagN m.auth 4 + flagN m.trunc 2 + flagN m.want 1
def flagB (m:MsgR):Nat:=flagN m.avail 128 + m.rcode.toNat
def KX (a b:Nat) (r u t w v:Bool):Bool :=
 let f:=(((((flagN r 32768 ||| a * 2048) ||| flagN u 1024) ||| flagN t 512) ||| flagN w 256) ||| flagN v 128) ||| b
 decide (f / 256=flagN r 128 + 8 * a + flagN u 4 + flagN t 2 + flagN w 1) && decide (f % 256=flagN v 128 + b)
theorem QH:∀ (a b:Fin 16) (r u t w v:Bool),KX a.1 b.1 r u t w v=true:=aR
theorem KY {m:MsgR} (h:MsgOk m):aT (iK m)=[UInt8.ofNat (flagA m),UInt8.ofNat (flagB m)]∧flagA m < 256∧flagB m < 256:=by
 have h1:=h.op;have h2:=h.rc;have:=QH ⟨m.op.toNat,aE⟩ ⟨m.rcode.toNat,aE⟩ m.resp m.auth m.trunc m.want m.avail;simp only [KX,Bool.and_eq_true,decide_eq_true_eq] at this;obtain ⟨a1,a2⟩:=this;have a1':iK m / 256=flagA m:=a1;have a2':iK m % 256=flagB m:=a2;have h3:=(MU h).1;refine ⟨?_,aE,aE⟩;unfold aT;rw [a1',← a2']
 congr 2
 apply UInt8.toNat_inj.1;simp
theorem nT:∀ (ls:List (List UInt8)) (l:List UInt8) (rs:List (List UInt8 × Nat)),(∀ p ∈ rs,p.2≤l.length)→(∃ t,(eR ls l rs).1=l ++ t∧t.length≤(enc ls).length + 2)∧(eR ls l rs).2.length≤rs.length + ls.length∧∀ p ∈ (eR ls l rs).2,p.2≤(eR ls l rs).1.length
 | [],l,rs,h=>⟨⟨[0],rfl,bP⟩,by simp [eR],fun p hp=>Nat.le_trans (h p hp) (by simp [eR])⟩
 | x :: ls,l,rs,h=>by
   unfold eR;split
   ·exact ⟨⟨_,rfl,by simp [aT]⟩,bP,fun p hp=>Nat.le_trans (h p hp) bP⟩
   ·obtain ⟨⟨t,h1,h2⟩,h3,h4⟩:=nT ls (l ++ iA x) (rs ++ [(enc (x :: ls),l.length)]) (fun p hp=>by
     rw [List.mem_append,List.mem_singleton] at hp;rcases hp with hp | rfl
     ·exact Nat.le_trans (h p hp) bP
     ·simp)
    refine ⟨⟨iA x ++ t,by rw [h1,List.append_assoc],?_⟩,?_,h4⟩
    ·rw [KQ,List.length_append,List.length_append];omega
    ·simp only [List.length_append,List.length_cons,List.length_nil] at h3 ⊢;omega
structure XB (l:List UInt8) (rs:List (List UInt8 × Nat)) (a c:Nat):Prop where
 la:l.length≤a
 lc:rs.length≤c
 at_:∀ p ∈ rs,p.2≤l.length
theorem XB.name (h:XB l rs a c) (hn:(aP n).isSome=true):XB (eR (dU n) l rs).1 (eR (dU n) l rs).2 (a + 256) (c + 127):=by
 obtain ⟨f1,f2,f3⟩:=fS hn;obtain ⟨⟨t,h1,h2⟩,h3,h4⟩:=nT (dU n) l rs h.at_;have:=LU f1;rw [f2] at h2 this;have h5:=h.la;have h6:=h.lc;exact ⟨by rw [h1,List.length_append];omega,aE,h4⟩
theorem XB.text (h:XB l rs a c) (s:List UInt8) (k:Nat) (hk:s.length≤k):XB (l ++ s) rs (a + k) c:=by
 have h5:=h.la;exact ⟨by rw [List.length_append];omega,h.lc,fun p hp=>by have:=h.at_ p hp;rw [List.length_append];omega⟩
theorem XB.data (h:XB l rs a c) {r:Rec} (hr:RecOk r):XB (kP r l rs).1 (kP r l rs).2 (a + 5000) (c + 254)∧∃ y,(kP r l rs).1=l ++ y∧y.length≤5000:=by
 have hd:=hr.d;unfold kP;split
 ·rename_i k6;obtain ⟨s1,s2,s3⟩:=hr.soa k6;have b1:=h.name s1;have b2:=b1.name s2;have b3:=b2.text (r.data.drop (r.data.length - 20)) 20 (by rw [List.length_drop];omega);refine ⟨⟨by have:=b3.la;dsimp only;omega,by have:=b3.lc;dsimp only;omega,b3.at_⟩,?_⟩;obtain ⟨⟨t1,e1,g1⟩,_,q1⟩:=nT (dU (fL r.data).main) l rs h.at_;obtain ⟨⟨t2,e2,g2⟩,_,_⟩:=nT (dU (fL r.data).mail) _ _ q1;obtain ⟨_,f2,f3⟩:=fS s1;obtain ⟨_,f4,f5⟩:=fS s2;rw [f2] at g1;rw [f4] at g2;refine ⟨t1 ++ t2 ++ r.data.drop (r.data.length - 20),by dsimp only;rw [e2,e1];simp,?_⟩;rw [List.length_append,List.length_append,List.length_drop];omega
 ·split
  ·rename_i c0;obtain ⟨k1,k2⟩:=tA c0.1;have b1:=h.text (r.data.take (r.data.length - (aQ r.kind r.data).1.length - 1)) 4000 (by rw [List.length_take];omega);have b2:=b1.name k1;refine ⟨⟨by have:=b2.la;omega,by have:=b2.lc;omega,b2.at_⟩,?_⟩;obtain ⟨⟨t1,e1,g1⟩,_,q1⟩:=nT (dU (aQ r.kind r.data).1) _ _ b1.at_;obtain ⟨_,f2,f3⟩:=fS k1;rw [f2] at g1;refine ⟨r.data.take (r.data.length - (aQ r.kind r.data).1.length - 1) ++ t1,by rw [e1];simp,?_⟩;rw [List.length_append,List.length_take];omega
  ·have b1:=h.text r.data 4000 hd;exact ⟨⟨by have:=b1.la;dsimp only;omega,by have:=b1.lc;dsimp only;omega,b1.at_⟩,r.data,rfl,aE⟩
theorem sN (h:WgAt w0 w b l rs) (hx:XB l rs a c) (ha:a≤10000000) (hc:c≤900000) (n:List UInt8) (hn:(aP n).isSome=true):Calls Tryz.prog 53 #[.pointer (some ⟨b,0,none⟩),aI n] w (FU w0 w b (eR (dU n) l rs).1 (eR (dU n) l rs).2):=by
 have h1:=hx.la;have h2:=hx.lc;exact WN h n hn aE aE (fun p hp=>by have:=hx.at_ p hp;omega) aE
theorem WgAt.more (h:WgAt w0 w b l rs) (x:Ext w w'):WgAt w0 w' b l rs:=by
 obtain ⟨hb,hx,v,p,hB,ho,hP⟩:=h;exact ⟨hb,hx.trans x,v,p,x.at hB,ho.ext x,hP.ext x⟩
theorem WP (h:WgAt w0 w b l rs) (hxb:XB l rs a c) (ha:a≤9000000) (hc:c≤800000) (r:Rec) (hr:RecOk r):Calls Tryz.prog 96 #[.pointer (some ⟨b,0,none⟩),oM r] w (FU w0 w b (kP r l rs).1 (kP r l rs).2):=by
 have hd:=hr.d;have hS:=hr.soa;have hh:=tA (k:=r.kind) (d:=r.data);have hla:=hxb.la;go_enter Tryz.func96,Tryz.ntmps96
 refine_lift mS fun _ _ => ?_;refine zV (vs:=[aI r.name, .int .i64 r.kind, .int .i64 r.ttl,aI r.data]) fun w1 x1 s1 hb1 => ?_;refine aD ?_;have hW1:=h.more x1;have hpc:=aA (cs:=[aI r.name, .int .i64 r.kind, .int .i64 r.ttl,aI r.data]) hb1;refine_lift cC fun _ _ => ?_;refine cY (mQ r.kind r.data _ aE) fun w3 x3 => ?_;have hpc3:=hpc.ext x3;have hc3:=x3.at hb1;have h3:=hW1.more x3;clear hpc;have k03:=(x1.trans x3).kg;have hDe:kP r l rs=kP r l rs:=rfl
 conv at hDe=>rhs;unfold kP
 obtain ⟨ht,hte⟩:∃ y,y=aQ r.kind r.data:=⟨_,rfl⟩;rw [← hte] at hh hDe;rw [← hte];by_cases c6:r.kind=6
 ·obtain ⟨s1',s2',s3'⟩:=hS c6;rw [if_pos c6] at hDe;refine_lift rI fun _ _ _ => ?_
  all_goals first
   | (have hh9:False:=absurd c6 (by assumption)
      exact hh9.elim)
   | skip
  refine cY (HD r.data _ aE) fun w4 x4 => ?_;refine_lift aX ?_;refine fO (z:=bD) fun w5 x5 s5 h5 => ?_;refine aD ?_;refine dS (v:=.agg (fL r.data).cells.toArray) h5 (oZ _) fun w6 p6 => ?_;have x46:=cH x5 p6;have x36:=x4.trans x46;have hb6:w6.heap[w4.heap.size]? = some (.cells (fL r.data).cells.toArray 155 (0,0)):=p6.this;have hs6:=aA (cs:=(fL r.data).cells) hb6;have h6:=h3.more x36;have hc6:=x36.at hc3;clear p6 h5;generalize w4.heap.size=d at *;refine_lift cC fun _ _ => ?_;refine bK (sN h6 hxb aE aE _ s1') fun w7 h7 g7 => ?_;have b7:=hxb.name s1';have hb7:=g7 _ _ _ _ bG bG bG hb6;have hs7:=aA (cs:=(fL r.data).cells) hb7;have hc7:=g7 _ _ _ _ bG bG bG hc6;clear hs6;refine_lift cC fun _ _ => ?_;refine bK (sN h7 b7 aE aE _ s2') fun w8 h8 g8 => ?_;have b8:=b7.name s2';have hb8l:=b8.la;have hc8:=g8 _ _ _ _ bG bG bG hc7;have hpc8:=aA (cs:=[aI r.name, .int .i64 r.kind, .int .i64 r.ttl,aI r.data]) hc8;clear hpc3 hs7;refine_lift aX ?_;refine cP (vs:=[.pointer (some ⟨b,0,none⟩),aI (r.data.drop (r.data.length - 20))]) (enters_of Tryz.func55 rfl rfl) rfl (congrArg (fun z=>[Value.pointer (some ⟨b,0,none⟩),aI (r.data.drop z)]) aE) (qL h8 (r.data.drop (r.data.length - 20)) (by rw [List.length_drop];omega)) ?_;rintro _ w9 ⟨rfl,h9,g9⟩;refine ⟨_,rfl,?_⟩;refine aD ?_;refine_lift aX ?_
  ((try simp only [Exit.inBlock,Exit.then]);refine bodyPost_ret (results_none rfl _ _ _) rfl ?_)
  rw [hDe];exact ⟨rfl,h9,((k03.trans x36.kg).trans g7).trans (g8.trans g9)⟩
 ·rw [if_neg c6] at hDe;by_cases c0:ht.2=0∧r.kind≠33
  ·obtain ⟨k1,k2⟩:=hh c0.1;rw [if_pos c0] at hDe
   (repeat' first | ((with_reducible refine cQ ?_);go_step) | ((with_reducible refine bM ?_);first | refine gR ?_ | (refine cV ?_ ?_ <;> intro hc)) | fail)
   all_goals first
    | (have hh9:False:=absurd (by assumption) c6
       exact hh9.elim)
    | (have hh9:False:=by have h9:=‹(!decide (r.kind=33))=false›;rw [decide_eq_false c0.2] at h9;cases h9
       exact hh9.elim)
    | (have hh9:False:=absurd c0.1 (by assumption)
       exact hh9.elim)
    | skip
   refine cP (vs:=[.pointer (some ⟨b,0,none⟩),aI (r.data.take (r.data.length - ht.1.length - 1))]) (enters_of Tryz.func55 rfl rfl) rfl (congrArg (fun z=>[Value.pointer (some ⟨b,0,none⟩),aI (r.data.take z)]) aE) (qL h3 (r.data.take (r.data.length - ht.1.length - 1)) (by rw [List.length_take];omega)) ?_;rintro _ w8 ⟨rfl,h8,g8⟩;refine ⟨_,rfl,?_⟩;refine aD ?_;have b8:=hxb.text (r.data.take (r.data.length - ht.1.length - 1)) 4000 (by rw [List.length_take];omega);refine_lift aX ?_;refine bK (sN h8 b8 aE aE _ k1) fun w9 h9 g9 => ?_;refine_lift aX ?_
   ((try simp only [Exit.inBlock,Exit.then]);refine bodyPost_ret (results_none rfl _ _ _) rfl ?_)
   rw [hDe];exact ⟨rfl,h9,k03.trans (g8.trans g9)⟩
  ·rw [if_neg c0] at hDe
   (repeat' first | ((with_reducible refine cQ ?_);go_step) | ((with_reducible refine bM ?_);first | refine gR ?_ | (refine cV ?_ ?_ <;> intro hc)) | fail)
   all_goals first
    | (have hh9:False:=absurd (by assumption) c6
       exact hh9.elim)
    | (have hh9:False:=c0 ⟨by assumption,by simpa using ‹(!decide (r.kind=33))=true›⟩
       exact hh9.elim)
    | skip
   all_goals (
    refine bK (qL h3 r.data aE) fun w9 h9 g9 => ?_;refine_lift aX ?_
    ((try simp only [Exit.inBlock,Exit.then]);refine bodyPost_ret (results_none rfl _ _ _) rfl ?_)
    rw [hDe];exact ⟨rfl,h9,k03.trans g9⟩)
theorem YZ (l y:List UInt8) (n:Nat):((aL (l ++ aT 0 ++ y)).set l.length [.int .u8 (IntKind.u8.wrap ((n / 256:Nat):Int))]).set (l.length + 1) [.int .u8 (IntKind.u8.wrap ((n % 256:Nat):Int))]=aL (l ++ aT n ++ y):=by
 rw [jY,jY,WF,WF]
 congr 1
 have:UInt8.ofNat (n % 256)=UInt8.ofNat n:=UInt8.toNat_inj.1 bP;rw [this];simp [aT,List.set_append]
theorem XB.recd (h:XB l rs a c) {r:Rec} (hr:RecOk r):XB (lQ (l,rs) r).1 (lQ (l,rs) r).2 (a + 6000) (c + 400):=by
 have b1:=h.name hr.nm;have b2:=b1.text (aT r.kind.toNat) 2 (Nat.le_refl _);have b3:=b2.text (aT 1) 2 (Nat.le_refl _);have b4:=b3.text (jC r.ttl.toNat) 4 (Nat.le_refl _);have b5:=b4.text (aT 0) 2 (Nat.le_refl _);obtain ⟨b6,y,hy,hyl⟩:=b5.data hr;have hL:(lQ (l,rs) r).1.length=(kP r ((eR (dU r.name) l rs).1 ++ aT r.kind.toNat ++ aT 1 ++ jC r.ttl.toNat ++ aT 0) (eR (dU r.name) l rs).2).1.length:=by
  unfold lQ CP;dsimp only;rw [hy];simp [aT];omega
 have hR:(lQ (l,rs) r).2=(kP r ((eR (dU r.name) l rs).1 ++ aT r.kind.toNat ++ aT 1 ++ jC r.ttl.toNat ++ aT 0) (eR (dU r.name) l rs).2).2:=rfl;have h7:=b6.la;have h8:=b6.lc;exact ⟨by rw [hL];omega,by rw [hR];omega,fun p hp=>by rw [hL];rw [hR] at hp;exact b6.at_ p hp⟩
theorem uV (h:WgAt w0 w b l rs) (hxb:XB l rs a c) (ha:a≤4000000) (hc:c≤400000) (rl:List Rec) (v:Value) (hsl:Sl 4 w0 v (aJ rl)) (hn:rl.length≤200) (hr:∀ r ∈ rl,aU r=0):Calls Tryz.prog 54 #[.pointer (some ⟨b,0,none⟩),v] w (FU w0 w b (rl.foldl lQ (l,rs)).1 (rl.foldl lQ (l,rs)).2):=by
 have hrl:=aN rl;have hsl0:=hsl.ext h.ext;go_enter Tryz.func54,Tryz.ntmps54
 refine_lift aX ?_;go_loopw [4] (fun iv wr=>∃ (k:Nat) (l':List UInt8) (rs':List (List UInt8 × Nat)),k≤rl.length∧iv=.int .i64 (k:Nat)∧WgAt w0 wr b l' rs'∧XB l' rs' (a + 6000 * k) (c + 400 * k)∧(rl.drop k).foldl lQ (l',rs')=rl.foldl lQ (l,rs)∧Kg w wr) (fun iv _=>rl.length - (intOf iv).toNat)
 case atStart=>exact ⟨0,l,rs,Nat.zero_le _,rfl,h,hxb,rfl,Kg.refl w⟩
 case round =>
  obtain ⟨k,l',rs',hk,rfl,hW,hX,hE,hK⟩:=hrel;have hslr:=hsl.ext hW.ext;by_cases ck:k < rl.length
  ·have hRk:=tB (hr _ (List.getElem_mem ck));have hnext:=hX.recd hRk;have hT:(rl.drop (k + 1)).foldl lQ (lQ (l',rs') rl[k])=rl.foldl lQ (l,rs):=by
    rw [← hE,List.drop_eq_getElem_cons ck];rfl
   clear hE;have b1:=hX.name hRk.nm;have b2:=b1.text (aT rl[k].kind.toNat) 2 (Nat.le_refl _);have b3:=b2.text (aT 1) 2 (Nat.le_refl _);have b4:=b3.text (jC rl[k].ttl.toNat) 4 (Nat.le_refl _);have b5:=b4.text (aT 0) 2 (Nat.le_refl _);obtain ⟨b6,y,hy,hyl⟩:=b5.data hRk;have hXe:lQ (l',rs') rl[k]=CP rl[k] ((eR (dU rl[k].name) l' rs').1 ++ aT rl[k].kind.toNat ++ aT 1 ++ jC rl[k].ttl.toNat) (eR (dU rl[k].name) l' rs').2:=rfl;unfold CP at hXe;have hk0:=hRk.k0;have hk1:=hRk.k1;have ht0:=hRk.t0;have ht1:=hRk.t1;have l1:=b1.la;have l2:=b2.la;have l3:=b3.la;have l4:=b4.la;have hel:=hslr.elem (iH ck);refine_lift DI ?_;intro _ _ _ _ _ _;refine bK (sN hW hX aE aE _ hRk.nm) fun w1 h1 g1 => ?_;have hsl1:=hsl.ext h1.ext;have hel1:=hsl1.elem (iH ck);clear hel hslr;refine_lift cC fun _ _ => ?_;refine cP (vs:=[.pointer (some ⟨b,0,none⟩), .int .i64 ((rl[k].kind.toNat:Nat):Int), .int .i64 ((2:Nat):Int)]) (enters_of Tryz.func51 rfl rfl) rfl (congrArg (fun z=>[Value.pointer (some ⟨b,0,none⟩),Value.int .i64 z, .int .i64 ((2:Nat):Int)]) (Int.toNat_of_nonneg aE).symm) (eQ h1 rl[k].kind.toNat 2 bG aE aE) ?_;rintro _ w2 ⟨rfl,h2,g2⟩;refine ⟨_,rfl,?_⟩;refine aD ?_;rw [hY] at h2;refine_lift cC fun _ _ => ?_;refine bK (eQ h2 1 2 bG aE aE) fun w3 h3 g3 => ?_;rw [hY] at h3;have hsl3:=hsl.ext h3.ext;have hel3:=hsl3.elem (iH ck);clear hel1 hsl1;refine_lift cC fun _ _ => ?_;refine cP (vs:=[.pointer (some ⟨b,0,none⟩), .int .i64 ((rl[k].ttl.toNat:Nat):Int), .int .i64 ((4:Nat):Int)]) (enters_of Tryz.func51 rfl rfl) rfl (congrArg (fun z=>[Value.pointer (some ⟨b,0,none⟩),Value.int .i64 z, .int .i64 ((4:Nat):Int)]) (Int.toNat_of_nonneg aE).symm) (eQ h3 rl[k].ttl.toNat 4 bG aE aE) ?_;rintro _ w4 ⟨rfl,h4,g4⟩;refine ⟨_,rfl,?_⟩;refine aD ?_;rw [QD] at h4;generalize (eR (dU rl[k].name) l' rs').1 ++ aT rl[k].kind.toNat ++ aT 1 ++ jC rl[k].ttl.toNat=L at *;generalize (eR (dU rl[k].name) l' rs').2=R at *;have h4':=h4;obtain ⟨e1,e2,vz,pz,e3,e4,e5⟩:=h4';have hp4:=aA (cs:=[vz,pz]) e3;have hs4:=e4.sl;refine_lift cC fun _ _ => ?_;refine bK (eQ h4 0 2 bG aE aE) fun w5 h5 g5 => ?_;rw [hY] at h5;have hsl5:=hsl.ext h5.ext;have hel5:=hsl5.elem (iH ck);clear hel3 hsl3 hp4 hs4 e2 e3 e4 e5;refine_lift cC fun _ _ => ?_;refine bK (WP h5 b5 aE aE rl[k] hRk) fun w6 h6 g6 => ?_;clear hel5 hsl5;generalize kP rl[k] (L ++ aT 0) R=Z at *;obtain ⟨e1,e2,vz,pz,e3,e4,e5⟩:=h6;have hp6:=aA (cs:=[vz,pz]) e3;have hs6:=e4.sl;have hbz:(aL Z.1).length=Z.1.length:=by simp [aL]
   have hbl:(aL L).length=L.length:=by simp [aL]
   have hlz:Z.1.length=L.length + 2 + y.length:=by rw [hy];simp [aT];omega
   refine_lift cC fun _ _ => ?_;rw [hbz,hbl];have hnn:(Z.1.length:Int) - L.length - 2=((Z.1.length - L.length - 2:Nat):Int):=aE;rw [hnn];generalize hq:Z.1.length - L.length - 2=q at *;refine_lift aX ?_;refine bZ rfl (Runs.quoN (n:=256) rfl rfl aE aE) ?_;refine aD ?_;refine_lift aX ?_;refine eY (c:=.int .u8 (IntKind.u8.wrap ((q / 256:Nat):Int))) (i:=L.length) rfl rfl rfl e4 aE aR rfl ?_;intro w7 o7 m7;have hB7:=m7.at e3 (fun e=>(e4.neBlock e3 bG) e.symm);have hP7:=e5.mv m7 (e5.ne e4 bG);have x7:Ext w0 w7:=e2.move m7 (fun k e=>(e4.block k e).1);have k7:=Mv.kgRow e4 m7;have hl7:((aL Z.1).set L.length [.int .u8 (IntKind.u8.wrap ((q / 256:Nat):Int))]).length=Z.1.length:=by rw [List.length_set];exact hbz
   have hs7:=o7.sl;generalize hes:(aL Z.1).set L.length [.int .u8 (IntKind.u8.wrap ((q / 256:Nat):Int))]=es at *;clear hp6 hs6;have hp7:=aA (cs:=[vz,pz]) hB7;refine_lift aX ?_;refine bZ rfl (Runs.remN (n:=256) rfl rfl aE aE) ?_;refine aD ?_;refine_lift aX ?_;refine eY (c:=.int .u8 (IntKind.u8.wrap ((q % 256:Nat):Int))) (i:=L.length + 1) rfl rfl rfl o7 aE aR rfl ?_;intro w8 o8 m8;have hB8:=m8.at hB7 (fun e=>(o7.neBlock hB7 bG) e.symm);have hP8:=hP7.mv m8 (hP7.ne o7 bG);have x8:Ext w0 w8:=x7.move m8 (fun k e=>(o7.block k e).1);have k8:=Mv.kgRow o7 m8;have o8':Own w0.heap.size 1 5 w8 vz (aL (L ++ aT q ++ Z.1.drop (L.length + 2))):=by
    have e0:Z.1.drop (L.length + 2)=y:=by
     rw [hy];exact List.drop_left' (by simp [aT])
    rw [e0,← YZ,← hy,hes];exact o8
   have h8:WgAt w0 w8 b (lQ (l',rs') rl[k]).1 (lQ (l',rs') rl[k]).2:=by
    rw [hXe];exact ⟨e1,x8,vz,pz,hB8,o8',hP8⟩
   refine_lift aX ?_;refine ⟨⟨k + 1,_,_,aE,by go_num,h8,?_,hT,((hK.trans (g1.trans (g2.trans g3))).trans (g4.trans (g5.trans g6))).trans (k7.trans k8)⟩,by simp [intOf];omega⟩;have:=hnext.la;have:=hnext.lc;exact ⟨aE,aE,hnext.at_⟩
  ·have hd:rl.drop k=[]:=List.drop_eq_nil_of_le aE;rw [hd] at hE;refine_lift jS fun _ => ?_
   ((try simp only [Exit.inBlock,Exit.then]);refine bodyPost_ret (results_none rfl _ _ _) rfl ?_)
   rw [← hE];exact ⟨rfl,hW,hK⟩
end Go.Proofs.X
namespace Go.Proofs.X
open Go.RowKit
section
variable {Pr:Program} {a:Act} {w:World} {d:Option Nat} {ty:TypeId} {ps:String} {af:Array Edge} {g:Option (Nat × Bool)}
theorem Runs.mul8 {t u:TypeId} {x y:Operand} {m:Nat} (hx:a.eval x=.int .i64 8) (hy:a.eval y=.int .i64 (m:Nat)) (h:8 * m < 4611686018427387904) :
 Runs Pr (Oper.mk d (.binOp .mul t x y u) ty ps af g) a w (.int .i64 ((8 * m:Nat):Int)):=by
 have:=Runs.mul (P:=Pr) (w:=w) (d:=d) (ty:=ty) (ps:=ps) (af:=af) (g:=g) (t:=t) (u:=u) hx hy aE;have e:(8:Int) * (m:Nat)=((8 * m:Nat):Int):=aE
 rwa [e] at this
end
theorem QI (m:MsgR):cS m=0∨cS m=1:=by
 unfold cS;split
 ·exact .inl rfl
 ·exact .inr rfl
theorem yG (is:Bool) (n:Nat) (w:World):Calls Tryz.prog 52 #[.bool is, .int .i64 ((n:Nat):Int)] w (bC w (.int .i64 ((flagN is n:Nat):Int))):=by
 rw [← FS];go_enter Tryz.func52,Tryz.ntmps52
 cases is with
 | true =>
  refine_lift aX ?_;go_ret;exact ⟨rfl,Ext.refl _⟩
 | false =>
  refine_lift aX ?_;go_ret;exact ⟨rfl,Ext.refl _⟩
theorem XB.q {l:List UInt8} {rs:List (List UInt8 × Nat)} {a c:Nat} (h:XB l rs a c) {q:rC} (hq:qG q=true):XB (qX (l,rs) q).1 (qX (l,rs) q).2 (a + 260) (c + 127):=by
 have b1:=h.name (MR hq).1;have b2:=b1.text (aT q.2.toNat) 2 (Nat.le_refl _);have b3:=b2.text (aT 1) 2 (Nat.le_refl _);exact b3
theorem XB.recs:∀ (rl:List Rec) {l:List UInt8} {rs:List (List UInt8 × Nat)} {a c:Nat} (_:XB l rs a c) (_:∀ r ∈ rl,aU r=0),XB (rl.foldl lQ (l,rs)).1 (rl.foldl lQ (l,rs)).2 (a + 6000 * rl.length) (c + 400 * rl.length)
 | [],_,_,_,_,h,_=>h
 | r :: rl,l,rs,a,c,h,hr=>by
   have h1:=XB.recs rl (h.recd (tB (hr r (.head _)))) (fun x hx=>hr x (.tail _ hx));have h2:=h1.la;have h3:=h1.lc;rw [List.foldl_cons,List.length_cons];exact ⟨by refine Nat.le_trans h2 ?_;omega,by refine Nat.le_trans h3 ?_;omega,h1.at_⟩
theorem tG {w:World} {mm:MsgR} {q a u e:Value} (hm:MsgV w mm q a u e) (hd:∀ r,r ∈ mm.an∨r ∈ mm.au∨r ∈ mm.ex→r.data.length≤4611686018427387904):Calls Tryz.prog 21 #[.agg (aM mm q a u e).toArray] w (bC w (.tuple #[aI (bU mm).1, .int .i64 (bU mm).2])):=by
 go_enter Tryz.func21,Tryz.ntmps21
 refine_lift mS fun _ _ => ?_;refine zV (vs:=aM mm q a u e) fun w1 x1 s1 hb1 => ?_;refine aD ?_;have hpM:=aA (cs:=aM mm q a u e) hb1;unfold aM at hpM;have hm1:=hm.ext x1;refine_lift qQ fun _ _ _ _ => ?_;refine cY (CG mm q a u e _ hm1 hd) fun w2 x2 => ?_;have hb2:=x2.at hb1;have x02:=x1.trans x2;have hm2:=hm1.ext x2;by_cases cc:cS mm=0
 ·refine_lift RN (fun _ _ _ => ?_) (fun _ => ?_)
  all_goals first
   | (have hh:False:=by have h9:=‹(!decide (cS mm=0))=true›;rw [decide_eq_true cc] at h9;cases h9
      exact hh.elim)
   | skip
  refine aS (v:=.agg #[.slice none 0 0, .slice none 0 0]) (Runs.build0 (by kernel_rfl)) ?_;refine aD ?_;refine zV (vs:=[.slice none 0 0, .slice none 0 0]) fun w4 x4 s4 hb4 => ?_;refine aD ?_;have hW4:WgAt w2 w4 w2.heap.size [] []:=⟨Nat.le_refl _,x4, .slice none 0 0, .slice none 0 0,hb4,Own.nil _ _ _ _,Own.nil _ _ _ _⟩;have hok:=mX cc;have hfb:=KY hok;have hid:=hok.id;have hop:=hok.op;have hrc:=hok.rc;have hsz:0≤mm.size∧mm.size≤65535:=by have:=hok.sz;omega
  have hql:=hok.ql;have hnl:=hok.nl;have hul:=hok.ul;have hel:=hok.el;have hpw:∀ wr,Ext w2 wr→Pts wr (.pointer (some ⟨w.heap.size,0,none⟩)) [.int .i64 mm.id, .bool mm.resp, .int .i64 mm.op, .bool mm.auth, .bool mm.trunc, .bool mm.want, .bool mm.avail, .int .i64 mm.rcode,q,a,u,e, .int .i64 mm.size]:=fun wr x=>aA (cs:=aM mm q a u e) (x.at hb2);have hp4:=hpw w4 x4;generalize hB:w2.heap.size=B at *;clear hpM;refine_lift cC fun _ _ => ?_;refine cP (vs:=[.pointer (some ⟨B,0,none⟩), .int .i64 ((mm.id.toNat:Nat):Int), .int .i64 ((2:Nat):Int)]) (enters_of Tryz.func51 rfl rfl) rfl (congrArg (fun z=>[Value.pointer (some ⟨B,0,none⟩),Value.int .i64 z, .int .i64 ((2:Nat):Int)]) (show mm.id=((mm.id.toNat:Nat):Int) by omega)) (eQ hW4 mm.id.toNat 2 bG aE bP) ?_;rintro _ w5 ⟨rfl,h5,g5⟩;refine ⟨_,rfl,?_⟩;refine aD ?_;rw [hY] at h5;have hp5:=hpw w5 h5.ext;clear hp4;refine_lift cC fun _ _ => ?_;refine bE 20 (Ext w5) aR ?_;intro w6 x6 _;refine ⟨x6,?_⟩;refine cI 0 ?_;refine cI 1 ?_;refine cI 2 ?_;refine cI 4 ?_;refine cI 5 ?_;refine uG (i:=6) (v:=.int .i64 ((8 * mm.op.toNat:Nat):Int)) rfl rfl (fun w' hF=>Runs.mul8 rfl (congrArg (Value.int .i64) (show mm.op=((mm.op.toNat:Nat):Int) by omega)) aE) ?_;refine aD ?_
  refine cI 8 ?_;refine cI 9 ?_;refine cI 12 ?_;refine cI 13 ?_;refine cI 16 ?_;refine cI 17 ?_;have z0:Ext w5 w6:=x6;have f1:=iF mm.resp 128;have f2:=iF mm.auth 4;have f3:=iF mm.trunc 2;have f4:=iF mm.want 1;have f5:=iF mm.avail 128;refine fR 3 ?_;refine cY (yG mm.resp 128 _) fun w7 x7 => ?_;have z7:Ext w5 w7:=z0.trans x7;refine aG ⟨bJ z7,?_⟩
  refine uG (i:=7) (v:=.int .i64 ((flagN mm.resp 128 + 8 * mm.op.toNat:Nat):Int)) rfl rfl (fun w' hF=>Runs.addN rfl rfl aE) ?_;refine aD ?_
  refine fR 10 ?_;refine cY (yG mm.auth 4 _) fun w8 x8 => ?_;have z8:Ext w5 w8:=z7.trans x8;refine aG ⟨bJ z8,?_⟩
  refine uG (i:=11) (v:=.int .i64 ((flagN mm.resp 128 + 8 * mm.op.toNat + flagN mm.auth 4:Nat):Int)) rfl rfl (fun w' hF=>Runs.addN rfl rfl aE) ?_;refine aD ?_
  refine fR 14 ?_;refine cY (yG mm.trunc 2 _) fun w9 x9 => ?_;have z9:Ext w5 w9:=z8.trans x9;refine aG ⟨bJ z9,?_⟩
  refine uG (i:=15) (v:=.int .i64 ((flagN mm.resp 128 + 8 * mm.op.toNat + flagN mm.auth 4 + flagN mm.trunc 2:Nat):Int)) rfl rfl (fun w' hF=>Runs.addN rfl rfl aE) ?_;refine aD ?_
  refine fR 18 ?_;refine cY (yG mm.want 1 _) fun w10 x10 => ?_;have z10:Ext w5 w10:=z9.trans x10;refine aG ⟨bJ z10,?_⟩
  refine uG (i:=19) (v:=.int .i64 ((flagA mm:Nat):Int)) rfl rfl (fun w' hF=>Runs.addN rfl rfl aE) ?_;refine aD ?_
  refine fR 20 ?_;refine bK (vs:=[.pointer (some ⟨B,0,none⟩), .int .i64 ((flagA mm:Nat):Int), .int .i64 ((1:Nat):Int)]) (eQ (h5.more z10) (flagA mm) 1 bG aE (by simp [aT])) fun w12 h12 g12 => ?_;rw [tF] at h12;refine aG ⟨bF rfl,?_⟩;refine qR ?_;have hp12:=hpw w12 h12.ext;clear hp5;refine_lift cC fun _ _ => ?_;refine bE 7 (Ext w12) aR ?_;intro w13 x13 _;refine ⟨x13,?_⟩;refine cI 0 ?_;refine cI 1 ?_;refine cI 2 ?_;refine cI 4 ?_;refine cI 5 ?_;refine fR 3 ?_;refine cY (yG mm.avail 128 _) fun w14 x14 => ?_;have z14:Ext w12 w14:=x13.trans x14;refine aG ⟨bJ z14,?_⟩
  refine uG (i:=6) (v:=.int .i64 ((flagB mm:Nat):Int)) rfl rfl (fun w' hF=>Runs.addN rfl (congrArg (Value.int .i64) (show mm.rcode=((mm.rcode.toNat:Nat):Int) by omega)) aE) ?_;refine aD ?_
  refine fR 7 ?_;refine bK (vs:=[.pointer (some ⟨B,0,none⟩), .int .i64 ((flagB mm:Nat):Int), .int .i64 ((1:Nat):Int)]) (eQ (h12.more z14) (flagB mm) 1 bG aE (by simp [aT])) fun w15 h15 g15 => ?_;rw [tF] at h15;refine aG ⟨bF rfl,?_⟩;refine qR ?_;have hp15:=hpw w15 h15.ext;clear hp12;have hq15:=hm2.qs.ext h15.ext;refine_lift cC fun _ _ => ?_;refine cP (vs:=[.pointer (some ⟨B,0,none⟩), .int .i64 ((mm.qs.length:Nat):Int), .int .i64 ((2:Nat):Int)]) (enters_of Tryz.func51 rfl rfl) rfl (congrArg (fun z=>[Value.pointer (some ⟨B,0,none⟩),Value.int .i64 z, .int .i64 ((2:Nat):Int)]) (congrArg Nat.cast (dC mm.qs))) (eQ h15 mm.qs.length 2 bG aE (by simp [aT])) ?_;rintro _ w16 ⟨rfl,h16,g16⟩;refine ⟨_,rfl,?_⟩;refine aD ?_;rw [hY] at h16;have hp16:=hpw w16 h16.ext;clear hp15;have hq16:=hm2.an.ext h16.ext;clear hq15;refine_lift cC fun _ _ => ?_;refine cP (vs:=[.pointer (some ⟨B,0,none⟩), .int .i64 ((mm.an.length:Nat):Int), .int .i64 ((2:Nat):Int)]) (enters_of Tryz.func51 rfl rfl) rfl (congrArg (fun z=>[Value.pointer (some ⟨B,0,none⟩),Value.int .i64 z, .int .i64 ((2:Nat):Int)]) (congrArg Nat.cast (aN mm.an))) (eQ h16 mm.an.length 2 bG aE (by simp [aT])) ?_;rintro _ w17 ⟨rfl,h17,g17⟩;refine ⟨_,rfl,?_⟩;refine aD ?_;rw [hY] at h17;have hp17:=hpw w17 h17.ext;clear hp16;have hq17:=hm2.au.ext h17.ext;clear hq16;refine_lift cC fun _ _ => ?_;refine cP (vs:=[.pointer (some ⟨B,0,none⟩), .int .i64 ((mm.au.length:Nat):Int), .int .i64 ((2:Nat):Int)]) (enters_of Tryz.func51 rfl rfl) rfl (congrArg (fun z=>[Value.pointer (some ⟨B,0,none⟩),Value.int .i64 z, .int .i64 ((2:Nat):Int)]) (congrArg Nat.cast (aN mm.au))) (eQ h17 mm.au.length 2 bG aE (by simp [aT])) ?_;rintro _ w18 ⟨rfl,h18,g18⟩;refine ⟨_,rfl,?_⟩;refine aD ?_;rw [hY] at h18;have hp18:=hpw w18 h18.ext;clear hp17;have hq18:=hm2.ex.ext h18.ext;have hxl:=aN mm.ex;clear hq17;refine_lift cC fun _ _ => ?_;refine bE 9 (Ext w18) aR ?_;intro w19 x19 _;refine ⟨x19,?_⟩;refine cI 0 ?_;refine cI 1 ?_;refine cI 2 ?_;refine cI 3 ?_;refine cI 4 ?_;refine cI 5 ?_;refine cI 6 ?_;rw [hxl];have f6:=iF (!decide (mm.size=0)) 1;refine fR 7 ?_;refine cY (yG (!decide (mm.size=0)) 1 _) fun w20 x20 => ?_;have z20:Ext w18 w20:=x19.trans x20;refine aG ⟨bJ z20,?_⟩
  refine uG (i:=8) (v:=.int .i64 ((mm.ex.length + flagN (!decide (mm.size=0)) 1:Nat):Int)) rfl rfl (fun w' hF=>Runs.addN rfl rfl aE) ?_;refine aD ?_
  refine fR 9 ?_;refine bK (vs:=[.pointer (some ⟨B,0,none⟩), .int .i64 ((mm.ex.length + flagN (!decide (mm.size=0)) 1:Nat):Int), .int .i64 ((2:Nat):Int)]) (eQ (h18.more z20) _ 2 bG aE (by simp [aT])) fun w21 h21 g21 => ?_;rw [hY] at h21;refine aG ⟨bF rfl,?_⟩;refine qR ?_;rw [show [] ++ aT mm.id.toNat ++ [UInt8.ofNat (flagA mm)] ++ [UInt8.ofNat (flagB mm)] ++ aT mm.qs.length ++ aT mm.an.length ++ aT mm.au.length ++ aT (mm.ex.length + flagN (!decide (mm.size=0)) 1)=gK mm by rw [gK,hfb.1];simp] at h21;have hlh:(gK mm).length=12:=by simp [gK,aT]
  have hX21:XB (gK mm) [] 12 0:=⟨aE,Nat.le_refl _,fun p hp=>by cases hp⟩;have hqc:=dC mm.qs;clear hp18 h5 h12 h15 h16 h17 h18 hq18;refine_lift cC fun _ _ => ?_;have hQl:∀ wr,Ext w2 wr→Sl 2 wr q (cR mm.qs):=fun wr x=>hm2.qs.ext x;go_loopw [5] (fun iv wr=>∃ (k:Nat) (l':List UInt8) (rs':List (List UInt8 × Nat)),k≤mm.qs.length∧iv=.int .i64 (k:Nat)∧WgAt w2 wr B l' rs'∧XB l' rs' (12 + 260 * k) (0 + 127 * k)∧(mm.qs.drop k).foldl qX (l',rs')=mm.qs.foldl qX (gK mm,[])) (fun iv _=>mm.qs.length - (intOf iv).toNat)
  case atStart=>exact ⟨0,gK mm,[],Nat.zero_le _,rfl,h21,hX21,rfl⟩
  case round =>
   obtain ⟨k,l',rs',hk,rfl,hW,hX,hE⟩:=hrel;have hpr:=hpw wr hW.ext;have hqr:=hQl wr hW.ext;by_cases ck:k < mm.qs.length
   ·have hqk:=hok.qs _ (List.getElem_mem ck);obtain ⟨hn1,hn2,hn3⟩:=MR hqk;have hnext:=hX.q hqk;have hT:(mm.qs.drop (k + 1)).foldl qX (qX (l',rs') mm.qs[k])=mm.qs.foldl qX (gK mm,[]):=by
     rw [← hE,List.drop_eq_getElem_cons ck];rfl
    have b1:=hX.name hn1;have l1:=b1.la;have hel1:=hqr.elem (pJ ck);clear hE;refine_lift DI ?_;intro _ _ _ _ _ _;refine bK (vs:=[.pointer (some ⟨B,0,none⟩),aI mm.qs[k].1]) (sN hW hX aE aE _ hn1) fun w22 h22 g22 => ?_;have hp22:=hpw w22 h22.ext;have hqr22:=hQl w22 h22.ext;have hel2:=hqr22.elem (pJ ck);clear hpr hqr hel1;refine_lift cC fun _ _ => ?_;refine cP (vs:=[.pointer (some ⟨B,0,none⟩), .int .i64 ((mm.qs[k].2.toNat:Nat):Int), .int .i64 ((2:Nat):Int)]) (enters_of Tryz.func51 rfl rfl) rfl (congrArg (fun z=>[Value.pointer (some ⟨B,0,none⟩),Value.int .i64 z, .int .i64 ((2:Nat):Int)]) (show mm.qs[k].2=((mm.qs[k].2.toNat:Nat):Int) by omega)) (eQ h22 mm.qs[k].2.toNat 2 bG aE aE) ?_;rintro _ w23 ⟨rfl,h23,g23⟩;refine ⟨_,rfl,?_⟩;refine aD ?_;rw [hY] at h23;clear hp22 hqr22 hel2;refine_lift aX ?_;refine bK (vs:=[.pointer (some ⟨B,0,none⟩), .int .i64 ((1:Nat):Int), .int .i64 ((2:Nat):Int)]) (eQ h23 1 2 bG aE (by rw [List.length_append];simp [aT];omega)) fun w24 h24 g24 => ?_;rw [hY] at h24;refine_lift aX ?_;refine ⟨⟨k + 1,_,_,aE,by go_num,h24,?_,hT⟩,by simp [intOf];omega⟩;exact ⟨Nat.le_trans hnext.la aE,Nat.le_trans hnext.lc aE,hnext.at_⟩
   ·have hkq:k=mm.qs.length:=aE;have hd0:mm.qs.drop k=[]:=List.drop_eq_nil_of_le aE;rw [hd0] at hE;have hE2:(l',rs')=mm.qs.foldl qX (gK mm,[]):=hE;have hY1:=XB.recs mm.an hX hok.an;have hY2:=XB.recs mm.au hY1 hok.au;have hY3:=XB.recs mm.ex hY2 hok.ex;have hbody:mm.ex.foldl lQ (mm.au.foldl lQ (mm.an.foldl lQ (l',rs')))=CQ mm:=by rw [hE2];rfl
    clear hE hE2 hd0;refine_lift rI fun _ _ _ => ?_;refine bK (vs:=[.pointer (some ⟨B,0,none⟩),a]) (uV hW hX aE aE mm.an a hm2.an hnl hok.an) fun w25 h25 g25 => ?_;have hp25:=hpw w25 h25.ext;clear hpr hqr;refine_lift cC fun _ _ => ?_;refine bK (vs:=[.pointer (some ⟨B,0,none⟩),u]) (uV h25 hY1 aE aE mm.au u hm2.au hul hok.au) fun w26 h26 g26 => ?_;have hp26:=hpw w26 h26.ext;clear hp25;refine_lift cC fun _ _ => ?_;refine bK (vs:=[.pointer (some ⟨B,0,none⟩),e]) (uV h26 hY2 aE aE mm.ex e hm2.ex hel hok.ex) fun w27 h27 g27 => ?_;have hp27:=hpw w27 h27.ext;clear hp26;have H27:WgAt w2 w27 B (CQ mm).1 (CQ mm).2:=by rw [← hbody];exact h27
    have hL27:(CQ mm).1.length≤4000000:=by
     have:=hY3.la;rw [← hbody];refine Nat.le_trans this ?_;omega
    have hEb:jO mm=(CQ mm).1 ++ uR mm:=by rw [UG];rfl
    have hEn:bU mm=if 65535 < (jO mm).length then ([],4) else (jO mm,0):=by unfold bU;rw [if_neg (by simpa using cc)]
    clear h25 h26 h27 hY1 hY2 hY3;generalize CQ mm=Y at *;by_cases cz:mm.size=0
    ·have hZ:WgAt w2 w27 B (jO mm) Y.2:=by
      rw [hEb,show uR mm=[] by unfold uR;rw [if_pos cz],List.append_nil];exact H27
     have hLz:(jO mm).length≤4000020:=by rw [hEb,show uR mm=[] by unfold uR;rw [if_pos cz],List.append_nil];omega
     refine_lift XZ (fun _ _ _ _ _ => ?_) (fun _ _ _ _ _ => ?_)
     all_goals first
      | (have hh:False:=by have h9:=‹(!decide (mm.size=0))=true›;rw [decide_eq_true cz] at h9;cases h9
         exact hh.elim)
      | skip
     obtain ⟨_,xz,vz,pz,hBz,hoz,_⟩:=hZ;have hpz:=aA (cs:=[vz,pz]) hBz;have hslz:=hoz.sl;have hbz:(aL (jO mm)).length=(jO mm).length:=by simp [aL]
     generalize jO mm=Z at *;by_cases cl:65535 < Z.length
     ·rw [if_pos cl] at hEn;refine_lift jS fun _ => ?_
      all_goals first
       | (have hh:False:=aE
          exact hh.elim)
       | skip
      go_ret2;rw [hEn];exact ⟨by kernel_rfl,x02.trans xz⟩
     ·rw [if_neg cl] at hEn;refine_lift jS fun _ => ?_
      all_goals first
       | (have hh:False:=aE
          exact hh.elim)
       | skip
      go_ret2;rw [hEn];exact ⟨by kernel_rfl,x02.trans xz⟩
    ·have hoE:uR mm=[0,0,41] ++ aT mm.size.toNat ++ [0,0,0,0,0,0]:=by unfold uR;rw [if_neg cz];rfl
     refine_lift XZ (fun _ _ _ _ _ => ?_) (fun _ _ _ _ _ => ?_)
     all_goals first
      | (have hh:False:=by have h9:=‹(!decide (mm.size=0))=false›;rw [decide_eq_false cz] at h9;cases h9
         exact hh.elim)
      | skip
     refine bK (vs:=[.pointer (some ⟨B,0,none⟩),aI [0,0,41]]) (qL H27 [0,0,41] (by simp;omega)) fun w28 h28 g28 => ?_;have hp28:=hpw w28 h28.ext;clear hp27;refine_lift cC fun _ _ => ?_;refine cP (vs:=[.pointer (some ⟨B,0,none⟩), .int .i64 ((mm.size.toNat:Nat):Int), .int .i64 ((2:Nat):Int)]) (enters_of Tryz.func51 rfl rfl) rfl (congrArg (fun z=>[Value.pointer (some ⟨B,0,none⟩),Value.int .i64 z, .int .i64 ((2:Nat):Int)]) (show mm.size=((mm.size.toNat:Nat):Int) by omega)) (eQ h28 mm.size.toNat 2 bG aE (by simp;omega)) ?_;rintro _ w29 ⟨rfl,h29,g29⟩;refine ⟨_,rfl,?_⟩;refine aD ?_;rw [hY] at h29;refine_lift aX ?_;refine bK (vs:=[.pointer (some ⟨B,0,none⟩),aI [0,0,0,0,0,0]]) (qL h29 [0,0,0,0,0,0] (by simp [aT];omega)) fun w30 h30 g30 => ?_;have hZ:WgAt w2 w30 B (jO mm) Y.2:=by
      rw [hEb,hoE]
      simpa using h30
     have hLz:(jO mm).length≤4000020:=by
      rw [hEb,hoE];simp [aT];omega
     clear hp28;refine_lift qQ fun _ _ _ _ => ?_;obtain ⟨_,xz,vz,pz,hBz,hoz,_⟩:=hZ;have hpz:=aA (cs:=[vz,pz]) hBz;have hslz:=hoz.sl;have hbz:(aL (jO mm)).length=(jO mm).length:=by simp [aL]
     generalize jO mm=Z at *;by_cases cl:65535 < Z.length
     ·rw [if_pos cl] at hEn;refine_lift jS fun _ => ?_
      all_goals first
       | (have hh:False:=aE
          exact hh.elim)
       | skip
      go_ret2;rw [hEn];exact ⟨by kernel_rfl,x02.trans xz⟩
     ·rw [if_neg cl] at hEn;refine_lift jS fun _ => ?_
      all_goals first
       | (have hh:False:=aE
          exact hh.elim)
       | skip
      go_ret2;rw [hEn];exact ⟨by kernel_rfl,x02.trans xz⟩
 ·refine_lift RN (fun _ _ _ => ?_) (fun _ => ?_)
  all_goals first
   | (have hh:False:=by have h9:=‹(!decide (cS mm=0))=false›;rw [decide_eq_false cc] at h9;cases h9
      exact hh.elim)
   | skip
  go_ret2;have hE:bU mm=([],1):=by
   unfold bU;rw [if_pos cc];rcases QI mm with h | h
   ·exact absurd h cc
   ·rw [h]
  rw [hE];exact ⟨rfl,x02⟩
variable {cs:Array Value} {held:Bool} {qt:Int} {ps rs:List (List UInt8 × Nat)} {ls:List (List UInt8)} {css css0 es:List (List Value)} {d l m n o qn s t x y z:List UInt8} {B a b base c e fuel i j k p q:Nat} {fz:Nat × Nat} {row:Option Nat} {r u v:Value} {w w' w0 w1 w2:World}
def CR (hs:List HldR):Bool:=decide (hs.length≤4) && hs.all fun h=>(decide ((h.o.length:Int)≤300) && vR h.l) && decide ((h.org.length:Int)≤300)
theorem UH (v:Value) (hs:List HldR) (w:World) (hv:HldsAt w v hs) (hl:hs.length≤1000):Calls Tryz.prog 7 #[v] w (oQ w fun r w'=>HldsAt w' r hs):=by
 obtain ⟨css,hsl,hcl,hrow⟩:=hv;go_enter Tryz.func7,Tryz.ntmps7
 refine_lift rI ?_;intro _ _ _;go_loopw [3,4] (fun out iv wr=>∃ k:Nat,k≤hs.length∧iv=.int .i64 k∧Ext w wr∧Own w.heap.size 4 43 wr out (css.take k)) (fun _ iv _=>hs.length - (intOf iv).toNat)
 case atStart=>exact ⟨0,Nat.zero_le _,rfl,Ext.refl _,Own.nil _ _ _ _⟩
 case round =>
  obtain ⟨k,hk,rfl,hx,ho⟩:=hrel;have hsr:=hsl.ext hx;by_cases hlt:k < hs.length
  ·obtain ⟨x,hck,hsx⟩:=hrow k _ (List.getElem?_eq_getElem hlt);have hel:=hsr.elem hck;obtain ⟨bb,oo,hep,-⟩:=hel.out;rw [hep] at hel;have hso:=ho.sl;have hx1:x.oneCell'=true:=by obtain ⟨_,hq,_⟩:=hsx.sl;exact hq.one
   have hxf:∃ a n c,x=.slice a n c:=by obtain ⟨_,hq,_⟩:=hsx.sl;exact hq.slf
   have hkl:k < css.length:=aE;generalize hs[k]=H at *;refine_lift qQ ?_;intro _ _ _ _;refine bE 18 (Ext wr) aR ?_;intro w1 x1 _;refine ⟨x1,?_⟩;refine cI 0 ?_;refine cI 1 ?_;refine cI 2 ?_;refine uG (i:=3) (v:=.pointer (some ⟨bb,oo,none⟩)) rfl rfl (fun w' hF=>by rw [← hep];exact Runs.idxT rfl (hsr.ext hF) hkl aR) ?_;refine aD ?_;have hel0:Pts wr (dZ (.pointer (some ⟨bb,oo,none⟩)) 0) [aI H.o,x]:=(hel.front 2).part 0;refine cI 4 ?_;refine cI 5 ?_;refine cI 6 ?_;refine cI 7 ?_;clear hel0;refine uG (i:=8) (v:=.pointer (some ⟨bb,oo,none⟩)) rfl rfl (fun w' hF=>by rw [← hep];exact Runs.idxT rfl (hsr.ext hF) hkl aR) ?_;refine aD ?_;refine cI 9 ?_;refine cI 10 ?_;refine cI 11 ?_;refine cI 12 ?_;refine uG (i:=13) (v:=.pointer (some ⟨bb,oo,none⟩)) rfl rfl (fun w' hF=>by rw [← hep];exact Runs.idxT rfl (hsr.ext hF) hkl aR) ?_;refine aD ?_;refine cI 14 ?_;refine cI 15 ?_;refine ZN 16 (v:=.agg #[aI H.o,x,aI H.org, .bool H.up]) rfl (fun _=>Runs.build rfl (by obtain ⟨_,_,_,rfl⟩:=hxf;kernel_rfl)) ?_;refine aD ?_;refine fR 17 ?_;refine nG (e:=43) (k:=4) (bytes:=64) (xs:=[.agg #[aI H.o,x,aI H.org, .bool H.up]]) (by intro y hy;simp at hy;subst hy;simp [Value.cells]) fun u2 w2 x2 _ sl2 _ => ?_;refine aD ?_;have sl2:Sl 4 w2 u2 [[aI H.o,x,aI H.org, .bool H.up]]:=sl2;refine aG ⟨bJ (x1.trans x2),?_⟩;refine fR 18 ?_;refine aZ (e:=43) (k:=4) rfl (ho.ext (x1.trans x2)) rfl sl2 (by intro f hf u hu;simp only [List.mem_singleton] at hf;subst hf;simp only [List.mem_cons,List.not_mem_nil,or_false] at hu;rcases hu with rfl | rfl | rfl | rfl <;> first | rfl | exact hx1) (hx.trans (x1.trans x2)).size (by simp;omega) ?_;intro v3 w3 o3 m3 _;refine aD ?_;refine aG ⟨bF rfl,?_⟩;refine zU 19 ?_;refine qR ?_;have hx3:=(ho.ext (x1.trans x2)).mvx m3 (hx.trans (x1.trans x2)) (Nat.le_refl _);refine_lift aX ?_;refine ⟨⟨k + 1,aE,by go_num,hx3,?_⟩,by simp [intOf];omega⟩;rw [List.take_add_one,hck];exact o3
  ·have hk2:k=hs.length:=aE;subst hk2;rw [List.take_of_length_le aE] at ho;refine_lift jS fun _ => ?_;go_ret;exact ⟨_,rfl,hx,⟨css,ho.sl,hcl,fun i h hi=>by obtain ⟨y,e1,e2⟩:=hrow i h hi;exact ⟨y,e1,e2.ext hx⟩⟩⟩
theorem WQ (v:Value) (hs:List HldR) (w:World) (hv:HldsAt w v hs):Calls Tryz.prog 4 #[v] w (bC w (.bool (CR hs))):=by
 obtain ⟨css,hsl,hcl,hrow⟩:=hv;go_enter Tryz.func4,Tryz.ntmps4
 have hle:=hsl.le;by_cases c4:hs.length≤4
 ·have hF:CR hs=hs.all fun h=>(decide ((h.o.length:Int)≤300) && vR h.l) && decide ((h.org.length:Int)≤300):=by unfold CR;rw [decide_eq_true c4];rfl
  refine_lift rI fun _ _ _ => ?_
  all_goals first
   | (have hh:False:=aE
      exact hh.elim)
   | skip
  go_loopw [3] (fun iv wr=>∃ k:Nat,k≤hs.length∧iv=.int .i64 k∧Ext w wr∧((hs.take k).all fun h=>(decide ((h.o.length:Int)≤300) && vR h.l) && decide ((h.org.length:Int)≤300))=true) (fun iv _=>hs.length - (intOf iv).toNat)
  case atStart=>exact ⟨0,Nat.zero_le _,rfl,Ext.refl _,rfl⟩
  case round =>
   obtain ⟨k,hk,rfl,hx,hall⟩:=hrel;have hsr:=hsl.ext hx;by_cases hlt:k < hs.length
   ·obtain ⟨x,hck,hsx⟩:=hrow k _ (List.getElem?_eq_getElem hlt);have hel:=hsr.elem hck;obtain ⟨bb,oo,hep,-⟩:=hel.out;have hkl:k < css.length:=aE;have hTk:(hs.take (k + 1))=hs.take k ++ [hs[k]]:=by rw [List.take_succ_eq_append_getElem hlt]
    have hbad:((decide ((hs[k].o.length:Int)≤300) && vR hs[k].l) && decide ((hs[k].org.length:Int)≤300))=false→CR hs=false:=fun h9=>by
     rw [hF,List.all_eq_false];exact ⟨_,List.getElem_mem hlt,by rw [h9];decide⟩
    generalize hs[k]=H at *;have hel0:Pts wr (dZ (dY v (k * 4)) 0) [aI H.o,x]:=(hel.front 2).part 0;refine_lift DI ?_;intro _ _ _ _ _ _;refine cY (YL H.o x H.l _ (hsx.ext hx)) fun w1 x1 => ?_;have hx1:=hx.trans x1;have hsr1:=hsr.ext x1;have hel1:=hel.ext x1;rw [hep] at hel1;clear hel0 hel;cases hd:(decide ((H.o.length:Int)≤300) && vR H.l) with
    | false =>
     refine_lift aX ?_;go_ret;rw [hbad (by rw [hd];rfl)];exact ⟨rfl,hx1⟩
    | true =>
     refine_lift aX ?_;refine aS (Runs.fieldA (off:=2) hep aR) ?_;refine aD ?_;by_cases c3:(H.org.length:Int)≤300
     ·refine_lift jS fun _ => ?_
      all_goals first
       | (have hh:False:=aE
          exact hh.elim)
       | skip
      refine ⟨⟨k + 1,aE,by go_num,hx1,?_⟩,by simp [intOf];omega⟩;rw [hTk,List.all_append,hall];simp [hd,c3]
     ·refine_lift jS fun _ => ?_
      all_goals first
       | (have hh:False:=aE
          exact hh.elim)
       | skip
      go_ret;rw [hbad (by rw [decide_eq_false c3,Bool.and_false])];exact ⟨rfl,hx1⟩
   ·have hk2:k=hs.length:=aE;subst hk2;rw [List.take_length] at hall;refine_lift jS fun _ => ?_;go_ret;rw [hF,hall];exact ⟨rfl,hx⟩
 ·have hF:CR hs=false:=by unfold CR;rw [decide_eq_false c4];rfl
  refine_lift jS fun _ => ?_
  all_goals first
   | (have hh:False:=aE
      exact hh.elim)
   | skip
  go_ret;rw [hF];exact ⟨rfl,Ext.refl _⟩
theorem ZA {hs:List HldR} (h:CR hs=true):hs.length≤4∧∀ x ∈ hs,∀ s ∈ x.l,s.data.length≤1000000:=by
 simp only [CR,Bool.and_eq_true,decide_eq_true_eq,List.all_eq_true] at h;refine ⟨h.1,fun x hx s hs => ?_⟩;have:=(CD (h.2 x hx).1.2).2.1 s hs;omega
def Ay:Option Nat→Int
 | none=>-1
 | some i=>(i:Nat)
def Bw (hs:List HldR) (b:Option Nat) (most:Int):Prop:=(b=none∧most=-1)∨∃ j,b=some j∧∃ h:j < hs.length,most=((iZ hs[j].org:Nat):Int)
theorem ZB (v:Value) (hs:List HldR) (n:List UInt8) (w:World) (hv:HldsAt w v hs) (hl:hs.length≤1000):Calls Tryz.prog 57 #[v,aI n] w (bC w (.int .i64 (Ay (UR hs n)))):=by
 obtain ⟨css,hsl,hcl,hrow⟩:=hv;have hgo:yA n (hs.drop 0) 0 none (-1)=UR hs n:=rfl;generalize UR hs n=RES at *;go_enter Tryz.func57,Tryz.ntmps57
 refine_lift cC fun _ _ => ?_;go_loopw [5,6] (fun bv iv wr=>∃ (k:Nat) (b:Option Nat) (most:Int),k≤hs.length∧iv=.int .i64 k∧bv=.int .i64 (Ay b)∧Bw hs b most∧Ext w wr∧yA n (hs.drop k) k b most=RES) (fun _ iv _=>hs.length - (intOf iv).toNat)
 case atStart=>exact ⟨0,none,-1,Nat.zero_le _,rfl,rfl, .inl ⟨rfl,rfl⟩,Ext.refl _,hgo⟩
 case round =>
  obtain ⟨k,b,most,hk,rfl,rfl,hM,hx,hg⟩:=hrel;have hsr:=hsl.ext hx;by_cases hlt:k < hs.length
  ·obtain ⟨x,hck,hsx⟩:=hrow k _ (List.getElem?_eq_getElem hlt);rw [List.drop_eq_getElem_cons hlt] at hg;unfold yA at hg;have hel:=hsr.elem hck;obtain ⟨bb,oo,hep,-⟩:=hel.out;rw [hep] at hel;have hkl:k < css.length:=aE;have hlk:=HL hs[k].org;have hMk:Bw hs (some k) ((iZ hs[k].org:Nat):Int):=.inr ⟨k,rfl,hlt,rfl⟩;have hlb:(aK ((aP hs[k].org).getD [])).length=iZ hs[k].org:=by simp [aK,iZ]
   generalize hHk:hs[k]=H at *;refine_lift DI ?_;intro _ _ _ _ _ _;refine dV (S:=fun w'=>Ext wr w') aR ?_;intro w1 x1 _;refine jI 0 ?_;refine aD ?_;refine jI 1 ?_;refine aD ?_;refine jI 2 ?_;refine aD ?_;refine cU (i:=3) (v:=.pointer (some ⟨bb,oo,none⟩)) rfl rfl aR aR aR rfl x1 (fun w' hF=>by rw [← hep];exact Runs.idxT rfl (hsr.ext hF) hkl aR) (fun _ _ _ h=>h) ?_;refine aD ?_;refine jI 4 ?_;refine aD ?_;refine jI 5 ?_;refine aD ?_;refine cG (i:=6) aR rfl rfl ?_;refine cY (oY n H.org _) fun w2 x2 => ?_;have x02:Ext wr w2:=x1.trans x2;refine aG ⟨x02,?_⟩;cases hu:bO n H.org with
   | false =>
    rw [if_neg (by rintro ⟨h,_⟩;rw [hu] at h;cases h)] at hg;refine jI 7 ?_;refine aD ?_;refine jH 8 ?_;refine aD ?_;refine jH 9 ?_;refine aD ?_;refine jH 10 ?_;refine aD ?_;refine jH 11 ?_;refine aD ?_;refine jH 12 ?_;refine aD ?_;refine jH 13 ?_;refine aD ?_;refine jH 14 ?_;refine aD ?_;refine jH 15 ?_;refine aD ?_;refine jH 16 ?_;refine aD ?_;refine jH 17 ?_;refine aD ?_;refine jH 18 ?_;refine aD ?_;refine jH 19 ?_;refine aD ?_;refine jH 20 ?_;refine aD ?_;refine jH 21 ?_;refine aD ?_;refine jH 22 ?_;refine aD ?_;refine jH 23 ?_;refine aD ?_;refine jH 24 ?_;refine aD ?_;refine jH 25 ?_;refine aD ?_;refine jH 26 ?_;refine aD ?_;refine jI 27 ?_;refine aD ?_;refine dR aR ?_;have hx2:=hx.trans x02;refine_lift aX ?_;exact ⟨⟨k + 1,b,most,aE,by go_num,rfl,hM,hx2,hg⟩,by simp [intOf];omega⟩
   | true =>
    rcases hM with ⟨rfl,rfl⟩ | ⟨j,rfl,hj,rfl⟩
    ·rw [if_pos ⟨hu,aE⟩] at hg;refine jI 7 ?_;refine aD ?_;refine jI 8 ?_;refine aD ?_;refine jI 9 ?_;refine aD ?_;rw [show decide (Ay none < 0)=true from rfl];refine jI 10 ?_;refine aD ?_;refine jH 11 ?_;refine aD ?_;refine jH 12 ?_;refine aD ?_;refine jH 13 ?_;refine aD ?_;refine jH 14 ?_;refine aD ?_;refine jH 15 ?_;refine aD ?_;refine jH 16 ?_;refine aD ?_;refine jH 17 ?_;refine aD ?_;refine jH 18 ?_;refine aD ?_;refine jH 19 ?_;refine aD ?_;refine jH 20 ?_;refine aD ?_;refine jH 21 ?_;refine aD ?_;refine jH 22 ?_;refine aD ?_;refine jH 23 ?_;refine aD ?_;refine jH 24 ?_;refine aD ?_;refine jH 25 ?_;refine aD ?_;refine jI 26 ?_;refine aD ?_;refine jI 27 ?_;refine aD ?_;refine dR aR ?_;have hx2:=hx.trans x02;refine_lift aX ?_;exact ⟨⟨k + 1,some k,_,aE,by go_num,rfl,hMk,hx2,hg⟩,by simp [intOf];omega⟩
    ·obtain ⟨y,hcj,hsy⟩:=hrow j _ (List.getElem?_eq_getElem hj);have hej:=hsr.elem hcj;obtain ⟨cb,co,hep2,-⟩:=hej.out;rw [hep2] at hej;have hjl:j < css.length:=aE;have hlj:=HL hs[j].org;have hlb2:(aK ((aP hs[j].org).getD [])).length=iZ hs[j].org:=by simp [aK,iZ]
     have hMj:Bw hs (some j) ((iZ hs[j].org:Nat):Int):=.inr ⟨j,rfl,hj,rfl⟩;generalize hHj:hs[j]=G at *;refine jI 7 ?_;refine aD ?_;refine jI 8 ?_;refine aD ?_;refine jI 9 ?_;refine aD ?_;rw [show decide (Ay (some j) < 0)=false by rw [decide_eq_false];show ¬ ((j:Nat):Int) < 0;omega];refine jI 10 ?_;refine aD ?_;refine jI 11 ?_;refine aD ?_;refine jI 12 ?_;refine aD ?_;refine cU (i:=13) (v:=.pointer (some ⟨bb,oo,none⟩)) rfl rfl aR aR aR rfl x02 (fun w' hF=>by rw [← hep];exact Runs.idxT rfl (hsr.ext hF) hkl aR) (fun _ _ _ h=>h) ?_;refine aD ?_;refine jI 14 ?_;refine aD ?_;refine jI 15 ?_;refine aD ?_;refine jI 18 ?_;refine aD ?_;refine jI 19 ?_;refine aD ?_;refine cU (i:=20) (v:=.pointer (some ⟨cb,co,none⟩)) rfl rfl aR aR aR rfl x02 (fun w' hF=>by rw [← hep2];exact Runs.idxT rfl (hsr.ext hF) hjl aR) (fun _ _ _ h=>h) ?_;refine aD ?_;refine jI 21 ?_;refine aD ?_;refine jI 22 ?_;refine aD ?_;refine cG (i:=16) aR rfl rfl ?_;refine EF (mT H.org _) fun v3 w3 x3 o3 => ?_;have x03:Ext wr w3:=x02.trans x3;have hs3:=o3.sl;refine aG ⟨x03,?_⟩;refine cU (i:=17) (v:=.int .i64 ((iZ H.org:Nat):Int)) rfl rfl aR aR aR rfl x03 (fun w' hF=>by rw [← hlb];exact Runs.lenW hs3 aR) (fun _ _ _ h=>h) ?_;refine aD ?_;refine cG (i:=23) aR rfl rfl ?_;refine EF (mT G.org _) fun v4 w4 x4 o4 => ?_;have x04:Ext wr w4:=x03.trans x4;have hs4:=o4.sl;refine aG ⟨x04,?_⟩;refine cU (i:=24) (v:=.int .i64 ((iZ G.org:Nat):Int)) rfl rfl aR aR aR rfl x04 (fun w' hF=>by rw [← hlb2];exact Runs.lenW hs4 aR) (fun _ _ _ h=>h) ?_;refine aD ?_;refine jI 25 ?_;refine aD ?_;refine jI 26 ?_;refine aD ?_;refine jI 27 ?_;refine aD ?_;refine dR aR ?_;have hx4:=hx.trans x04;by_cases hc:((iZ G.org:Nat):Int) < ((iZ H.org:Nat):Int)
     ·rw [if_pos ⟨hu,hc⟩] at hg;refine_lift jS fun _ => ?_
      all_goals first
       | (have hh:False:=aE
          exact hh.elim)
       | skip
      exact ⟨⟨k + 1,some k,_,aE,by go_num,rfl,hMk,hx4,hg⟩,by simp [intOf];omega⟩
     ·rw [if_neg (fun h=>hc h.2)] at hg;refine_lift jS fun _ => ?_
      all_goals first
       | (have hh:False:=aE
          exact hh.elim)
       | skip
      exact ⟨⟨k + 1,some j,_,aE,by go_num,rfl,hMj,hx4,hg⟩,by simp [intOf];omega⟩
  ·have hk2:k=hs.length:=aE;subst hk2;rw [List.drop_length] at hg;unfold yA at hg;refine_lift jS fun _ => ?_;go_ret;rw [← hg];exact ⟨rfl,hx⟩
theorem QJ (o:List UInt8) (v:Value) (l:List RSet) (w:World) (hv:SetsAt w v l) (hz:ZoneOk o l):Calls Tryz.prog 99 #[.agg #[aI o,v]] w (bC w (.tuple #[oM (eG o l), .int .i64 0])):=by
 have hb:=pH hz;have hd:=gN hz;have hzr:=nL hz;obtain ⟨s,hf,hs,hn,hk,hdat,hpar,hlen⟩:=hz.soaSet;have hden:eG o l=⟨o,6,min s.ttl (eK o l).minimum,jV o l⟩:=by rw [eG,hf];rfl
 go_enter Tryz.func99,Tryz.ntmps99
 refine_lift mS fun _ _ => ?_;refine kN (vs:=[aI o,v]) fun p w1 x1 hp => ?_;refine aD ?_;refine fO (z:=PM) fun w2 x2 s2 h2 => ?_;refine aD ?_;have hx2:=x1.trans x2;have hp2:=hp.ext x2;have hv2:=hv.ext hx2;refine_lift cC fun _ _ => ?_;refine cY (YH o v l _ hv2 hb hd) fun w3 x3 => ?_;have h3:=x3.at h2;have hp3:=hp2.ext x3;have hv3:=hv2.ext x3;rw [hzr];refine_lift aX ?_;refine fO (z:=bD) fun w4 x4 s4 h4 => ?_;refine aD ?_;refine dS (v:=.agg (eK o l).cells.toArray) h4 (oZ _) fun w5 p5 => ?_;have x5:=cH x4 p5;have h5:=x5.at h3;have hs5:=aA (cs:=(eK o l).cells) p5.this;have hp5:=hp3.ext x5;have hv5:=hv3.ext x5;have hx5:=hx2.trans (x3.trans x5);clear p5 h4 x4;refine_lift cC fun _ _ => ?_;refine gE (pY v l o 6 _ hv5 hb) fun r6 w6 x6 hr6 => ?_;rw [hf] at hr6;obtain ⟨y,rfl,oy⟩:=hr6;have h6:=x6.at h5;have hs6:=hs5.ext x6;refine_lift aX ?_;refine fO (z:=iP) fun w7 x7 s7 h7 => ?_;refine aD ?_;refine dS (v:=.agg #[aI s.name, .int .i64 s.kind, .int .i64 s.ttl,y]) h7 (fI rfl rfl rfl oy.one) fun w8 p8 => ?_;have x8:=cH x7 p8;have b8:w8.heap[w6.heap.size]? = some (.cells [aI s.name, .int .i64 s.kind, .int .i64 s.ttl,y].toArray 117 (0,0)):=p8.this;have hp8:=aA b8;have h8:=x8.at h6;have hs8:=hs6.ext x8;have hy8:=oy.sl.ext x8;have hx8:=hx5.trans (x6.trans x8);have hpz:=(hp5.ext x6).ext x8;clear p8 h7 x7 hp hp2 hp3 hp5 hs5 hs6;rw [hdat] at hy8;have hyl:(aK [jV o l]).length=1:=rfl;have hye:=hy8.elem (i:=0) (e:=[aI (jV o l)]) rfl;have hsm:∀ b,Pts w8 b (eK o l).cells→Pts w8 b [aI (eK o l).main,aI (eK o l).mail, .int .i64 (eK o l).serial, .int .i64 (eK o l).refresh, .int .i64 (eK o l).retry, .int .i64 (eK o l).expire, .int .i64 (eK o l).minimum]:=fun b h=>h;have hs8:=hsm _ hs8;clear hsm;refine_lift cC fun _ _ => ?_;refine bE 12 (Ext w8) aR ?_;intro w9 x9 _;refine ⟨x9,?_⟩;refine cI 0 ?_;refine cI 1 ?_;refine cI 2 ?_;refine cI 3 ?_;refine cI 4 ?_;refine cI 5 ?_;refine cI 6 ?_;refine cI 7 ?_;refine cI 8 ?_;refine cI 9 ?_;refine cI 10 ?_;refine ZN 11 (v:=oM (eG o l)) rfl (fun _=>Runs.build rfl (by rw [hden];kernel_rfl)) ?_;refine aD ?_;refine fR 12 ?_;have h9:=x9.at h8;refine dS (v:=oM (eG o l)) h9 (fI rfl rfl rfl rfl) fun w10 p10 => ?_;have x10:=cH (hx8.trans x9) p10;refine aG ⟨bF rfl,?_⟩;refine zU 13 ?_;refine qR ?_;refine_lift aX ?_;refine nH (cs:=[aI (eG o l).name, .int .i64 (eG o l).kind, .int .i64 (eG o l).ttl,aI (eG o l).data]) p10.this ⟨rfl,x10⟩
theorem XQ (o:List UInt8) (v:Value) (l:List RSet) (n a:List UInt8) (w:World) (hv:SetsAt w v l) (hl:l.length≤100000) (hb:∀ s ∈ l,s.data.length≤1000000) :
 Calls Tryz.prog 104 #[.agg #[aI o,v],aI n,aI a] w (oQ w fun r w'=>SetsV w.heap.size w' r (FG l n a)):=by
 obtain ⟨cv,hv1,hvl⟩:=hv.sl;go_enter Tryz.func104,Tryz.ntmps104
 refine_lift DF ?_;intro _ _ _;refine zV (vs:=[aI o,v]) fun w1 x1 s1 hb1 => ?_;refine aD ?_;have hp:=aA (cs:=[aI o,v]) hb1;refine_lift cC fun _ _ => ?_;go_loopw [7,8,9] (fun r iv _ wr=>∃ (k:Nat) (css:List (List Value)),k≤l.length∧iv=.int .i64 k∧Ext w wr∧wr.heap[w.heap.size]? = some (.cells [aI o,v].toArray 35 (0,0))∧Own w.heap.size 4 117 wr r css∧SetsW w.heap.size wr css (FG (l.take k) n a)) (fun _ iv _ _=>l.length - (intOf iv).toNat)
 case atStart=>exact ⟨0,[],Nat.zero_le _,rfl,x1,hb1,Own.nil _ _ _ _,SetsW.nil _ _⟩
 case round =>
  obtain ⟨k,css,hk,rfl,hxr,hbr,ho,hc⟩:=hrel;have hvr:=hv1.ext hxr;have hpr:=aA (cs:=[aI o,v]) hbr;by_cases hlt:k < l.length
  ·obtain ⟨x,h4,h4d⟩:=(hv.ext hxr).elem (List.getElem?_eq_getElem hlt);have hst:=NO (n:=n) (a:=a) hlt;have hcl:=hc.len;have hal:=MI (l.take k) n a;rw [List.length_take] at hal;have hbk:=hb _ (List.getElem_mem hlt);by_cases hm:l[k].name=n
   ·rw [if_pos hm] at hst;refine_lift Bc ?_;intro _ _ _ _ _ _ _
    all_goals first
     | (exact absurd hm (by assumption))
     | skip
    refine gE (NK l[k] x _ h4d hbk) ?_;rintro _ w2 x2 ⟨y,rfl,oy⟩;refine aD ?_;refine fO (z:=iP) fun w3 x3 s3 h3 => ?_;refine aD ?_;refine dS (v:=.agg #[aI l[k].name, .int .i64 l[k].kind, .int .i64 l[k].ttl,y]) h3 (fI rfl rfl rfl oy.one) fun w4 p4 => ?_;have b4:w4.heap[w2.heap.size]? = some (.cells [aI l[k].name, .int .i64 l[k].kind, .int .i64 l[k].ttl,y].toArray 117 (0,0)):=p4.this;have x24:=cH x3 p4;refine_lift cC fun _ _ => ?_;refine eS 0 (aI a) b4 rfl fun w5 p5 => ?_;have x25:=cH x24 p5;have hpb:Pts w5 (.pointer (some ⟨w2.heap.size,0,none⟩)) [aI a, .int .i64 l[k].kind, .int .i64 l[k].ttl,y]:=aA p5.this;have xr5:=x2.trans x25;have oy5:=oy.ext x25;have ho5:=ho.ext xr5;have hc5:=hc.ext xr5;clear p4 p5 b4 h3 x3 x24;refine_lift aX ?_;refine nG (e:=117) (k:=4) (bytes:=56) (xs:=[.agg #[aI a, .int .i64 l[k].kind, .int .i64 l[k].ttl,y]]) (by simp [Value.cells]) fun v6 w6 x6 _ sl6 _ => ?_;refine aD ?_;have oy6:=oy5.ext x6;refine aZ (e:=117) (k:=4) (fs:=[[aI a, .int .i64 l[k].kind, .int .i64 l[k].ttl,y]]) rfl (ho5.ext x6) rfl sl6 (by intro f hf u hu;simp only [List.mem_singleton] at hf;subst hf;simp only [List.mem_cons,List.not_mem_nil,or_false] at hu;rcases hu with rfl | rfl | rfl | rfl <;> first | rfl | exact oy6.one) (hxr.trans (xr5.trans x6)).size (by simp;omega) ?_;intro v7 w7 o7 m7 _;refine aD ?_;have hx7:=(ho5.ext x6).mvx m7 (hxr.trans (xr5.trans x6)) (Nat.le_refl _);refine_lift aX ?_;have hb7:=m7.at ((xr5.trans x6).at hbr) (fun e9=>((ho5.ext x6).neBlock ((xr5.trans x6).at hbr) bG) e9.symm);have hc7:=(hc5.ext x6).mv (ho5.ext x6) bG m7;have oy7:Own w.heap.size 1 9 w7 y (aK l[k].data):=(oy6.mv m7 (oy6.ne (ho5.ext x6) bG)).weaken hxr.size;exact ⟨⟨k + 1,_,aE,by go_num,hx7,hb7,o7,by rw [hst];exact hc7.append (SetsW.one (s:=⟨a,l[k].kind,l[k].ttl,l[k].data⟩) oy7)⟩,by simp [intOf];omega⟩
   ·rw [if_neg hm,List.append_nil] at hst;refine_lift cC fun _ _ => ?_
    all_goals first
     | (exact absurd (by assumption) hm)
     | skip
    exact ⟨⟨k + 1,css,aE,by go_num,hxr,hbr,ho,by rw [hst];exact hc⟩,by simp [intOf];omega⟩
  ·have:k=l.length:=aE;subst this;rw [List.take_length] at hc;refine_lift jS fun _ => ?_;go_ret;exact ⟨_,rfl,hxr,_,ho,hc⟩
theorem KZ {l:List RSet} {a b:List UInt8} (h:dI a=dI b):qE l a=qE l b:=by
 unfold qE bO;rw [h]
theorem MY {t:List (List UInt8)} (hf:aP (enc (x :: t))=some (x :: t)) (ht:aP (enc t)=some t) (h:bO (enc (x :: t)) o=true) (hne:dI o≠dI (enc (x :: t))):bO (enc t) o=true:=by
 obtain ⟨a,b,ha,hb,e⟩:=jA h;have h1:dI (enc (x :: t))=some (mJ (x :: t)):=by rw [gW,hf];rfl
 have h2:dI (enc t)=some (mJ t):=by rw [gW,ht];rfl
 rw [h1] at ha;obtain rfl:=Option.some.inj ha;have hr:mJ (x :: t)=mJ t ++ [low x]:=by simp [mJ]
 rw [mV h2 hb,decide_eq_true_eq];have hl:=sA e;have hne2:b≠mJ (x :: t):=fun e2=>hne (by rw [hb,h1,e2]);by_cases hc:b.length≤(mJ t).length
 ·rw [hr,List.take_append_of_le_length hc] at e;exact e
 ·exfalso
  apply hne2;have h3:(mJ (x :: t)).length=(mJ t).length + 1:=by rw [hr];simp
  rw [← e];exact List.take_of_length_le aE
theorem CS {l:List RSet} (h:bO n o=true):pX o l n=qE l n:=by
 unfold pX qE;rw [h,Bool.true_and]
theorem WR (o:List UInt8) (v:Value) (l:List RSet) (n:List UInt8) (w:World) (hv:SetsAt w v l) (hz:ZoneOk o l) (hu:bO n o=true) :
 Calls Tryz.prog 106 #[.agg #[aI o,v],aI n] w (bC w (aI (qU l n))):=by
 obtain ⟨hn,-⟩:=mM hu;obtain ⟨ls0,hls0⟩:=Option.isSome_iff_exists.1 hn;obtain ⟨f1,f2,f3⟩:=dO hls0;have hoi:qE l o=true:=by rw [← CS (pZ (mM hu).2)];exact hz.origin
 go_enter Tryz.func106,Tryz.ntmps106
 refine_lift mS fun _ _ => ?_;refine kN (vs:=[aI o,v]) fun p w1 x1 hp => ?_;refine aD ?_;refine_lift cC fun _ _ => ?_;go_loopw [1] (fun nv wr=>∃ ls:List (List UInt8),nv=aI (enc ls)∧Ext w1 wr∧ls.all jD=true∧(enc ls).length≤254∧kX l ls=kX l ls0∧bO (enc ls) o=true) (fun nv _=>tT nv)
 case atStart=>exact ⟨ls0,by rw [f2],Ext.refl _,f1,by rw [f2];exact f3,rfl,by rw [f2];exact hu⟩
 case round =>
  obtain ⟨ls,rfl,hx,g1,g2,g3,g4⟩:=hrel;have hpr:=hp.ext hx;have hxr:=x1.trans hx;refine_lift QV ?_;intro _ _ _ _ _;refine cY (KW o v l (enc ls) _ (hv.ext hxr)) fun w4 x4 => ?_;rw [CS g4];have hx4:=hx.trans x4;cases hi4:qE l (enc ls) with
  | false =>
   cases ls with
   | nil=>rw [show enc []=[] from rfl,FI hz] at hi4;cases hi4
   | cons x t =>
    have g1t:t.all jD=true:=by simp at g1;simp;exact g1.2
    have ht:=KD x t;have lt:=jU g1t aE;have gu:=MY (jU g1 g2) lt g4 (fun e9=>by rw [← KZ e9,hoi] at hi4;cases hi4);refine_lift aX ?_;refine cY (QF _ (jU g1 g2)) fun w5 x5 => ?_;refine_lift aX ?_;exact ⟨⟨t,rfl,hx4.trans x5,g1t,aE,by rw [← g3,KC hi4],gu⟩,by simp [mZ];omega⟩
  | true =>
   have hab:kX l ls=ls:=BZ hi4;rw [hab] at g3;refine_lift cC fun _ _ => ?_;refine nG (e:=9) (k:=1) (bytes:=16) (xs:=[aI [42]]) (by simp [aI,Value.cells]) fun v5 w5 x5 _ sl5 o5 => ?_;refine aD ?_;refine_lift aX ?_;refine gE (mT (enc ls) _) fun v6 w6 x6 o6 => ?_;rw [jU g1 g2] at o6;refine aD ?_;have o5':=(show Own _ 1 9 w5 v5 (aK [[42]]) from o5).ext x6;have hlen:ls.length≤254:=by have:=gM ls;omega
   refine aZ (e:=9) (k:=1) rfl o5' rfl o6.sl sI (Nat.le_trans x5.size x6.size) (by simp [aK];omega) ?_;intro v7 w7 o7 m7 _;refine aD ?_;have x7:=o5'.mvx m7 (x5.trans x6) (Nat.le_refl _);have hst:qU l n=(kO ([42] :: ls)).getD []:=by rw [qU,hls0,Option.getD_some,← g3]
   have hx7:=x1.trans (hx4.trans x7);refine_lift aX ?_;obtain ⟨e8,c8⟩:∃ e:Int,Calls Tryz.prog 95 #[v7] w7 (bC w7 (.tuple #[aI (qU l n), .int .i64 e])):=by
    have h:=zW v7 ([42] :: ls) w7 o7.sl;rw [hst];cases hj:kO ([42] :: ls) with
    | none=>rw [hj] at h;exact ⟨1,h⟩
    | some m=>rw [hj] at h;exact ⟨0,h⟩
   refine cY c8 fun w8 x8 => ?_;refine_lift aX ?_;go_ret;exact ⟨rfl,hx7.trans x8⟩
theorem zJ {l:List RSet} (rs:List Rec):∀ k,k≤rs.length→(fK l (rs.take k)).1.length≤k
 | 0,_=>by simp [fK]
 | k + 1,h=>by
   rw [qF h];have ih:=zJ (l:=l) rs k aE;unfold gX;split
   ·omega
   ·simp;omega
theorem yH {s:RSet} {y:Value} (h:Sl 1 w y (aK s.data)) (hv:Sl 4 w v [[aI s.name, .int .i64 s.kind, .int .i64 s.ttl,y]]):SetsAt w v [s]:=(SetsC.one h).sets hv
theorem LA (o:List UInt8) (v u:Value) (l:List RSet) (rs:List Rec) (w:World) (hv:SetsAt w v l) (hu:Sl 4 w u (aJ rs)) (hz:ZoneOk o l) (hr:rs.length≤10000) (hd:∀ r ∈ rs,r.data.length≤4611686018427387904) (hh:∀ r ∈ rs,qV r.kind=true→(aQ r.kind r.data).2=0) :
 Calls Tryz.prog 158 #[.agg #[aI o,v],u] w (oQ w fun r w'=>Own w.heap.size 4 67 w' r (aJ (xU l rs))):=by
 have hb20:∀ s ∈ l,s.data.length≤20:=fun s hs=>(nO (hz.may hs)).2;have hbd:=pH hz;have hle:=aN rs;go_enter Tryz.func158,Tryz.ntmps158
 refine_lift DF ?_;intro _ _ _;refine zV (vs:=[aI o,v]) fun w1 x1 s1 hb1 => ?_;refine aD ?_;refine_lift cC fun _ _ => ?_;go_loopw [5,6,7,8,9,10,11,12,13,14,15] (fun out nm iv _ _ _ _ _ _ _ _ wr=>∃ k:Nat,k≤rs.length∧iv=.int .i64 k∧Ext w wr∧wr.heap[w.heap.size]? = some (.cells [aI o,v].toArray 35 (0,0))∧Own w.heap.size 1 32 wr nm (aK (fK l (rs.take k)).1)∧Own w.heap.size 4 67 wr out (aJ (fK l (rs.take k)).2)) (fun _ _ iv _ _ _ _ _ _ _ _ _=>rs.length - (intOf iv).toNat)
 case atStart=>exact ⟨0,Nat.zero_le _,rfl,x1,hb1,Own.nil _ _ _ _,Own.nil _ _ _ _⟩
 case round =>
  obtain ⟨k,hk,rfl,hx,hbx,hN,hO⟩:=hrel;have hur:=hu.ext hx;by_cases hlt:k < rs.length
  ·have h4:=hur.elem (iH hlt);have hst:=qF (l:=l) hlt;have hdk:=hd _ (List.getElem_mem hlt);have hhk:=hh _ (List.getElem_mem hlt);have hnl:=zJ (l:=l) rs k aE;have hrl:=xV hb20 rs k aE;generalize rs[k]=r at *;generalize fK l (rs.take k)=E at *;generalize hEe:fK l (rs.take (k + 1))=E' at *;cases hK:qV r.kind with
   | false =>
    have hE:E'=E:=by rw [hst];unfold gX;rw [if_pos (.inr (.inl hK))]
    have k1:¬ r.kind=2∧¬ r.kind=15∧¬ r.kind=33:=by
     simp only [qV,Bool.or_eq_false_iff,decide_eq_false_iff_not] at hK;exact ⟨hK.1.1,hK.1.2,hK.2⟩
    obtain ⟨k1,k2,k3⟩:=k1
    (repeat' first | ((with_reducible refine cQ ?_);go_step) | ((with_reducible refine bM ?_);first | refine gR ?_ | (refine cV ?_ ?_ <;> intro hc)) | fail)
    all_goals first
     | exact ⟨⟨k + 1,aE,by go_num,hx,hbx,by rw [hEe,hE];exact hN,by rw [hEe,hE];exact hO⟩,by simp [intOf];omega⟩
     | (have hh:False:=aE
        exact hh.elim)
     | (have hh:False:=by (have h9:=‹(!decide (r.kind=2))=false›;rw [decide_eq_false k1] at h9;cases h9)
        exact hh.elim)
     | (have hh:False:=by (have h9:=‹(!decide (r.kind=15))=false›;rw [decide_eq_false k2] at h9;cases h9)
        exact hh.elim)
     | (have hh:False:=by (have h9:=‹(!decide (r.kind=33))=false›;rw [decide_eq_false k3] at h9;cases h9)
        exact hh.elim)
   | true =>
    have hP:=hhk hK;have hE:E'=if fold (aQ r.kind r.data).1 ∈ E.1 then E else (E.1 ++ [fold (aQ r.kind r.data).1],E.2 ++ fJ (aY l (fold (aQ r.kind r.data).1) 1) ++ fJ (aY l (fold (aQ r.kind r.data).1) 28)):=by
     rw [hst];unfold gX;by_cases hm:fold (aQ r.kind r.data).1 ∈ E.1
     ·rw [if_pos (.inr (.inr hm)),if_pos hm]
     ·rw [if_neg (by rintro (h | h | h);exact h hP;rw [hK] at h;cases h;exact hm h),if_neg hm]
    have hck:=fun w'=>mQ r.kind r.data w' hdk;have hk3:r.kind=2∨r.kind=15∨r.kind=33:=by simpa [qV,or_assoc] using hK
    generalize aQ r.kind r.data=PH at *;obtain ⟨N,hNe⟩:∃ N,fold PH.1=N:=⟨_,rfl⟩;rw [hNe] at hE;rcases hk3 with hk3 | hk3 | hk3
    all_goals (
     (repeat' first | ((with_reducible refine cQ ?_);go_step) | ((with_reducible refine bM ?_);first | refine gR ?_ | (refine cV ?_ ?_ <;> intro hc)) | fail)
     all_goals first
      | (have hh:False:=aE
         exact hh.elim)
      | (have hh:False:=by (have h9:=‹(!decide (r.kind=2))=true›;rw [decide_eq_true hk3] at h9;cases h9)
         exact hh.elim)
      | (have hh:False:=by (have h9:=‹(!decide (r.kind=15))=true›;rw [decide_eq_true hk3] at h9;cases h9)
         exact hh.elim)
      | (have hh:False:=by (have h9:=‹(!decide (r.kind=33))=true›;rw [decide_eq_true hk3] at h9;cases h9)
         exact hh.elim)
      | (have hh:False:=by (have h9:=‹(!decide (r.kind=2))=false›;rw [decide_eq_false aE] at h9;cases h9)
         exact hh.elim)
      | (have hh:False:=by (have h9:=‹(!decide (r.kind=15))=false›;rw [decide_eq_false aE] at h9;cases h9)
         exact hh.elim)
      | skip
     refine bS aR aR ?_;refine_lift oR ?_;refine eJ (enters_of Tryz.func107 rfl rfl) rfl rfl (fun w' x'=>hck w') ?_;refine aD ?_;refine_lift oR ?_;intro w2 x2;have hx2:=hx.trans x2;have hb2:=x2.at hbx;have hN2:=hN.ext x2;have hO2:=hO.ext x2;refine_lift cC fun _ _ => ?_;refine cY (mI PH.1 _) fun w3 x3 => ?_;rw [hNe];have hx3:=hx2.trans x3;have hb3:=x3.at hb2;have hN3:=hN2.ext x3;have hO3:=hO2.ext x3;have hNs:=hN3.sl;have htl:=aV E.1;refine_lift cC fun _ _ => ?_;go_loopw [10,11] (fun sv jv wr=>∃ j:Nat,j≤E.1.length∧jv=.int .i64 j∧sv=.bool (decide (N ∈ E.1.take j))∧Ext w3 wr) (fun _ jv _=>E.1.length - (intOf jv).toNat)
     case atStart=>exact ⟨0,Nat.zero_le _,rfl,bP,Ext.refl _⟩
     case round =>
      obtain ⟨j,hj,rfl,rfl,hy⟩:=hrel;have hNy:=hNs.ext hy;by_cases hjl:j < E.1.length
      ·have h5:=hNy.elem (i:=j) (e:=[aI E.1[j]]) (by rw [aK,List.getElem?_map,List.getElem?_eq_getElem hjl];rfl);have hT:(N ∈ E.1.take (j + 1))↔(N ∈ E.1.take j∨E.1[j]=N):=by
        rw [List.take_succ_eq_append_getElem hjl,List.mem_append,List.mem_singleton];exact ⟨fun h=>h.imp_right Eq.symm,fun h=>h.imp_right Eq.symm⟩
       by_cases hm:N ∈ E.1.take j
       ·rw [decide_eq_true hm];refine_lift jS fun _ => ?_;exact ⟨⟨j + 1,aE,by go_num,by rw [decide_eq_true (hT.2 (.inl hm))],hy⟩,by simp [intOf];omega⟩
       ·rw [decide_eq_false hm];refine_lift jS fun _ => ?_;refine ⟨⟨j + 1,aE,by go_num,?_,hy⟩,by simp [intOf];omega⟩
        congr 1
        exact decide_eq_decide.2 ⟨fun h=>hT.2 (.inr h),fun h=>(hT.1 h).resolve_left hm⟩
      ·have hjE:j=E.1.length:=aE;subst hjE;rw [List.take_length];have hN4:=hN3.ext hy;have hO4:=hO3.ext hy;have hb4:=hy.at hb3;have hx4:=hx3.trans hy;by_cases hm:N ∈ E.1
       ·rw [if_pos hm] at hE;rw [decide_eq_true hm];refine_lift rI fun _ _ _ => ?_;exact ⟨⟨k + 1,aE,by go_num,hx4,hb4,by rw [hEe,hE];exact hN4,by rw [hEe,hE];exact hO4⟩,by simp [intOf];omega⟩
       ·rw [if_neg hm] at hE;rw [decide_eq_false hm];refine_lift rI fun _ _ _ => ?_;refine nG (e:=32) (k:=1) (bytes:=16) (xs:=[aI N]) (by simp [aI,Value.cells]) fun v5 w5 x5 _ sl5 _ => ?_;refine aD ?_;have sl5:Sl 1 w5 v5 (aK [N]):=sl5;have hN5:=hN4.ext x5;have hx5:=hx4.trans x5;refine aZ (e:=32) (k:=1) rfl hN5 rfl sl5 sI hx5.size (by simp [aK];omega) ?_;intro v6 w6 o6 m6 _;refine aD ?_;have hx6:=hN5.mvx m6 hx5 (Nat.le_refl _);have hb6:=m6.at (x5.at hb4) (fun e9=>(hN5.neBlock (x5.at hb4) bG) e9.symm);have hO6:=(hO4.ext x5).mv m6 ((hO4.ext x5).ne hN5 bG);have o6:Own w.heap.size 1 32 w6 v6 (aK (E.1 ++ [N])):=by rw [show aK (E.1 ++ [N])=aK E.1 ++ aK [N] by simp [aK]];exact o6
        have tz6:=aA (cs:=[aI o,v]) hb6;refine_lift cC fun _ _ => ?_;refine gE (pY v l N 1 _ (hv.ext hx6) hbd) fun rz20 w20 x20 hr20 => ?_;obtain ⟨y20,rfl,hy20⟩:=nN hr20;clear hr20;refine aD ?_;refine_lift aX ?_;refine fO (z:=iP) fun w21 x21 s21 h21 => ?_;refine aD ?_;refine dS (v:=.agg #[aI ((aY l N 1).getD bW).name, .int .i64 ((aY l N 1).getD bW).kind, .int .i64 ((aY l N 1).getD bW).ttl,y20]) h21 (fI rfl rfl rfl hy20.one) fun w22 p22 => ?_;have z20:=cH x21 p22;have qz20:=aA (cs:=[aI ((aY l N 1).getD bW).name, .int .i64 ((aY l N 1).getD bW).kind, .int .i64 ((aY l N 1).getD bW).ttl,y20]) p22.this;have uz20:=hy20.ext z20;have ez20:=x20.trans z20;have hx22:=hx6.trans ez20;have hb22:=ez20.at hb6;have hN22:=o6.ext ez20;have hO22:=hO6.ext ez20;have tz20:=aA (cs:=[aI o,v]) hb22;have rl20:=gO hb20 N 1;clear p22 h21 x21;cases hf20:(aY l N 1).isSome with
        | false =>
         have nz20:fJ (aY l N 1)=[]:=by
          cases hff:(aY l N 1) with
          | none=>rfl
          | some s=>rw [hff] at hf20;cases hf20
         refine_lift rI fun _ _ _ => ?_;refine gE (pY v l N 28 _ (hv.ext hx22) hbd) fun rz40 w40 x40 hr40 => ?_;obtain ⟨y40,rfl,hy40⟩:=nN hr40;clear hr40;refine aD ?_;refine_lift aX ?_;refine fO (z:=iP) fun w41 x41 s41 h41 => ?_;refine aD ?_;refine dS (v:=.agg #[aI ((aY l N 28).getD bW).name, .int .i64 ((aY l N 28).getD bW).kind, .int .i64 ((aY l N 28).getD bW).ttl,y40]) h41 (fI rfl rfl rfl hy40.one) fun w42 p42 => ?_;have z40:=cH x41 p42;have qz40:=aA (cs:=[aI ((aY l N 28).getD bW).name, .int .i64 ((aY l N 28).getD bW).kind, .int .i64 ((aY l N 28).getD bW).ttl,y40]) p42.this;have uz40:=hy40.ext z40;have ez40:=x40.trans z40;have hx42:=hx22.trans ez40;have hb42:=ez40.at hb22;have hN42:=hN22.ext ez40;have hO42:=hO22.ext ez40;have tz40:=aA (cs:=[aI o,v]) hb42;have rl40:=gO hb20 N 28;clear p42 h41 x41;cases hf40:(aY l N 28).isSome with
         | false =>
          have nz40:fJ (aY l N 28)=[]:=by
           cases hff:(aY l N 28) with
           | none=>rfl
           | some s=>rw [hff] at hf40;cases hf40
          refine_lift jS fun _ => ?_;exact ⟨⟨k + 1,aE,by go_num,hx42,hb42,by rw [hEe,hE];exact hN42,by rw [hEe,hE];simp only [nz20,nz40,List.append_nil];exact hO42⟩,by simp [intOf];omega⟩
         | true =>
          refine_lift jS fun _ => ?_;refine nG (e:=117) (k:=4) (bytes:=56) (xs:=[.agg #[aI ((aY l N 28).getD bW).name, .int .i64 ((aY l N 28).getD bW).kind, .int .i64 ((aY l N 28).getD bW).ttl,y40]]) (by simp [Value.cells]) fun v43 w43 x43 _ sl43 _ => ?_;refine aD ?_;have dz43:SetsAt w43 v43 [(aY l N 28).getD bW]:=yH (uz40.ext x43) sl43;refine_lift aX ?_;refine gE (gQ v43 _ _ dz43 (by rw [← eZ];omega)) fun rz44 w44 x44 o44 => ?_;rw [← eZ] at o44;refine aD ?_;have z44:=x43.trans x44;have hO44:=hO42.ext z44;have hx44:=hx42.trans z44;refine aZ (e:=67) (k:=4) rfl hO44 rfl o44.sl dP hx44.size (by rw [aN,aN];(try rw [List.length_append]);omega) ?_;intro v45 w45 o45 m45 _;refine aD ?_;have hx45:=hO44.mvx m45 hx44 (Nat.le_refl _);have hb45:=m45.at (z44.at hb42) (fun e9=>(hO44.neBlock (z44.at hb42) bG) e9.symm);have hN45:=(hN42.ext z44).mv m45 ((hN42.ext z44).ne hO44 bG);have tz45:=aA (cs:=[aI o,v]) hb45;rw [← uP] at o45;clear tz40 qz40;refine_lift aX ?_;exact ⟨⟨k + 1,aE,by go_num,hx45,hb45,by rw [hEe,hE];exact hN45,by rw [hEe,hE];simp only [nz20,List.append_nil];exact o45⟩,by simp [intOf];omega⟩
        | true =>
         refine_lift rI fun _ _ _ => ?_;refine nG (e:=117) (k:=4) (bytes:=56) (xs:=[.agg #[aI ((aY l N 1).getD bW).name, .int .i64 ((aY l N 1).getD bW).kind, .int .i64 ((aY l N 1).getD bW).ttl,y20]]) (by simp [Value.cells]) fun v23 w23 x23 _ sl23 _ => ?_;refine aD ?_;have dz23:SetsAt w23 v23 [(aY l N 1).getD bW]:=yH (uz20.ext x23) sl23;refine_lift aX ?_;refine gE (gQ v23 _ _ dz23 (by rw [← eZ];omega)) fun rz24 w24 x24 o24 => ?_;rw [← eZ] at o24;refine aD ?_;have z24:=x23.trans x24;have hO24:=hO22.ext z24;have hx24:=hx22.trans z24;refine aZ (e:=67) (k:=4) rfl hO24 rfl o24.sl dP hx24.size (by rw [aN,aN];(try rw [List.length_append]);omega) ?_;intro v25 w25 o25 m25 _;refine aD ?_;have hx25:=hO24.mvx m25 hx24 (Nat.le_refl _);have hb25:=m25.at (z24.at hb22) (fun e9=>(hO24.neBlock (z24.at hb22) bG) e9.symm);have hN25:=(hN22.ext z24).mv m25 ((hN22.ext z24).ne hO24 bG);have tz25:=aA (cs:=[aI o,v]) hb25;rw [← uP] at o25;clear tz20 qz20;refine_lift cC fun _ _ => ?_;refine gE (pY v l N 28 _ (hv.ext hx25) hbd) fun rz40 w40 x40 hr40 => ?_;obtain ⟨y40,rfl,hy40⟩:=nN hr40;clear hr40;refine aD ?_;refine_lift aX ?_;refine fO (z:=iP) fun w41 x41 s41 h41 => ?_;refine aD ?_;refine dS (v:=.agg #[aI ((aY l N 28).getD bW).name, .int .i64 ((aY l N 28).getD bW).kind, .int .i64 ((aY l N 28).getD bW).ttl,y40]) h41 (fI rfl rfl rfl hy40.one) fun w42 p42 => ?_;have z40:=cH x41 p42;have qz40:=aA (cs:=[aI ((aY l N 28).getD bW).name, .int .i64 ((aY l N 28).getD bW).kind, .int .i64 ((aY l N 28).getD bW).ttl,y40]) p42.this;have uz40:=hy40.ext z40;have ez40:=x40.trans z40;have hx42:=hx25.trans ez40;have hb42:=ez40.at hb25;have hN42:=hN25.ext ez40;have hO42:=o25.ext ez40;have tz40:=aA (cs:=[aI o,v]) hb42;have rl40:=gO hb20 N 28;clear p42 h41 x41;cases hf40:(aY l N 28).isSome with
         | false =>
          have nz40:fJ (aY l N 28)=[]:=by
           cases hff:(aY l N 28) with
           | none=>rfl
           | some s=>rw [hff] at hf40;cases hf40
          refine_lift jS fun _ => ?_;exact ⟨⟨k + 1,aE,by go_num,hx42,hb42,by rw [hEe,hE];exact hN42,by rw [hEe,hE];simp only [nz40,List.append_nil];exact hO42⟩,by simp [intOf];omega⟩
         | true =>
          refine_lift jS fun _ => ?_;refine nG (e:=117) (k:=4) (bytes:=56) (xs:=[.agg #[aI ((aY l N 28).getD bW).name, .int .i64 ((aY l N 28).getD bW).kind, .int .i64 ((aY l N 28).getD bW).ttl,y40]]) (by simp [Value.cells]) fun v43 w43 x43 _ sl43 _ => ?_;refine aD ?_;have dz43:SetsAt w43 v43 [(aY l N 28).getD bW]:=yH (uz40.ext x43) sl43;refine_lift aX ?_;refine gE (gQ v43 _ _ dz43 (by rw [← eZ];omega)) fun rz44 w44 x44 o44 => ?_;rw [← eZ] at o44;refine aD ?_;have z44:=x43.trans x44;have hO44:=hO42.ext z44;have hx44:=hx42.trans z44;refine aZ (e:=67) (k:=4) rfl hO44 rfl o44.sl dP hx44.size (by rw [aN,aN];(try rw [List.length_append]);omega) ?_;intro v45 w45 o45 m45 _;refine aD ?_;have hx45:=hO44.mvx m45 hx44 (Nat.le_refl _);have hb45:=m45.at (z44.at hb42) (fun e9=>(hO44.neBlock (z44.at hb42) bG) e9.symm);have hN45:=(hN42.ext z44).mv m45 ((hN42.ext z44).ne hO44 bG);have tz45:=aA (cs:=[aI o,v]) hb45;rw [← uP] at o45;clear tz40 qz40;refine_lift aX ?_;exact ⟨⟨k + 1,aE,by go_num,hx45,hb45,by rw [hEe,hE];exact hN45,by rw [hEe,hE];exact o45⟩,by simp [intOf];omega⟩)
  ·have:k=rs.length:=aE;subst this;rw [List.take_length] at hO;refine_lift jS fun _ => ?_;go_ret;exact ⟨_,rfl,hx,hO⟩
def pK (k:Int) (A U:List Rec):List Rec:=A ++ if k=3 then U else []
theorem zK {l:List RSet} (hz:ZoneOk o l) {s:RSet} (hs:s ∈ FG l m n) (h5:s.kind=5):FG l m n=[s]:=by
 obtain ⟨t,ht,hn,he⟩:=GX hs;have hk:t.kind=5:=by rw [he] at h5;exact h5
 have hr:=hz.right t ht;have hcl:l.any (nK t)=false:=by
  unfold eM at hr;cases hc:l.any (nK t) with
  | false=>rfl
  | true=>rw [hc,hk] at hr;simp at hr
 have hall:∀ u ∈ l,u.name=m→u.kind=5:=fun u hu hum=>by
  have:=(List.any_eq_false.1 hcl) u hu;simp [nK,hum,hn] at this;exact this
 have hf:l.filter (fun u=>decide (u.name=m))=[t]:=by
  refine BY ht (by simp [hn]) ?_;refine (JZ hz.chk).imp_of_mem ?_;intro a b ha hb hab hh;simp only [decide_eq_true_eq] at hh;exact hab ⟨hh.1.trans hh.2.symm,(hall a ha hh.1).trans (hall b hb hh.2).symm⟩
 unfold FG;rw [hf,he];rfl
theorem HV {l:List RSet} (hz:ZoneOk o l) {s:RSet} (hs:s ∈ aW l n) (h5:s.kind=5):aW l n=[s]:=by
 unfold aW at *;by_cases hi:qE l n=true
 ·rw [if_pos hi] at *;exact zK hz hs h5
 ·rw [if_neg hi] at *;exact zK hz hs h5
theorem CT {l:List RSet} (hz:ZoneOk o l) (h:(aW l n).any fH=true):aW l n=[bB l n]∧(bB l n).kind=5:=by
 obtain ⟨h1,h2,_⟩:=pF h;exact ⟨HV hz h1 h2,h2⟩
theorem oP (o:List UInt8) (v:Value) (l:List RSet) (k:Int) (A U:List Rec) (u1 u2:Value) (w:World) (hv:SetsAt w v l) (h1:Sl 4 w u1 (aJ A)) (h2:Sl 4 w u2 (aJ U)) (hz:ZoneOk o l) (hA:A.length≤4500) (hU:U.length≤4500) (hd:∀ r ∈ pK k A U,r.data.length≤4611686018427387904) (hh:∀ r ∈ pK k A U,qV r.kind=true→(aQ r.kind r.data).2=0) :
 Calls Tryz.prog 100 #[.agg #[aI o,v], .agg #[.int .i64 k,u1,u2, .slice none 0 0]] w (oQ w fun r w'=>∃ y,r=.tuple #[.agg #[.int .i64 k,u1,u2,y], .int .i64 0]∧Own w.heap.size 4 67 w' y (aJ (xU l (pK k A U)))):=by
 go_enter Tryz.func100,Tryz.ntmps100
 refine_lift DF ?_;intro _ _ _;refine kN (vs:=[aI o,v]) fun p w1 x1 hp => ?_;refine aD ?_;refine zV (vs:=[.int .i64 k,u1,u2, .slice none 0 0]) fun w2 x2 s2 b2 => ?_;refine aD ?_;refine fO (z:=mO) fun w3 x3 s3 b3 => ?_;refine aD ?_;have hx3:=x1.trans (x2.trans x3);have hp3:=hp.ext (x2.trans x3);have hb3:=x3.at b2;have hv3:=hv.ext hx3;have h13:=h1.ext hx3;have h23:=h2.ext hx3;have hb3p:=aA (cs:=[.int .i64 k,u1,u2, .slice none 0 0]) hb3;have z2:w.heap.size≤w1.heap.size:=x1.size;refine_lift rT (fun _ _ _ => ?_) (fun _ _ _ => ?_)
 ·have hk3:k=3:=by assumption
  have hT:aJ A ++ aJ U=aJ (pK k A U):=by rw [pK,if_pos hk3];simp [aJ]
  refine bE 5 (Ext w3) aR ?_;intro w4 x4 _;refine ⟨x4,?_⟩;refine cI 0 ?_;refine cI 1 ?_;refine cI 3 ?_;refine cI 4 ?_;refine fR 2 ?_;refine aZ (B:=w3.heap.size) (e:=67) (k:=4) rfl (Own.nil _ _ _ _) rfl (h13.ext x4) dP x4.size (by rw [aN];simp;omega) ?_;intro v5 w5 o5 m5 _;refine aD ?_;have x5:Ext w3 w5:=(Own.nil w3.heap.size 4 67 w4).mvx m5 x4 (Nat.le_refl _);refine aG ⟨bJ x5,?_⟩;refine fR 5 ?_;refine aZ (B:=w3.heap.size) (e:=67) (k:=4) rfl o5 rfl (h23.ext x5) dP x5.size (by simp [aN];omega) ?_;intro v6 w6 o6 m6 _;refine aD ?_;have x6:Ext w3 w6:=o5.mvx m6 x5 (Nat.le_refl _);refine aG ⟨bF rfl,?_⟩;refine zU 6 ?_;refine qR ?_;simp only [List.nil_append] at o6;rw [hT] at o6;have hb6:=x6.at hb3;have hp6:=hp3.ext x6;have os6:=o6.sl;refine_lift cC fun _ _ => ?_;refine EF (LA o v v6 l (pK k A U) _ (hv3.ext x6) os6 hz (by unfold pK;rw [List.length_append];split <;> first | omega | (simp;omega)) hd hh) fun r7 w7 x7 o7 => ?_;have x37:=x6.trans x7;have b7:=x37.at hb3;have c7:=x37.at b3;refine_lift aX ?_;refine eS 3 _ b7 o7.sl.one fun w8 p8 => ?_;have b8:w8.heap[w1.heap.size]? = some (.cells [.int .i64 k,u1,u2,r7].toArray 112 (0,0)):=p8.this;have c8:=p8.at c7 aE;have o8:=cM o7 p8 b7;have x8:=cH (hx3.trans x37) p8;have q8:=aA b8;have s18:=h1.ext x8;have s28:=h2.ext x8;refine_lift cC fun _ _ => ?_;refine dS (v:=.agg #[.int .i64 k,u1,u2,r7]) c8 (fI rfl s18.one s28.one o8.sl.one) fun w9 p9 => ?_;refine_lift aX ?_;refine nH (cs:=[.int .i64 k,u1,u2,r7]) p9.this ⟨_,rfl,x8.move p9.mv (by rintro k ⟨⟩;exact Nat.le_trans z2 x2.size),_,rfl,(cM o8 p9 c8).weaken ?_⟩;have:=x6.size;have:=hx3.size;omega
 ·have hk3:¬ k=3:=by assumption
  have hT:aJ A=aJ (pK k A U):=by rw [pK,if_neg hk3];simp [aJ]
  have os6:=h13;rw [hT] at os6;have x6:=Ext.refl w3;refine_lift aX ?_;refine EF (LA o v u1 l (pK k A U) _ (hv3.ext x6) os6 hz (by unfold pK;rw [List.length_append];split <;> first | omega | (simp;omega)) hd hh) fun r7 w7 x7 o7 => ?_;have x37:=x6.trans x7;have b7:=x37.at hb3;have c7:=x37.at b3;refine_lift aX ?_;refine eS 3 _ b7 o7.sl.one fun w8 p8 => ?_;have b8:w8.heap[w1.heap.size]? = some (.cells [.int .i64 k,u1,u2,r7].toArray 112 (0,0)):=p8.this;have c8:=p8.at c7 aE;have o8:=cM o7 p8 b7;have x8:=cH (hx3.trans x37) p8;have q8:=aA b8;have s18:=h1.ext x8;have s28:=h2.ext x8;refine_lift cC fun _ _ => ?_;refine dS (v:=.agg #[.int .i64 k,u1,u2,r7]) c8 (fI rfl s18.one s28.one o8.sl.one) fun w9 p9 => ?_;refine_lift aX ?_;refine nH (cs:=[.int .i64 k,u1,u2,r7]) p9.this ⟨_,rfl,x8.move p9.mv (by rintro k ⟨⟩;exact Nat.le_trans z2 x2.size),_,rfl,(cM o8 p9 c8).weaken ?_⟩;have:=x6.size;have:=hx3.size;omega
end Go.Proofs.X
