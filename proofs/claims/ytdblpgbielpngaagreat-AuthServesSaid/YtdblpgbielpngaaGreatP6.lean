/- Laws and walks that the proof of the statement is made of (part 6). -/
import Derived.Test.YtdblpgbielpngaaGreatP5
set_option linter.unusedSimpArgs false
set_option linter.unusedVariables false
set_option maxRecDepth 100000
set_option maxHeartbeats 20000000
namespace Go.Proofs.X
open Go.RowKit
variable {cs:Array Value} {held:Bool} {qt:Int} {ps rs:List (List UInt8 × Nat)} {ls:List (List UInt8)} {css css0 es:List (List Value)} {d l m n o qn s t x y z:List UInt8} {B a b base c e fuel i j k p q:Nat} {fz:Nat × Nat} {row:Option Nat} {r u v:Value} {w w' w0 w1 w2:World}
def bW:RSet:=⟨[],0,0,[]⟩
theorem nN {o:Option RSet} (h:match o with
 | some s=>∃ x,r=.tuple #[.agg #[aI s.name, .int .i64 s.kind, .int .i64 s.ttl,x], .bool true]∧Own w.heap.size 1 9 w' x (aK s.data)
 | none=>r=.tuple #[.agg iP.toArray, .bool false]):∃ x,r=.tuple #[.agg #[aI (o.getD bW).name, .int .i64 (o.getD bW).kind, .int .i64 (o.getD bW).ttl,x], .bool o.isSome]∧Sl 1 w' x (aK (o.getD bW).data):=by
 cases o with
 | none=>exact ⟨.slice none 0 0,h,Sl.nil _ _⟩
 | some s=>obtain ⟨x,h1,h2⟩:=h;exact ⟨x,h1,h2.sl⟩
theorem SP (o:List UInt8) (v pz:Value) (l:List RSet) (s:RSet) (u:Value) (w:World) (hz:Pts w pz [aI o,v]) (hv:SetsAt w v l) (hu:Sl 1 w u (aK s.data)) (hck:dB l=0):Calls Tryz.prog 72 #[.agg #[aI s.name, .int .i64 s.kind, .int .i64 s.ttl,u],pz] w (bC w (.bool (!eM o l s))):=by
 go_enter Tryz.func72,Tryz.ntmps72
 repeat' (first | ((with_reducible refine cQ ?_);go_step) | fail)
 refine kN (vs:=[aI s.name, .int .i64 s.kind, .int .i64 s.ttl,u]) fun ps w1 x1 hs => ?_;refine aD ?_;have hz1:=hz.ext x1
 (repeat' first | ((with_reducible refine cQ ?_);go_step) | ((with_reducible refine bM ?_);first | refine fN ?_ | (refine cV ?_ ?_ <;> intro hc)) | fail)
 refine dL (enters_of Tryz.func73 rfl rfl) rfl rfl (VN o v l s u _ (hv.ext x1) (hu.ext x1) hck) ?_;intro w2 x2;refine aD ?_
 (repeat' first | ((with_reducible refine cQ ?_);go_step) | ((with_reducible refine bM ?_);first | refine fN ?_ | (refine cV ?_ ?_ <;> intro hc)) | fail)
 go_ret;exact ⟨rfl,x1.trans x2⟩
theorem zZ (o:List UInt8) (v:Value) (l:List RSet) (w:World) (hv:SetsAt w v l) (hb:∀ s ∈ l,s.data.length≤1000000):Calls Tryz.prog 29 #[.agg #[aI o,v]] w (bC w (.int .i64 (cB o l))):=by
 obtain ⟨cv,hv1,hvl⟩:=hv.sl;have hle:=hv1.le;have hb':∀ s ∈ l,s.data.length≤8796093022208:=fun s hs=>by have:=hb s hs;omega
 go_enter Tryz.func29,Tryz.ntmps29
 repeat' (first | ((with_reducible refine cQ ?_);go_step) | fail)
 refine kN (vs:=[aI o,v]) fun p w1 x1 hp => ?_;refine aD ?_
 (repeat' first | ((with_reducible refine cQ ?_);go_step) | ((with_reducible refine bM ?_);first | refine fN ?_ | (refine cV ?_ ?_ <;> intro hc)) | fail)
 have c1:∀ w',Calls Tryz.prog 68 #[aI o] w' (bC w' (.int .i64 (dW o))):=fun w'=>YA o w';have hv2:=hv.ext x1;have c3:∀ w',Ext w1 w'→Calls Tryz.prog 69 #[v] w' (bC w' (.int .i64 (dB l))):=fun w' x'=>Dn v l w' (hv2.ext x');refine bS aR aR ?_
 (try ((with_reducible refine UQ ?_);refine UW ?_))
 refine eJ (enters_of Tryz.func68 rfl rfl) rfl rfl (fun w' _=>c1 w') ?_;refine aD ?_
 (try ((with_reducible refine UQ ?_);refine UW ?_))
 by_cases q1:dW o=0
 ·rw [decide_eq_true q1];simp only [Bool.not_true]
  (try ((with_reducible refine UQ ?_);refine UW ?_))
  refine eJ (enters_of Tryz.func28 rfl rfl) rfl rfl (fun w' _=>RR o w') ?_;refine aD ?_
  (try ((with_reducible refine UQ ?_);refine UW ?_))
  by_cases q2:fold o=o
  ·rw [decide_eq_true q2];simp only [Bool.not_true]
   (try ((with_reducible refine UQ ?_);refine UW ?_))
   refine eJ (enters_of Tryz.func69 rfl rfl) rfl rfl (fun w' x'=>c3 w' x') ?_;refine aD ?_
   (try ((with_reducible refine UQ ?_);refine UW ?_))
   intro w2 x2;by_cases q3:dB l=0
   ·rw [decide_eq_true q3];simp only [Bool.not_true];have hx2:=x1.trans x2;have hp2:=hp.ext x2;have hs2:=hv.ext hx2
    (repeat' first | ((with_reducible refine cQ ?_);go_step) | ((with_reducible refine bM ?_);first | refine fN ?_ | (refine cV ?_ ?_ <;> intro hc)) | fail)
    refine mR (enters_of Tryz.func70 rfl rfl) rfl rfl (ZL v l o 6 _ hs2 hb') ?_;intro r3 w3 x3 hr3;obtain ⟨y3,rfl,hy3⟩:=nN hr3;clear hr3
    (repeat' first | ((with_reducible refine cQ ?_);go_step) | ((with_reducible refine bM ?_);first | refine fN ?_ | (refine cV ?_ ?_ <;> intro hc)) | fail)
    refine fO (z:=iP) fun w4 x4 s4 h4 => ?_;refine aD ?_;refine dS h4 (fI rfl rfl rfl (hy3.one)) fun w5 p5 => ?_;have x5:=cH x4 p5;have hx5:=hx2.trans (x3.trans x5);have hp5:=hp.ext (x2.trans (x3.trans x5));have hs5:=hv.ext hx5;clear p5 h4 x4
    (repeat' first | ((with_reducible refine cQ ?_);go_step) | ((with_reducible refine bM ?_);first | refine fN ?_ | (refine cV ?_ ?_ <;> intro hc)) | fail)
    refine mR (enters_of Tryz.func70 rfl rfl) rfl rfl (ZL v l o 2 _ hs5 hb') ?_;intro r6 w6 x6 hr6;obtain ⟨y6,rfl,hy6⟩:=nN hr6;clear hr6
    (repeat' first | ((with_reducible refine cQ ?_);go_step) | ((with_reducible refine bM ?_);first | refine fN ?_ | (refine cV ?_ ?_ <;> intro hc)) | fail)
    refine fO (z:=iP) fun w7 x7 s7 h7 => ?_;refine aD ?_;refine dS h7 (fI rfl rfl rfl (hy6.one)) fun w8 p8 => ?_;have x8:=cH x7 p8;have hx8:=hx5.trans (x6.trans x8);have hp8:=hp5.ext (x6.trans x8);have hs8:=hv.ext hx8;clear p8 h7 x7;cases f6:(aY l o 6).isSome with
    | false =>
     (repeat' first | ((with_reducible refine cQ ?_);go_step) | ((with_reducible refine bM ?_);first | refine fN ?_ | (refine cV ?_ ?_ <;> intro hc)) | fail)
     go_ret;exact ⟨by rw [show cB o l=2 by simp [cB,q1,q2,q3,f6]];rfl,hx8⟩
    | true =>
     cases f2:(aY l o 2).isSome with
     | false =>
      (repeat' first | ((with_reducible refine cQ ?_);go_step) | ((with_reducible refine bM ?_);first | refine fN ?_ | (refine cV ?_ ?_ <;> intro hc)) | fail)
      go_ret;exact ⟨by rw [show cB o l=2 by simp [cB,q1,q2,q3,f6,f2]];rfl,hx8⟩
     | true =>
      (repeat' first | ((with_reducible refine cQ ?_);go_step) | ((with_reducible refine bM ?_);first | refine fN ?_ | (refine cV ?_ ?_ <;> intro hc)) | fail)
      have hf:SetFn w8 72 #[p] l (fun s => !eM o l s):=fun s _ x w' hx' hd'=>SP o v p l s x w' (hp8.ext hx') (hs8.ext hx') hd' q3;refine dL (enters_of Tryz.func71 rfl rfl) rfl rfl (nM v l 72 #[p] (fun s => !eM o l s) _ hs8 (enters_of Tryz.func72 rfl rfl) hf) ?_;intro w9 x9;refine aD ?_;cases ha:l.any (fun s => !eM o l s) with
      | true =>
       (repeat' first | ((with_reducible refine cQ ?_);go_step) | ((with_reducible refine bM ?_);first | refine fN ?_ | (refine cV ?_ ?_ <;> intro hc)) | fail)
       go_ret;exact ⟨by rw [show cB o l=2 by simp only [cB,q1,q2,q3,f6,f2,ha];simp];rfl,hx8.trans x9⟩
      | false =>
       (repeat' first | ((with_reducible refine cQ ?_);go_step) | ((with_reducible refine bM ?_);first | refine fN ?_ | (refine cV ?_ ?_ <;> intro hc)) | fail)
       go_ret;exact ⟨by rw [show cB o l=0 by simp only [cB,q1,q2,q3,f6,f2,ha];simp];rfl,hx8.trans x9⟩
   ·rw [decide_eq_false q3];simp only [Bool.not_false]
    (repeat' first | ((with_reducible refine cQ ?_);go_step) | ((with_reducible refine bM ?_);first | refine fN ?_ | (refine cV ?_ ?_ <;> intro hc)) | fail)
    go_ret;exact ⟨by rw [show cB o l=1 by simp [cB,q3]];rfl,x1.trans x2⟩
  ·rw [decide_eq_false q2];simp only [Bool.not_false]
   (try ((with_reducible refine UQ ?_);refine UW ?_))
   intro w2 x2
   (repeat' first | ((with_reducible refine cQ ?_);go_step) | ((with_reducible refine bM ?_);first | refine fN ?_ | (refine cV ?_ ?_ <;> intro hc)) | fail)
   go_ret;exact ⟨by rw [show cB o l=1 by simp [cB,q2]];rfl,x1.trans x2⟩
 ·rw [decide_eq_false q1];simp only [Bool.not_false]
  (try ((with_reducible refine UQ ?_);refine UW ?_))
  intro w2 x2
  (repeat' first | ((with_reducible refine cQ ?_);go_step) | ((with_reducible refine bM ?_);first | refine fN ?_ | (refine cV ?_ ?_ <;> intro hc)) | fail)
  go_ret;exact ⟨by rw [show cB o l=1 by simp [cB,q1]];rfl,x1.trans x2⟩
theorem ZW (o:List UInt8) (v:Value) (l:List RSet) (n:List UInt8) (w:World) (hv:SetsAt w v l) (hb:∀ s ∈ l,s.data.length≤1000000):Calls Tryz.prog 138 #[.agg #[aI o,v],aI n] w (bC w (.tuple (if cB o l=0 then #[aI (mL o l n).1, .bool (mL o l n).2] else #[aI [], .bool false]))):=by
 go_enter Tryz.func138,Tryz.ntmps138
 repeat' (first | ((with_reducible refine cQ ?_);go_step) | fail)
 refine kN (vs:=[aI o,v]) fun p w1 x1 hp => ?_;refine aD ?_;have hv1:=hv.ext x1
 (repeat' first | ((with_reducible refine cQ ?_);go_step) | ((with_reducible refine bM ?_);first | refine fN ?_ | (refine cV ?_ ?_ <;> intro hc)) | fail)
 refine dL (enters_of Tryz.func29 rfl rfl) rfl rfl (zZ o v l _ hv1 hb) ?_;intro w2 x2;refine aD ?_;have hx2:=x1.trans x2;have hp2:=hp.ext x2;have hv2:=hv1.ext x2
 (repeat' first | ((with_reducible refine cQ ?_);go_step) | ((with_reducible refine bM ?_);first | refine fN ?_ | (refine cV ?_ ?_ <;> intro hc)) | fail)
 ·rename_i q;have q':¬ cB o l=0:=by simpa using q
  go_ret2;exact ⟨by rw [if_neg q'];rfl,hx2⟩
 ·have q':cB o l=0:=by simpa using (by assumption:(!decide (cB o l=0))=false)
  refine dL (enters_of Tryz.func130 rfl rfl) rfl rfl (XF o v l n _ hv2) ?_;intro w3 x3;refine aD ?_
  (repeat' first | ((with_reducible refine cQ ?_);go_step) | ((with_reducible refine bM ?_);first | refine fN ?_ | (refine cV ?_ ?_ <;> intro hc)) | fail)
  go_ret2;exact ⟨by rw [if_pos q',xT (kI q').chk];rfl,hx2.trans x3⟩
theorem ME {s:RSet} (h:gV s=true) (hi:i < s.data.length):aU ⟨s.name,s.kind,s.ttl,s.data[i]⟩=0:=by
 simp only [gV,Bool.and_eq_true,List.all_eq_true] at h;have:=h.2 i (by simpa using hi);simp only [lI,Bool.not_eq_true',Bool.or_eq_false_iff,decide_eq_false_iff_not,ne_eq,Decidable.not_not] at this;have e:s.data.getD i []=s.data[i]:=by simp [hi]
 rw [e] at this;exact this.1
theorem sB {r:Rec} (h:aU r=0):r.data.length≤4000∧fits r.kind r.data=true:=by
 unfold aU at h;split at h
 ·omega
 ·split at h
  ·omega
  ·rename_i h2;simp only [not_or,Bool.not_eq_false] at h2;exact ⟨aE,h2.2.2.2.2.2⟩
def zR:SoaR:=⟨[],[],0,0,0,0,0⟩
theorem JP:zR.cells=bD:=rfl
def jV (o:List UInt8) (l:List RSet):List UInt8:=((aY l o 6).getD bW).data.getD 0 []
def eK (o:List UInt8) (l:List RSet):SoaR:=if cB o l=0 then dM (jV o l) else zR
theorem MF (h:(cW d).isSome=true):cW d=some (dM d):=by
 unfold cW at *;simp only at *;split at h
 ·rename_i h1;rw [if_pos h1]
 ·cases h
theorem ZoneOk.soaSet {l:List RSet} (h:ZoneOk o l):∃ s,aY l o 6=some s∧s ∈ l∧s.name=o∧s.kind=6∧s.data=[jV o l]∧cW (jV o l)=some (dM (jV o l))∧(jV o l).length≤4000:=by
 obtain ⟨s,hs⟩:=Option.isSome_iff_exists.1 h.soa;obtain ⟨h1,h2,h3⟩:=kW hs;have hr:=h.right s h1;have hm:=h.may h1;have hl:s.data.length=1:=by
  simp only [eM,Bool.and_eq_true,Bool.not_eq_true',h3] at hr;have:=hr.1.1.2;simp only [decide_true,Bool.true_and,Bool.or_eq_false_iff,decide_eq_false_iff_not,ne_eq,Decidable.not_not] at this;exact this.2
 have hd:s.data=[jV o l]:=by
  have e:jV o l=s.data.getD 0 []:=by rw [jV,hs];rfl
  rw [e]
  match s.data,hl with
  | [d],_=>rfl
 have hc:=ME hm (i:=0) aE;obtain ⟨c1,c2⟩:=sB hc;have e0:s.data[0]'(aE)=jV o l:=by simp [hd]
 simp only [e0,h3] at c1 c2;refine ⟨s,hs,h1,by rw [h2,h.fold],h3,hd,MF ?_,c1⟩
 simpa [fits] using c2
theorem oZ (s:SoaR):(Value.agg s.cells.toArray).cells.all (·.oneCell')=true:=by
 simp [SoaR.cells,Value.cells,Value.oneCell',aI]
theorem ZX (o:List UInt8) (v:Value) (l:List RSet) (w:World) (hv:SetsAt w v l) (hb:∀ s ∈ l,s.data.length≤1000000) (hd:∀ s ∈ l,∀ d ∈ s.data,d.length≤4611686018427387904):Calls Tryz.prog 220 #[.agg #[aI o,v]] w (bC w (.tuple #[.agg (eK o l).cells.toArray, .int .i64 (cB o l)])):=by
 go_enter Tryz.func220,Tryz.ntmps220
 refine_lift mS fun _ _ => ?_;refine kN (vs:=[aI o,v]) fun p w1 x1 hp => ?_;refine aD ?_;refine fO (z:=bD) fun w2 x2 s2 h2 => ?_;refine aD ?_;have hx2:=x1.trans x2;have hp2:=hp.ext x2;have hv2:=hv.ext hx2;refine_lift rS fun _ _ _ _ => ?_;refine cY (zZ o v l _ hv2 hb) fun w3 x3 => ?_;have hx3:=hx2.trans x3;have hp3:=hp2.ext x3;have hv3:=hv2.ext x3;have h3:=x3.at h2
 (repeat' first | ((with_reducible refine cQ ?_);go_step) | ((with_reducible refine bM ?_);first | refine fN ?_ | (refine cV ?_ ?_ <;> intro hc)) | fail)
 ·have q:¬ cB o l=0:=by simpa using (by assumption:(!decide (cB o l=0))=true)
  refine bZ (v:=.agg bD.toArray) rfl (Runs.build0 (by kernel_rfl)) ?_;refine aD ?_;refine_lift bR ?_;refine dS (v:=.agg bD.toArray) h3 aR fun w4 p4 => ?_;have x4:=cH hx3 p4;refine_lift bR ?_;refine nH (cs:=bD) p4.this ⟨?_,x4⟩;rw [show eK o l=zR by rw [eK,if_neg q],JP];rfl
 ·have q:cB o l=0:=by simpa using (by assumption:(!decide (cB o l=0))=false)
  obtain ⟨s,hf,hs,hn,hk,hdat,hpar,hlen⟩:=(kI q).soaSet;have hZ:eK o l=dM (jV o l):=by rw [eK,if_pos q]
  have hP:∀ w',Calls Tryz.prog 84 #[aI (jV o l)] w' (bC w' (.tuple #[.agg (dM (jV o l)).cells.toArray, .int .i64 0])):=fun w'=>by
   have:=Bg (jV o l) w' aE;rw [hpar] at this;exact this
  clear hpar;generalize jV o l=dd at *;generalize hgen:dM dd=ss at *;refine gE (ZL v l o 6 _ hv3 (fun s hs=>by have:=hb s hs;omega)) fun r4 w4 x4 hr4 => ?_;rw [hf] at hr4;obtain ⟨y,rfl,oy⟩:=hr4;have hx4:=hx3.trans x4;refine_lift bR ?_;refine fO (z:=iP) fun w5 x5 s5 h5 => ?_;refine aD ?_;refine dS (v:=.agg #[aI s.name, .int .i64 s.kind, .int .i64 s.ttl,y]) h5 (fI rfl rfl rfl oy.one) fun w6 p6 => ?_;have x6:=cH x5 p6;have hp6:=aA (cs:=[aI s.name, .int .i64 s.kind, .int .i64 s.ttl,y]) p6.this;have hy6:=oy.sl.ext x6;rw [hdat] at hy6;have hx6:=hx4.trans x6;have h6:=(x4.trans x6).at h3;have hy0:=hy6.elem (i:=0) (e:=[aI dd]) rfl;clear p6 h5 x5;have hl1:(aK [dd]).length=1:=rfl;refine_lift eF fun _ _ => ?_;refine cY (hP _) fun w7 x7 => ?_;have h7:=x7.at h6;refine_lift bR ?_;refine dS (v:=.agg ss.cells.toArray) h7 (oZ _) fun w8 p8 => ?_;have x8:=cH (hx6.trans x7) p8;refine_lift bR ?_;refine nH (cs:=ss.cells) p8.this ⟨?_,x8⟩;rw [hZ,q];rfl
theorem YH (o:List UInt8) (v:Value) (l:List RSet) (w:World) (hv:SetsAt w v l) (hb:∀ s ∈ l,s.data.length≤1000000) (hd:∀ s ∈ l,∀ d ∈ s.data,d.length≤4611686018427387904):Calls Tryz.prog 157 #[.agg #[aI o,v]] w (bC w (.tuple #[.agg (eK o l).cells.toArray, .int .i64 (cB o l)])):=by
 go_enter Tryz.func157,Tryz.ntmps157
 refine_lift mS fun _ _ => ?_;refine kN (vs:=[aI o,v]) fun p w1 x1 hp => ?_;refine aD ?_;refine fO (z:=bD) fun w2 x2 s2 h2 => ?_;refine aD ?_;have hx2:=x1.trans x2;have hp2:=hp.ext x2;have hv2:=hv.ext hx2;refine_lift eF fun _ _ => ?_;refine cY (BO o v l _ hv2 hb hd) fun w3 x3 => ?_;have hx3:=hx2.trans x3;have hp3:=hp2.ext x3;have hv3:=hv2.ext x3;have h3:=x3.at h2;refine_lift XY (fun _ _ _ => ?_) (fun _ _ _ _ _ => ?_)
 ·have q:¬ cB o l=0:=by simpa using (by assumption:(!decide (cB o l=0))=true)
  refine bZ (v:=.agg bD.toArray) rfl (Runs.build0 (by kernel_rfl)) ?_;refine aD ?_;refine_lift bR ?_;refine dS (v:=.agg bD.toArray) h3 aR fun w4 p4 => ?_;have x4:=cH hx3 p4;refine_lift bR ?_;refine nH (cs:=bD) p4.this ⟨?_,x4⟩;rw [show eK o l=zR by rw [eK,if_neg q],JP];rfl
 ·have q:cB o l=0:=by simpa using (by assumption:(!decide (cB o l=0))=false)
  obtain ⟨s,hf,hs,hn,hk,hdat,hpar,hlen⟩:=(kI q).soaSet;have hZ:eK o l=dM (jV o l):=by rw [eK,if_pos q]
  have hP:∀ w',Calls Tryz.prog 153 #[aI (jV o l)] w' (bC w' (.tuple #[.agg (dM (jV o l)).cells.toArray, .int .i64 0])):=fun w'=>by
   have:=rZ (jV o l) w' aE;rw [hpar] at this;exact this
  clear hpar;generalize jV o l=dd at *;generalize hgen:dM dd=ss at *;refine gE (pY v l o 6 _ hv3 hb) fun r4 w4 x4 hr4 => ?_;rw [hf] at hr4;obtain ⟨y,rfl,oy⟩:=hr4;have hx4:=hx3.trans x4;refine_lift bR ?_;refine fO (z:=iP) fun w5 x5 s5 h5 => ?_;refine aD ?_;refine dS (v:=.agg #[aI s.name, .int .i64 s.kind, .int .i64 s.ttl,y]) h5 (fI rfl rfl rfl oy.one) fun w6 p6 => ?_;have x6:=cH x5 p6;have hp6:=aA (cs:=[aI s.name, .int .i64 s.kind, .int .i64 s.ttl,y]) p6.this;have hy6:=oy.sl.ext x6;rw [hdat] at hy6;have hx6:=hx4.trans x6;have h6:=(x4.trans x6).at h3;have hy0:=hy6.elem (i:=0) (e:=[aI dd]) rfl;clear p6 h5 x5;have hl1:(aK [dd]).length=1:=rfl;refine_lift eF fun _ _ => ?_;refine cY (hP _) fun w7 x7 => ?_;have h7:=x7.at h6;refine_lift bR ?_;refine dS (v:=.agg ss.cells.toArray) h7 (oZ _) fun w8 p8 => ?_;have x8:=cH (hx6.trans x7) p8;refine_lift bR ?_;refine nH (cs:=ss.cells) p8.this ⟨?_,x8⟩;rw [hZ,q];rfl
def mA (s:List UInt8):List (List UInt8)→List (List UInt8)
 | []=>[s]
 | x :: l=>if Op.bytesLess x s=true then x :: mA s l else if x=s then x :: l else s :: x :: l
theorem EX (s:List UInt8):∀ l:List (List UInt8),(mA s l).length≤l.length + 1
 | []=>by simp [mA]
 | x :: l=>by
   rw [mA];split
   ·have:=EX s l;simp;omega
   ·split <;> simp
def eD (r:Rec):RSet:=⟨fold r.name,r.kind,r.ttl,[r.data]⟩
def lK (r:Rec):List RSet→List RSet
 | []=>[eD r]
 | g :: gs=>if lS g (eD r)=true then g :: lK r gs else if lS (eD r) g=true then eD r :: g :: gs else ⟨fold r.name,r.kind,min r.ttl g.ttl,mA r.data g.data⟩ :: gs
def cZ (l:List Rec):List RSet:=l.foldl (fun gs r=>lK r gs) []
theorem sC {l:List Rec} (h:k < l.length):cZ (l.take (k + 1))=lK l[k] (cZ (l.take k)):=by
 rw [cZ,List.take_add_one,List.getElem?_eq_getElem h,Option.toList_some,List.foldl_append];rfl
theorem JQ (r:Rec):∀ gs:List RSet,(lK r gs).length≤gs.length + 1
 | []=>by simp [lK]
 | g :: gs=>by
   have:=JQ r gs;rw [lK];split
   ·simp;omega
   ·split <;> simp
theorem EY (r:Rec) (n:Nat):∀ gs:List RSet,(∀ s ∈ gs,s.data.length≤n)→∀ s ∈ lK r gs,s.data.length≤n + 1
 | [],_,s,h=>by
   have:s=eD r:=by simpa [lK] using h
   subst this;simp [eD]
 | g :: gs,hn,s,h=>by
   have hg:=hn g bP;have hn':∀ s ∈ gs,s.data.length≤n:=fun s hs=>hn s (by simp [hs]);rw [lK] at h;split at h
   ·rcases List.mem_cons.1 h with rfl | h
    ·omega
    ·exact EY r n gs hn' s h
   ·split at h
    ·rcases List.mem_cons.1 h with rfl | h
     ·simp [eD]
     ·have:=hn s h;omega
    ·rcases List.mem_cons.1 h with rfl | h
     ·have:=EX r.data g.data;show (mA r.data g.data).length≤n + 1;omega
     ·have:=hn' s h;omega
theorem tQ (l:List Rec):∀ k,k≤l.length→(cZ (l.take k)).length≤k∧∀ s ∈ cZ (l.take k),s.data.length≤k
 | 0,_=>by simp [cZ]
 | k + 1,h=>by
   obtain ⟨h1,h2⟩:=tQ l k aE;rw [sC (show k < l.length by omega)];have:=JQ (l[k]'(aE)) (cZ (l.take k));exact ⟨aE,EY _ k _ h2⟩
def zO (l:List Rec):Int:=if l.all EL=false then 1 else if 200 < (cZ l).length then 4 else if (cZ l).any RY=true then 4 else 0
def RefR (B:Nat) (l:List Rec) (r:Value) (w':World):Prop:=if zO l=0 then ∃ v,r=.tuple #[v, .int .i64 0]∧SetsO B w' v (cZ l) else r=.tuple #[.slice none 0 0, .int .i64 (zO l)]
theorem EZ:∀ {gs:List RSet} {r:Rec} {s:RSet},yQ gs→s ∈ eO gs r→(s ∈ gs∧bT s r=false)∨(∃ t ∈ gs,bT t r=true∧s=lR t r)∨((∀ t ∈ gs,bT t r=false)∧s=⟨fold r.name,r.kind,r.ttl,[r.data]⟩)
 | [],r,s,_,h=>by
   right;right;exact ⟨bP,by simpa [eO] using h⟩
 | a :: l,r,s,hd,h=>by
   obtain ⟨p1,p2⟩:=List.pairwise_cons.1 (jM.1 hd);by_cases hm:bT a r=true
   ·simp only [eO,hm,if_true,List.mem_cons] at h;rcases h with h | h
    ·exact .inr (.inl ⟨a,bP,hm,h⟩)
    ·refine .inl ⟨by simp [h],?_⟩;cases hs:bT s r with
     | false=>rfl
     | true =>
      exfalso
      simp only [bT,Bool.and_eq_true,decide_eq_true_eq] at hs hm;exact p1 s h ⟨by rw [hm.1,hs.1],by rw [hm.2,hs.2]⟩
   ·have hm':bT a r=false:=by simpa using hm
    simp only [eO,hm',Bool.false_eq_true,if_false,List.mem_cons] at h;rcases h with rfl | h
    ·exact .inl ⟨bP,hm'⟩
    ·rcases EZ (jM.2 p2) h with ⟨h1,h2⟩ | ⟨t,h1,h2,h3⟩ | ⟨h1,h2⟩
     ·exact .inl ⟨by simp [h1],h2⟩
     ·exact .inr (.inl ⟨t,by simp [h1],h2,h3⟩)
     ·refine .inr (.inr ⟨?_,h2⟩);intro t ht;rcases List.mem_cons.1 ht with rfl | ht
      ·exact hm'
      ·exact h1 t ht
structure Ch (L:List Rec) (s:RSet):Prop where
 dat:∀ d,d ∈ s.data↔∃ r ∈ L,bT s r=true∧r.data=d
 ttl:∃ r ∈ L,bT s r=true∧r.ttl=s.ttl
 low:∀ r ∈ L,bT s r=true→s.ttl≤r.ttl
theorem Ch.miss {L:List Rec} {s:RSet} {r:Rec} (h:Ch L s) (hm:bT s r=false):Ch (L ++ [r]) s where
 dat d:=by
  rw [h.dat];constructor
  ·rintro ⟨q,h1,h2⟩;exact ⟨q,by simp [h1],h2⟩
  ·rintro ⟨q,h1,h2,h3⟩;rcases List.mem_append.1 h1 with h1 | h1
   ·exact ⟨q,h1,h2,h3⟩
   ·obtain rfl:=List.mem_singleton.1 h1;rw [hm] at h2;cases h2
 ttl:=let ⟨q,h1,h2⟩:=h.ttl;⟨q,by simp [h1],h2⟩
 low q h1 h2:=by
  rcases List.mem_append.1 h1 with h1 | h1
  ·exact h.low q h1 h2
  ·obtain rfl:=List.mem_singleton.1 h1;rw [hm] at h2;cases h2
theorem Ch.bump {L:List Rec} {s:RSet} {r:Rec} (h:Ch L s) (hm:bT s r=true):Ch (L ++ [r]) (X.lR s r) where
 dat d:=by
  show d ∈ s.data ++ [r.data]↔∃ q ∈ L ++ [r],bT s q=true∧q.data=d;rw [List.mem_append,h.dat,List.mem_singleton];constructor
  ·rintro (⟨q,h1,h2⟩ | rfl)
   ·exact ⟨q,by simp [h1],h2⟩
   ·exact ⟨r,bP,hm,rfl⟩
  ·rintro ⟨q,h1,h2,h3⟩;rcases List.mem_append.1 h1 with h1 | h1
   ·exact .inl ⟨q,h1,h2,h3⟩
   ·obtain rfl:=List.mem_singleton.1 h1;exact .inr h3.symm
 ttl:=by
  show ∃ q ∈ L ++ [r],bT s q=true∧q.ttl=min s.ttl r.ttl;obtain ⟨q,h1,h2,h3⟩:=h.ttl;rcases Int.le_total s.ttl r.ttl with hl | hl
  ·exact ⟨q,by simp [h1],h2,by rw [h3];omega⟩
  ·exact ⟨r,bP,hm,aE⟩
 low q h1 h2:=by
  show min s.ttl r.ttl≤q.ttl;rcases List.mem_append.1 h1 with h1 | h1
  ·have:=h.low q h1 h2;omega
  ·obtain rfl:=List.mem_singleton.1 h1;omega
theorem Ch.new {L:List Rec} {r:Rec} (h:∀ q ∈ L,bT ⟨fold r.name,r.kind,r.ttl,[r.data]⟩ q=false):Ch (L ++ [r]) ⟨fold r.name,r.kind,r.ttl,[r.data]⟩ where
 dat d:=by
  rw [List.mem_singleton];constructor
  ·rintro rfl;exact ⟨r,bP,by simp [bT],rfl⟩
  ·rintro ⟨q,h1,h2,h3⟩;rcases List.mem_append.1 h1 with h1 | h1
   ·rw [h q h1] at h2;cases h2
   ·obtain rfl:=List.mem_singleton.1 h1;exact h3.symm
 ttl:=⟨r,bP,by simp [bT],rfl⟩
 low q h1 h2:=by
  rcases List.mem_append.1 h1 with h1 | h1
  ·rw [h q h1] at h2;cases h2
  ·obtain rfl:=List.mem_singleton.1 h1;exact Int.le_refl _
theorem FA (l:List Rec):∀ k,k≤l.length→∀ s ∈ dJ (l.take k),Ch (l.take k) s
 | 0,_,s,h=>by simp [dJ] at h
 | k + 1,hk,s,h=>by
   have hlt:k < l.length:=aE;have e:l.take (k + 1)=l.take k ++ [l[k]]:=bP;rw [rW hlt] at h;rw [e];have ih:=FA l k aE;rcases EZ (mG _) h with ⟨h1,h2⟩ | ⟨t,h1,h2,rfl⟩ | ⟨h1,rfl⟩
   ·exact (ih s h1).miss h2
   ·exact (ih t h1).bump h2
   ·refine Ch.new fun q hq => ?_;obtain ⟨t,ht,hm,_⟩:=BL hq;have:=h1 t ht;cases hx:bT ⟨fold l[k].name,l[k].kind,l[k].ttl,[l[k].data]⟩ q with
    | false=>rfl
    | true =>
     exfalso
     simp only [bT,Bool.and_eq_true,decide_eq_true_eq] at hx hm;have h5:bT t l[k]=true:=by
      simp only [bT,Bool.and_eq_true,decide_eq_true_eq];exact ⟨by rw [hm.1,hx.1],by rw [hm.2,hx.2]⟩
     rw [this] at h5;cases h5
theorem Ch.norm {L:List Rec} {s:RSet} (h:Ch L s):Ch L (X.oX s) where
 dat d:=by
  show d ∈ ZU s.data↔∃ r ∈ L,bT s r=true∧r.data=d;rw [VG,h.dat]
 ttl:=h.ttl
 low:=h.low
theorem FB {l:List Rec} {s:RSet} (h:s ∈ fU l):Ch l s∧s.data.Pairwise (· < ·):=by
 obtain ⟨u,hu,rfl⟩:=List.mem_map.1 h;have:=FA l l.length (Nat.le_refl _);rw [List.take_length] at this;exact ⟨(this u hu).norm,LW _⟩
theorem Ch.uniq {L:List Rec} {s t:RSet} (h:Ch L s) (k:Ch L t) (hs:s.data.Pairwise (· < ·)) (ht:t.data.Pairwise (· < ·)) (hn:s.name=t.name) (hk:s.kind=t.kind):s=t:=by
 have hm:∀ r,bT s r=bT t r:=fun r=>by rw [bT,bT,hn,hk]
 have hd:s.data=t.data:=PA hs ht fun d=>by
  rw [h.dat,k.dat];simp only [hm]
 have ha:s.ttl=t.ttl:=by
  obtain ⟨q,h1,h2,h3⟩:=h.ttl;obtain ⟨q',k1,k2,k3⟩:=k.ttl;have e1:=k.low q h1 (by rw [← hm];exact h2);have e2:=h.low q' k1 (by rw [hm];exact k2);omega
 cases s;cases t
 simp_all
def qA (s t:RSet):Int:=fA s.name t.name s.kind t.kind
theorem BS:TPO qA:=kV.comap fun s:RSet=>(s.name,s.kind)
def SO (gs:List RSet):Prop:=gs.Pairwise fun s t=>qA s t < 0
def ZY (r:Rec) (t:RSet):RSet:=⟨fold r.name,r.kind,min r.ttl t.ttl,mA r.data t.data⟩
theorem sX (a b:RSet):lS a b=decide (qA a b < 0):=EU a b
theorem fZ {s:RSet} {r:Rec}:bT s r=true↔s.name=fold r.name∧s.kind=r.kind:=by simp [bT]
theorem vZ {s t u:RSet} (hn:s.name=t.name) (hk:s.kind=t.kind):qA u s=qA u t∧qA s u=qA t u:=by
 unfold qA;rw [hn,hk];exact ⟨rfl,rfl⟩
theorem wD {s:RSet} {r:Rec} (h:qA s (eD r)≠0):bT s r=false:=by
 cases hm:bT s r with
 | false=>rfl
 | true =>
  obtain ⟨h1,h2⟩:=fZ.1 hm;exact absurd (by rw [(vZ (t:=eD r) h1 h2).2];exact BS.refl _) h
theorem JR {r:Rec} (hr:Small (fold r.name)):∀ {gs:List RSet} {s:RSet},SO gs→(∀ g ∈ gs,Small g.name)→s ∈ lK r gs →
 (s ∈ gs∧bT s r=false)∨(∃ t ∈ gs,bT t r=true∧s=ZY r t)∨((∀ t ∈ gs,bT t r=false)∧s=eD r)
 | [],s,_,_,h=>by
   right;right;exact ⟨bP,by simpa [lK] using h⟩
 | g :: gs,s,hso,hsm,h=>by
   obtain ⟨p1,p2⟩:=List.pairwise_cons.1 hso;have hg:=hsm g bP;rw [lK,sX,sX] at h;by_cases h1:qA g (eD r) < 0
   ·rw [if_pos (decide_eq_true h1)] at h;have m1:bT g r=false:=wD aE;rcases List.mem_cons.1 h with rfl | h
    ·exact .inl ⟨bP,m1⟩
    ·rcases JR hr p2 (fun x hx=>hsm x (by simp [hx])) h with ⟨a,b⟩ | ⟨t,a,b,c⟩ | ⟨a,b⟩
     ·exact .inl ⟨by simp [a],b⟩
     ·exact .inr (.inl ⟨t,by simp [a],b,c⟩)
     ·refine .inr (.inr ⟨fun t ht => ?_,b⟩);rcases List.mem_cons.1 ht with rfl | ht
      ·exact m1
      ·exact a t ht
   ·rw [if_neg (by simpa using h1)] at h;by_cases h2:qA (eD r) g < 0
    ·rw [if_pos (decide_eq_true h2)] at h;have m1:bT g r=false:=wD (by have:=BS.anti g (eD r);omega);have m2:∀ t ∈ gs,bT t r=false:=fun t ht=>wD (by
      have:=BS.ltt h2 (p1 t ht);have:=BS.anti t (eD r);omega)
     rcases List.mem_cons.1 h with rfl | h
     ·refine .inr (.inr ⟨fun t ht => ?_,rfl⟩);rcases List.mem_cons.1 ht with rfl | ht
      ·exact m1
      ·exact m2 t ht
     ·rcases List.mem_cons.1 h with rfl | h
      ·exact .inl ⟨bP,m1⟩
      ·exact .inl ⟨by simp [h],m2 s h⟩
    ·rw [if_neg (by simpa using h2)] at h;have h0:qA g (eD r)=0:=by have:=BS.anti g (eD r);omega
     obtain ⟨e1,e2⟩:=nZ hg hr h0;have mg:bT g r=true:=fZ.2 ⟨e1,e2⟩;rcases List.mem_cons.1 h with rfl | h
     ·exact .inr (.inl ⟨g,bP,mg,rfl⟩)
     ·refine .inl ⟨by simp [h],wD ?_⟩;have:=p1 s h;rw [(vZ (t:=eD r) e1 e2).2] at this;have:=BS.anti s (eD r);omega
theorem JS {r:Rec}:∀ {gs:List RSet} {s:RSet},s ∈ lK r gs→s ∈ gs∨(s.name=fold r.name∧s.kind=r.kind)
 | [],s,h=>by
   right;have:s=eD r:=by simpa [lK] using h
   subst this;exact ⟨rfl,rfl⟩
 | g :: gs,s,h=>by
   rw [lK] at h;split at h
   ·rcases List.mem_cons.1 h with rfl | h
    ·exact .inl bP
    ·rcases JS h with h | h
     ·exact .inl (by simp [h])
     ·exact .inr h
   ·split at h
    ·rcases List.mem_cons.1 h with rfl | h
     ·exact .inr ⟨rfl,rfl⟩
     ·exact .inl h
    ·rcases List.mem_cons.1 h with rfl | h
     ·exact .inr ⟨rfl,rfl⟩
     ·exact .inl (by simp [h])
theorem NL {r:Rec} (hr:Small (fold r.name)):∀ {gs:List RSet},SO gs→(∀ g ∈ gs,Small g.name)→SO (lK r gs)
 | [],_,_=>by simp [lK,SO]
 | g :: gs,hso,hsm=>by
   obtain ⟨p1,p2⟩:=List.pairwise_cons.1 hso;have hg:=hsm g bP;rw [lK,sX,sX];by_cases h1:qA g (eD r) < 0
   ·rw [if_pos (decide_eq_true h1)];refine List.pairwise_cons.2 ⟨fun s hs => ?_,NL hr p2 fun x hx=>hsm x (by simp [hx])⟩;rcases JS hs with h | ⟨a,b⟩
    ·exact p1 s h
    ·rw [(vZ (t:=eD r) a b).1];exact h1
   ·rw [if_neg (by simpa using h1)];by_cases h2:qA (eD r) g < 0
    ·rw [if_pos (decide_eq_true h2)];refine List.pairwise_cons.2 ⟨fun s hs => ?_,hso⟩;rcases List.mem_cons.1 hs with rfl | hs
     ·exact h2
     ·exact BS.ltt h2 (p1 s hs)
    ·rw [if_neg (by simpa using h2)];have h0:qA g (eD r)=0:=by have:=BS.anti g (eD r);omega
     obtain ⟨e1,e2⟩:=nZ hg hr h0;refine List.pairwise_cons.2 ⟨fun s hs => ?_,p2⟩;have:=p1 s hs;rw [(vZ (s:=g) (t:=⟨fold r.name,r.kind,min r.ttl g.ttl,mA r.data g.data⟩) e1 e2).2] at this;exact this
theorem qD {s:List UInt8}:∀ {l:List (List UInt8)},l.Pairwise (· < ·)→(mA s l).Pairwise (· < ·)∧∀ x,x ∈ mA s l↔x=s∨x ∈ l
 | [],_=>by simp [mA]
 | y :: l,h=>by
   obtain ⟨p1,p2⟩:=List.pairwise_cons.1 h;obtain ⟨i1,i2⟩:=qD (s:=s) p2;rw [mA];by_cases h1:y < s
   ·rw [if_pos (IS.2 h1)];refine ⟨List.pairwise_cons.2 ⟨fun x hx => ?_,i1⟩,fun x => ?_⟩
    ·rcases (i2 x).1 hx with rfl | hx
     ·exact h1
     ·exact p1 x hx
    ·simp only [List.mem_cons,i2];exact or_left_comm
   ·rw [if_neg (fun hb=>h1 (IS.1 hb))];by_cases h2:y=s
    ·rw [if_pos h2];subst h2;exact ⟨h,fun x=>by simp⟩
    ·rw [if_neg h2];have h3:s < y:=yT (List.not_lt.1 h1) (fun e=>h2 e.symm);refine ⟨List.pairwise_cons.2 ⟨fun x hx => ?_,h⟩,fun x=>by simp⟩;rcases List.mem_cons.1 hx with rfl | hx
     ·exact h3
     ·exact List.lt_trans h3 (p1 x hx)
theorem FC {r:Rec} (hr:Small (fold r.name)):∀ {gs:List RSet},(∀ g ∈ gs,Small g.name)→∀ t ∈ gs,∃ s ∈ lK r gs,s.name=t.name∧s.kind=t.kind
 | [],_,t,h=>by simp at h
 | g :: gs,hsm,t,h=>by
   have hg:=hsm g bP;rw [lK,sX,sX];by_cases h1:qA g (eD r) < 0
   ·rw [if_pos (decide_eq_true h1)];rcases List.mem_cons.1 h with rfl | h
    ·exact ⟨t,bP,rfl,rfl⟩
    ·obtain ⟨s,a,b⟩:=FC hr (fun x hx=>hsm x (by simp [hx])) t h;exact ⟨s,by simp [a],b⟩
   ·rw [if_neg (by simpa using h1)];by_cases h2:qA (eD r) g < 0
    ·rw [if_pos (decide_eq_true h2)];exact ⟨t,List.mem_cons_of_mem _ h,rfl,rfl⟩
    ·rw [if_neg (by simpa using h2)];have h0:qA g (eD r)=0:=by have:=BS.anti g (eD r);omega
     obtain ⟨e1,e2⟩:=nZ hg hr h0;rcases List.mem_cons.1 h with rfl | h
     ·exact ⟨_,List.mem_cons_self,e1.symm,e2.symm⟩
     ·exact ⟨t,by simp [h],rfl,rfl⟩
theorem JT (r:Rec):∀ gs:List RSet,∃ s ∈ lK r gs,s.name=fold r.name∧s.kind=r.kind
 | []=>⟨eD r,by simp [lK],rfl,rfl⟩
 | g :: gs=>by
   obtain ⟨s,a,b⟩:=JT r gs;rw [lK];split
   ·exact ⟨s,by simp [a],b⟩
   ·split
    ·exact ⟨eD r,bP,rfl,rfl⟩
    ·exact ⟨_,List.mem_cons_self,rfl,rfl⟩
theorem Ch.newS {L:List Rec} {t:RSet} {r:Rec} (h:Ch L t) (hm:bT t r=true) (ht:t.data.Pairwise (· < ·)):Ch (L ++ [r]) (X.ZY r t):=by
 have hb:=h.bump hm;obtain ⟨e1,e2⟩:=fZ.1 hm;have hk:∀ q,bT (X.ZY r t) q=bT (X.lR t r) q:=fun q=>by simp only [bT,X.ZY,X.lR,e1,e2];rfl
 refine ⟨fun d => ?_,?_,fun q hq hmq => ?_⟩
 ·show d ∈ mA r.data t.data↔_;rw [(qD ht).2];have:=hb.dat d;simp only [hk];rw [← this];show _↔d ∈ t.data ++ [r.data];simp [or_comm]
 ·obtain ⟨q,a,b,c⟩:=hb.ttl;exact ⟨q,a,by rw [hk];exact b,by rw [c];show min t.ttl r.ttl=min r.ttl t.ttl;omega⟩
 ·have:=hb.low q hq (by rw [← hk];exact hmq);show min r.ttl t.ttl≤q.ttl;have h2:min t.ttl r.ttl≤q.ttl:=this;omega
theorem SQ {r:Rec} (h:EL r=true):Small (fold r.name):=by
 obtain ⟨ls,hl⟩:=Option.isSome_iff_exists.1 (mH (r:=r) (n:=[]) (by simpa [EL] using h)).1;exact ⟨r.name,ls,hl,rfl⟩
theorem BT {l:List Rec} (hok:l.all EL=true):∀ k,k≤l.length→SO (cZ (l.take k))∧(∀ s ∈ cZ (l.take k),Ch (l.take k) s∧s.data.Pairwise (· < ·)∧Small s.name)∧∀ q ∈ l.take k,∃ s ∈ cZ (l.take k),bT s q=true
 | 0,_=>by simp [cZ,SO]
 | k + 1,h=>by
   have hlt:k < l.length:=aE;obtain ⟨i1,i2,i3⟩:=BT hok k aE;have hr:=SQ (List.all_eq_true.1 hok _ (List.getElem_mem hlt));have hsm:∀ g ∈ cZ (l.take k),Small g.name:=fun g hg=>(i2 g hg).2.2;have e:l.take (k + 1)=l.take k ++ [l[k]]:=bP;rw [sC hlt,e];refine ⟨NL hr i1 hsm,fun s hs => ?_,fun q hq => ?_⟩
   ·rcases JR hr i1 hsm hs with ⟨a,b⟩ | ⟨t,a,b,rfl⟩ | ⟨a,rfl⟩
    ·exact ⟨(i2 s a).1.miss b,(i2 s a).2⟩
    ·exact ⟨(i2 t a).1.newS b (i2 t a).2.1,(qD (i2 t a).2.1).1,hr⟩
    ·refine ⟨Ch.new fun q hq => ?_,by simp [eD],hr⟩;obtain ⟨t,ht,hm⟩:=i3 q hq;cases hx:bT ⟨fold l[k].name,l[k].kind,l[k].ttl,[l[k].data]⟩ q with
     | false=>rfl
     | true =>
      exfalso
      obtain ⟨x1,x2⟩:=fZ.1 hx;obtain ⟨y1,y2⟩:=fZ.1 hm;have h5:bT t l[k]=true:=fZ.2 ⟨y1.trans x1.symm,y2.trans x2.symm⟩;rw [a t ht] at h5;cases h5
   ·rcases List.mem_append.1 hq with hq | hq
    ·obtain ⟨t,ht,hm⟩:=i3 q hq;obtain ⟨s,a,b,c⟩:=FC hr hsm t ht;obtain ⟨y1,y2⟩:=fZ.1 hm;exact ⟨s,a,fZ.2 ⟨b.trans y1,c.trans y2⟩⟩
    ·obtain rfl:=List.mem_singleton.1 hq;obtain ⟨s,a,b,c⟩:=JT l[k] (cZ (l.take k));exact ⟨s,a,fZ.2 ⟨b,c⟩⟩
theorem BU {l:List Rec} (hok:l.all EL=true):SO (cZ l)∧(∀ s ∈ cZ l,Ch l s∧s.data.Pairwise (· < ·)∧Small s.name)∧∀ q ∈ l,∃ s ∈ cZ l,bT s q=true:=by
 have:=BT hok l.length (Nat.le_refl _)
 rwa [List.take_length] at this
theorem yZ {l:List Rec} (hok:l.all EL=true):(cZ l).Perm (fU l):=by
 obtain ⟨i1,i2,i3⟩:=BU hok;have n1:(fU l).Nodup:=(vU _).imp fun h e=>by subst e;exact h ⟨rfl,rfl⟩
 have n0:(cZ l).Nodup:=i1.imp fun h e=>by subst e;have:=BS.refl ‹RSet›;omega
 refine (List.perm_ext_iff_of_nodup n0 n1).2 fun s=>⟨fun hs => ?_,fun hs => ?_⟩
 ·obtain ⟨hc,hst,_⟩:=i2 s hs;obtain ⟨q,h1,h2,_⟩:=hc.ttl;obtain ⟨t,ht,hm,_⟩:=BL h1;have hg:oX t ∈ fU l:=List.mem_map_of_mem ht;obtain ⟨hc',hst'⟩:=FB hg;obtain ⟨x1,x2⟩:=fZ.1 h2;obtain ⟨y1,y2⟩:=fZ.1 hm;have e:=hc.uniq hc' hst hst' (x1.trans y1.symm) (x2.trans y2.symm);rw [e];exact hg
 ·obtain ⟨hc,hst⟩:=FB hs;obtain ⟨q,h1,h2,_⟩:=hc.ttl;obtain ⟨t,ht,hm⟩:=i3 q h1;obtain ⟨hc',hst',_⟩:=i2 t ht;obtain ⟨x1,x2⟩:=fZ.1 h2;obtain ⟨y1,y2⟩:=fZ.1 hm;have e:=hc.uniq hc' hst hst' (x1.trans y1.symm) (x2.trans y2.symm);rw [e];exact ht
theorem DK {l:List Rec} (hok:l.all EL=true):uI (cZ l):=by
 obtain ⟨i1,_,_⟩:=BU hok;intro i j s t hij hi hj;obtain ⟨a,rfl⟩:=List.getElem?_eq_some_iff.1 hi;obtain ⟨b,rfl⟩:=List.getElem?_eq_some_iff.1 hj;have h:=List.pairwise_iff_getElem.1 i1 i j a b hij;have:=BS.anti (cZ l)[j] (cZ l)[i];show 0≤qA (cZ l)[j] (cZ l)[i];omega
theorem VO {l:List Rec} (hok:l.all EL=true) {out:List RSet} (hp:out.Perm (fU l)) (hs:uI out):out=cZ l :=
 LX hok hp (yZ hok) hs (DK hok)
theorem ZZ (l:List Rec):zO l=kE l:=by
 unfold zO kE;cases hok:l.all EL with
 | false=>simp
 | true =>
  have hp:=yZ hok;have hl:=hp.length_eq;have ha:(cZ l).any RY=(fU l).any RY:=by
   cases h:(fU l).any RY with
   | true =>
    obtain ⟨s,h1,h2⟩:=List.any_eq_true.1 h;exact List.any_eq_true.2 ⟨s,hp.mem_iff.2 h1,h2⟩
   | false =>
    cases h':(cZ l).any RY with
    | false=>rfl
    | true =>
     obtain ⟨s,h1,h2⟩:=List.any_eq_true.1 h';rw [List.any_eq_true.2 ⟨s,hp.mem_iff.1 h1,h2⟩] at h;cases h
  rw [ha,hl];simp only [Bool.true_eq_false,if_false];split <;> split <;> rfl
def pE:List Value:=[aI [], .slice none 0 0]
theorem FD:∀ {l:List (List UInt8)},x ∈ mA s l→x=s∨x ∈ l
 | [],h=>by simp [mA] at h;exact .inl h
 | y :: l,h=>by
   unfold mA at h;split at h
   ·rcases List.mem_cons.1 h with rfl | h
    ·exact .inr bP
    ·rcases FD h with h | h
     ·exact .inl h
     ·exact .inr (by simp [h])
   ·split at h
    ·exact .inr h
    ·rcases List.mem_cons.1 h with rfl | h
     ·exact .inl rfl
     ·exact .inr h
theorem JU {r:Rec}:∀ {gs:List RSet} {s:RSet} {d:List UInt8},s ∈ lK r gs→d ∈ s.data→d=r.data∨∃ t ∈ gs,d ∈ t.data
 | [],s,d,h,hd=>by
   have:s=eD r:=by simpa [lK] using h
   subst this;exact .inl (by simpa [eD] using hd)
 | g :: gs,s,d,h,hd=>by
   rw [lK] at h;split at h
   ·rcases List.mem_cons.1 h with rfl | h
    ·exact .inr ⟨s,bP,hd⟩
    ·rcases JU h hd with h | ⟨t,ht,h⟩
     ·exact .inl h
     ·exact .inr ⟨t,by simp [ht],h⟩
   ·split at h
    ·rcases List.mem_cons.1 h with rfl | h
     ·exact .inl (by simpa [eD] using hd)
     ·exact .inr ⟨s,h,hd⟩
    ·rcases List.mem_cons.1 h with rfl | h
     ·rcases FD hd with h | h
      ·exact .inl h
      ·exact .inr ⟨g,bP,h⟩
     ·exact .inr ⟨s,by simp [h],hd⟩
theorem BV {l:List Rec}:∀ k,k≤l.length→∀ s ∈ cZ (l.take k),∀ d ∈ s.data,∃ r ∈ l,d=r.data
 | 0,_,s,hs,_,_=>by simp [cZ] at hs
 | k + 1,h,s,hs,d,hd=>by
   rw [sC (show k < l.length by omega)] at hs;rcases JU hs hd with h1 | ⟨t,ht,h1⟩
   ·exact ⟨_,List.getElem_mem _,h1⟩
   ·exact BV k aE t ht d h1
theorem JV {l:List Rec} {s:RSet} (hs:s ∈ cZ l) (hd:d ∈ s.data):∃ r ∈ l,d=r.data :=
 BV l.length (Nat.le_refl _) s (by rw [List.take_length];exact hs) d hd
theorem MG (l:List Rec):∀ s ∈ cZ l,s.data.length≤l.length:=by
 have:=(tQ l l.length (Nat.le_refl _)).2
 rwa [List.take_length] at this
def mD (o:List UInt8) (l:List Rec):Int:=if zO l=0 then cB (fold o) (cZ l) else zO l
def sD (o:List UInt8) (l:List Rec):List UInt8:=if mD o l=0 then fold o else []
def sE (o:List UInt8) (l:List Rec):List RSet:=if mD o l=0 then cZ l else []
def LoadU (B:Nat) (o:List UInt8) (l:List Rec) (r:Value) (w':World):Prop :=
 ∃ v,r=.tuple #[.agg #[aI (sD o l),v], .int .i64 (mD o l)]∧SetsO B w' v (sE o l)
theorem LoadU.bad {l:List Rec} {e:Int} (h:mD o l=e) (he:e≠0):LoadU B o l (.tuple #[.agg pE.toArray, .int .i64 e]) w':=by
 refine ⟨.slice none 0 0,?_,?_⟩
 ·rw [h,sD,if_neg (by rw [h];exact he)];rfl
 ·rw [sE,if_neg (by rw [h];exact he)];exact SetsO.nil _ _
theorem LoadU.good {l:List Rec} (h:mD o l=0) (hv:SetsO B w' v (cZ l)):LoadU B o l (.tuple #[.agg #[aI (fold o),v], .int .i64 0]) w':=by
 refine ⟨v,?_,?_⟩
 ·rw [sD,if_pos h,h]
 ·rw [sE,if_pos h];exact hv
def ST (B:Nat) (l:List Rec) (r:Value) (w':World):Prop:=∃ v,r=.tuple #[v, .int .i64 (zO l)]∧(zO l=0→SetsO B w' v (cZ l))
theorem RefR.uni {l:List Rec} (h:RefR B l r w'):ST B l r w':=by
 unfold RefR at h;split at h
 ·rename_i h0;obtain ⟨v,rfl,hv⟩:=h;exact ⟨v,by rw [h0],fun _=>hv⟩
 ·rename_i h0;exact ⟨_,h,fun h1=>absurd h1 h0⟩
theorem GroupO.uni {l:List Rec} (h:GroupO B l r w'):ST B l r w':=by
 unfold GroupO at h;rw [← ZZ] at h;split at h
 ·rename_i h0;obtain ⟨out,v,rfl,hp,hs,hv⟩:=h;have hok:l.all EL=true:=by
   cases hok:l.all EL with
   | true=>rfl
   | false=>rw [zO,if_pos hok] at h0;cases h0
  have e:=VO hok hp hs;exact ⟨v,by rw [h0],fun _=>by rw [← e];exact hv⟩
 ·rename_i h0;exact ⟨_,h,fun h1=>absurd h1 h0⟩
theorem BW (h:v.oneCell'=true):(Value.agg #[aI o,v]).cells.all (·.oneCell')=true:=by
 simp [Value.cells,h,show (aI o).oneCell'=true from rfl]
theorem YI (o:List UInt8) (v:Value) (l:List Rec) (w:World) (hv:Sl 4 w v (aJ l)) (hl:l.length≤10000) (hd:∀ r ∈ l,r.data.length≤4611686018427387904):Calls Tryz.prog 10 #[aI o,v] w (oQ w (LoadU w.heap.size o l)):=by
 have hb:∀ s ∈ cZ l,s.data.length≤1000000:=fun s hs=>by have:=MG l s hs;omega
 have hd2:∀ s ∈ cZ l,∀ d ∈ s.data,d.length≤4611686018427387904:=fun s hs d hd3=>by
  obtain ⟨r,hr,rfl⟩:=JV hs hd3;exact hd r hr
 go_enter Tryz.func10,Tryz.ntmps10
 repeat' (first | ((with_reducible refine cQ ?_);go_step) | fail)
 refine fO (z:=pE) fun w1 x1 s1 h1 => ?_;refine aD ?_;have hv1:=hv.ext x1
 (repeat' first | ((with_reducible refine cQ ?_);go_step) | ((with_reducible refine bM ?_);first | refine fN ?_ | (refine cV ?_ ?_ <;> intro hc)) | fail)
 refine mR (enters_of Tryz.func27 rfl rfl) rfl rfl (Cq v l _ hv1 hl) ?_;intro r w2 x2 hr;obtain ⟨y,rfl,hy⟩:=hr.uni;clear hr;have h2:=x2.at h1;have hx2:=x1.trans x2;by_cases hE:zO l=0
 ·have hy:=hy hE;have hLE:mD o l=cB (fold o) (cZ l):=by rw [mD,if_pos hE]
  rw [hE];obtain ⟨ya,yn,yc,hys⟩:∃ a n c,y=.slice a n c:=by obtain ⟨css,h,_⟩:=hy;exact h.slf
  (repeat' first | ((with_reducible refine cQ ?_);go_step) | ((with_reducible refine bM ?_);first | refine fN ?_ | (refine cV ?_ ?_ <;> intro hc)) | fail)
  refine dL (enters_of Tryz.func28 rfl rfl) rfl rfl (RR o _) ?_;intro w3 x3;refine aD ?_;have h3:=x3.at h2;have hx3:=hx2.trans x3;have hy3:=hy.ext x3
  (repeat' first | ((with_reducible refine cQ ?_);go_step) | ((with_reducible refine bM ?_);first | refine fN ?_ | (refine cV ?_ ?_ <;> intro hc)) | fail)
  refine bZ (v:=.agg #[aI (fold o),y]) rfl (Runs.build (vals:=[(0,aI (fold o)),(1,y)]) rfl (by rw [hys];kernel_rfl)) ?_;refine aD ?_;refine fO (z:=pE) fun w4 x4 s4 h4 => ?_;refine aD ?_;have hy1:y.oneCell'=true:=by rw [hys];rfl
  refine dS (v:=.agg #[aI (fold o),y]) h4 (BW hy1) fun w5 p5 => ?_;have x5:=cH x4 p5;have h5:=aA (cs:=[aI (fold o),y]) p5.this;have hx5:=hx3.trans x5;have hy5:=hy3.ext x5;have hz5:=x5.at h3;clear p5 h4 x4
  (repeat' first | ((with_reducible refine cQ ?_);go_step) | ((with_reducible refine bM ?_);first | refine fN ?_ | (refine cV ?_ ?_ <;> intro hc)) | fail)
  refine dL (enters_of Tryz.func29 rfl rfl) rfl rfl (zZ (fold o) y (cZ l) _ hy5.sets hb) ?_;intro w6 x6;refine aD ?_;have h6:=h5.ext x6;have hx6:=hx5.trans x6;have hy6:=hy5.ext x6;have hz6:=x6.at hz5
  (repeat' first | ((with_reducible refine cQ ?_);go_step) | ((with_reducible refine bM ?_);first | refine fN ?_ | (refine cV ?_ ?_ <;> intro hc)) | fail)
  ·have q:¬ cB (fold o) (cZ l)=0:=by simpa using (by assumption:(!decide (cB (fold o) (cZ l)=0))=true)
   refine bZ (v:=.agg pE.toArray) rfl (Runs.build0 (by kernel_rfl)) ?_;refine aD ?_
   (repeat' first | ((with_reducible refine cQ ?_);go_step) | ((with_reducible refine bM ?_);first | refine fN ?_ | (refine cV ?_ ?_ <;> intro hc)) | fail)
   refine dS (v:=.agg pE.toArray) hz6 aR fun w7 p7 => ?_;have x7:=cH hx6 p7
   (repeat' first | ((with_reducible refine cQ ?_);go_step) | ((with_reducible refine bM ?_);first | refine fN ?_ | (refine cV ?_ ?_ <;> intro hc)) | fail)
   refine nH (cs:=pE) p7.this ⟨_,rfl,x7,?_⟩;exact LoadU.bad hLE q
  ·have q:cB (fold o) (cZ l)=0:=by simpa using (by assumption:(!decide (cB (fold o) (cZ l)=0))=false)
   refine dS (v:=.agg #[aI (fold o),y]) hz6 (BW hy1) fun w7 p7 => ?_;have x7:=cH hx6 p7;have hy7:=hy6.put p7 (by have:=s1;omega)
   (repeat' first | ((with_reducible refine cQ ?_);go_step) | ((with_reducible refine bM ?_);first | refine fN ?_ | (refine cV ?_ ?_ <;> intro hc)) | fail)
   refine nH (cs:=[aI (fold o),y]) p7.this ⟨_,rfl,x7,?_⟩;exact LoadU.good (by rw [hLE,q]) (hy7.weaken x1.size)
 ·have hLE:mD o l=zO l:=by rw [mD,if_neg hE]
  (repeat' first | ((with_reducible refine cQ ?_);go_step) | ((with_reducible refine bM ?_);first | refine fN ?_ | (refine cV ?_ ?_ <;> intro hc)) | fail)
  ·refine bZ (v:=.agg pE.toArray) rfl (Runs.build0 (by kernel_rfl)) ?_;refine aD ?_
   (repeat' first | ((with_reducible refine cQ ?_);go_step) | ((with_reducible refine bM ?_);first | refine fN ?_ | (refine cV ?_ ?_ <;> intro hc)) | fail)
   refine dS (v:=.agg pE.toArray) h2 aR fun w3 p3 => ?_;have x3:=cH hx2 p3
   (repeat' first | ((with_reducible refine cQ ?_);go_step) | ((with_reducible refine bM ?_);first | refine fN ?_ | (refine cV ?_ ?_ <;> intro hc)) | fail)
   refine nH (cs:=pE) p3.this ⟨_,rfl,x3,?_⟩;exact LoadU.bad hLE hE
  ·exact absurd (by assumption:(!decide (zO l=0))=false) (by simp [hE])
theorem wF {c:Value}:∀ (es:List (List Value)) (i j:Nat) (e:List Value),(∀ x ∈ es,x.length=k)→es[i]? = some e→j < k→(es.set i (e.set j c)).flatten=es.flatten.set (i * k + j) c
 | [],i,_,_,_,hi,_=>by simp at hi
 | x :: es,0,j,e,hall,hi,hj=>by
   have hx:=hall x bP;cases hi
   simp only [List.set_cons_zero,List.flatten_cons,Nat.zero_mul,Nat.zero_add];rw [List.set_append_left _ _ aE]
 | x :: es,i + 1,j,e,hall,hi,hj=>by
   have hx:=hall x bP;simp only [List.set_cons_succ,List.flatten_cons];rw [wF es i j e (fun y hy=>hall y (by simp [hy])) (by simpa using hi) hj];rw [List.set_append_right _ _ (by rw [Nat.add_mul];omega),show (i + 1) * k + j - x.length=i * k + j by rw [hx,Nat.add_mul];omega]
theorem Own.storeF {P:Program} {t:TypeId} {ce:List Value} {c:Value} (h:Own B k e w v es) (hi:es[i]? = some ce) (hj:j < k) (hs:gL P t 1=true) (h1:c.oneCell'=true) :
 ∃ w' b o,dZ (dY v (i * k)) j=.pointer (some ⟨b,o,none⟩)∧(storeVar t ⟨b,o,none⟩ c).run P w=.ok () w'∧Own B k e w' v (es.set i (ce.set j c))∧Mv v.ownBlock w w':=by
 have hil:=(List.getElem?_eq_some_iff.1 hi).1;have hce:ce.length=k:=h.each ce (List.mem_of_getElem? hi);have hcc:c.cells=#[c]:=by cases c <;> first | rfl | cases h1
 rcases h.row.2 with ⟨rfl,h0⟩ | ⟨g,cap,cur,fz,rfl,hb,hg,hfz,hnc,hcm,hcs,htake⟩
 ·omega
 ·have hl:=bI h.each;have hik:i * k + k≤es.length * k:=by
   have:(i + 1) * k≤es.length * k:=Nat.mul_le_mul_right k hil
   rwa [Nat.add_mul,Nat.one_mul] at this
  have hck:es.length * k≤cap * k:=Nat.mul_le_mul_right k hnc;have hst:=fD P g (i * k + j) e fz [c] 0 cur w hg hfz (by simp;omega) (by simpa using h1);simp only [Nat.add_zero,List.length_cons,List.length_nil,Nat.zero_add] at hst;have hset:cur.toList.take (i * k + j) ++ [c] ++ cur.toList.drop (i * k + j + 1)=cur.toList.set (i * k + j) c:=by
   rw [List.set_eq_take_append_cons_drop,if_pos (by simp;omega)];simp
  rw [hset] at hst;obtain ⟨ti,hq,hsz⟩:=uZ (lF hs);have hall:∀ x ∈ es.set i (ce.set j c),x.length=k:=by
   intro x hx;rcases List.mem_or_eq_of_mem_set hx with hx | rfl
   ·exact h.each x hx
   ·simpa using hce
  refine ⟨w.setRow g (cur.toList.set (i * k + j) c).toArray,g,i * k + j,by simp [dY,dZ,eI],?_,⟨⟨?_, .inr ⟨g,cap,(cur.toList.set (i * k + j) c).toArray,fz,?_,hb,setRow_heap w g cur _ e _ hg,?_,?_,hcm,?_,?_⟩⟩,hall⟩,⟨rfl,rfl,rfl,bP,fun k _ hk=>setRow_other w g k _ (fun e=>hk (by simp [Value.ownBlock,e])),Nat.le_refl _⟩⟩
  ·simpa [storeVar,sizeOf,typeInfo,hq,hsz,hcc] using hst
  ·rw [bI hall]
  ·simp
  ·simpa using hfz
  ·simpa using hnc
  ·simpa using hcs
  ·rw [wF es i j ce h.each hi hj,← htake];simp only [List.length_set,List.take_set]
section
variable {P:Program} {ops:Array Oper} {Q:Exit→Act→World→Prop} {w:World} {rest:List Oper} {ts:List Value} {df:List Deferred} {ty:TypeId} {ps:String} {af:Array Edge} {g:Option (Nat × Bool)}
theorem JW {c:Value} {ce:List Value} {t ty2:TypeId} {x y:Operand} (hw:Region.wanted (Oper.mk none (.store t x y) ty2 ps af g) (yielded ops ts.toArray)=true)
 (hx:(Act.mk ts.toArray df).eval x=dZ (dY v (i * k)) j) (hy:(Act.mk ts.toArray df).eval y=c) (h:Own B k e w v es) (hi:es[i]? = some ce) (hj:j < k) (hs:gL P t 1=true) (h1:c.oneCell'=true)
 (hk:∀ w',Own B k e w' v (es.set i (ce.set j c))→Mv v.ownBlock w w'→wpList P ops Q rest (Act.mk ts.toArray df) w'):wpList P ops Q (Oper.mk none (.store t x y) ty2 ps af g :: rest) (Act.mk ts.toArray df) w:=by
 obtain ⟨w',b,o,he,hr,ho,hm⟩:=h.storeF (P:=P) hi hj hs h1;refine lG hw (w':=w') ?_ (hk w' ho hm);simp [execOp,hx,hy,he,Instr.storeAt,Instr.sureAddr,hr]
end
structure SetsW (B:Nat) (w:World) (css:List (List Value)) (l:List RSet):Prop where
 len:css.length=l.length
 at':∀ (i:Nat) (s:RSet),l[i]? = some s→∃ x,css[i]? = some [aI s.name, .int .i64 s.kind, .int .i64 s.ttl,x]∧Own B 1 9 w x (aK s.data)
theorem SetsW.sets {l:List RSet} (h:SetsW B w css l):SetsC w css l :=
 ⟨h.len,fun i s hi=>let ⟨x,a,b⟩:=h.at' i s hi;⟨x,a,b.sl⟩⟩
theorem SetsW.ext {l:List RSet} (h:SetsW B w css l) (hx:Ext w w'):SetsW B w' css l :=
 ⟨h.len,fun i s hi=>let ⟨x,a,b⟩:=h.at' i s hi;⟨x,a,b.ext hx⟩⟩
theorem SetsW.mv {B' k' e':Nat} {l:List RSet} (h:SetsW B w css l) (ho:Own B' k' e' w v es) (he:9≠e') (hm:Mv v.ownBlock w w'):SetsW B w' css l :=
 ⟨h.len,fun i s hi=>let ⟨x,a,b⟩:=h.at' i s hi;⟨x,a,b.mv hm (b.ne ho he)⟩⟩
theorem SetsW.put {t:Nat} {l:List RSet} {o:Obj} (h:SetsW B w css l) (hb:w.heap[b]? = some (.cells cs t fz)) (ht:t≠9) (hp:Put w w' b o):SetsW B w' css l :=
 ⟨h.len,fun i s hi=>let ⟨x,a,c⟩:=h.at' i s hi;⟨x,a,c.mv hp.mv (.inr (c.neBlock hb ht))⟩⟩
theorem SetsW.weaken {C:Nat} {l:List RSet} (h:SetsW B w css l) (hc:C≤B):SetsW C w css l :=
 ⟨h.len,fun i s hi=>let ⟨x,a,b⟩:=h.at' i s hi;⟨x,a,b.weaken hc⟩⟩
theorem SetsW.append {l m:List RSet} {c d:List (List Value)} (h:SetsW B w c l) (k:SetsW B w d m):SetsW B w (c ++ d) (l ++ m):=by
 refine ⟨by rw [List.length_append,List.length_append,h.len,k.len],fun i s hi => ?_⟩;rw [List.getElem?_append] at hi ⊢;rw [h.len];split at hi
 ·rw [if_pos ‹_›];exact h.at' i s hi
 ·rw [if_neg ‹_›];exact k.at' _ s hi
theorem SetsW.one {s:RSet} {x:Value} (h:Own B 1 9 w x (aK s.data)):SetsW B w [[aI s.name, .int .i64 s.kind, .int .i64 s.ttl,x]] [s] :=
 ⟨rfl,fun i t hi=>by
  match i,hi with
  | 0,hi=>cases hi;exact ⟨x,rfl,h⟩⟩
theorem SetsW.nil (B:Nat) (w:World):SetsW B w [] []:=⟨rfl,bP⟩
theorem SetsW.from' {C:Nat} {l:List RSet} (h:SetsW B w css l) (hc:C≤B):FromC C css:=by
 intro f hf u hu;obtain ⟨i,hi,rfl⟩:=List.mem_iff_getElem.1 hf;obtain ⟨x,h1,h2⟩:=h.at' i _ (List.getElem?_eq_getElem (by rw [← h.len];exact hi));rw [List.getElem?_eq_getElem hi] at h1;rw [Option.some.inj h1] at hu;exact (FromC.one (h2.from' hc)) _ (List.mem_singleton.2 rfl) u hu
structure SetsV (B:Nat) (w:World) (v:Value) (l:List RSet):Prop where
 out:∃ css,Own B 4 117 w v css∧SetsW B w css l
theorem SetsV.ext {l:List RSet} (h:SetsV B w v l) (hx:Ext w w'):SetsV B w' v l:=by
 obtain ⟨css,h1,h2⟩:=h;exact ⟨css,h1.ext hx,h2.ext hx⟩
theorem SetsV.weaken {C:Nat} {l:List RSet} (h:SetsV B w v l) (hc:C≤B):SetsV C w v l:=by
 obtain ⟨css,h1,h2⟩:=h;exact ⟨css,h1.weaken hc,h2.weaken hc⟩
theorem SetsV.put {t:Nat} {l:List RSet} {o:Obj} (h:SetsV B w v l) (hb:w.heap[b]? = some (.cells cs t fz)) (ht:t≠9) (ht2:t≠117) (hp:Put w w' b o):SetsV B w' v l:=by
 obtain ⟨css,h1,h2⟩:=h;exact ⟨css,h1.mv hp.mv (.inr (h1.neBlock hb ht2)),h2.put hb ht hp⟩
theorem SetsV.slf {l:List RSet} (h:SetsV B w v l):∃ a n c,v=.slice a n c:=by
 obtain ⟨css,h1,h2⟩:=h;exact h1.sl.slf
def XG (s:SoaR) (n:Int):SoaR:={ s with serial:=n }
def SU (o:List UInt8) (l:List RSet) (n:Int):Int:=if cB o l=0 then (if (XG (eK o l) n).ok=true then 0 else 1) else cB o l
def Aa (o:List UInt8) (l:List RSet) (n:Int):List UInt8:=(XG (eK o l) n).data
def uM (d:List UInt8) (s:RSet):RSet:=if s.kind=6 then ⟨s.name,s.kind,s.ttl,[d]⟩ else s
def YJ (o:List UInt8) (l:List RSet) (n:Int):List RSet:=if SU o l n=0 then l.map (uM (Aa o l n)) else []
def YK (o:List UInt8) (l:List RSet) (n:Int):List UInt8:=if SU o l n=0 then o else []
def RenU (B:Nat) (o:List UInt8) (l:List RSet) (n:Int) (r:Value) (w':World):Prop :=
 ∃ v,r=.tuple #[.agg #[aI (YK o l n),v], .int .i64 (SU o l n)]∧SetsO B w' v (YJ o l n)
theorem RenU.bad {l:List RSet} {n e:Int} (h:SU o l n=e) (he:e≠0):RenU B o l n (.tuple #[.agg pE.toArray, .int .i64 e]) w':=by
 refine ⟨.slice none 0 0,?_,?_⟩
 ·rw [h,YK,if_neg (by rw [h];exact he)];rfl
 ·rw [YJ,if_neg (by rw [h];exact he)];exact SetsO.nil _ _
theorem RenU.good {l:List RSet} {n:Int} (h:SU o l n=0) (hv:SetsO B w' v (l.map (uM (Aa o l n)))):RenU B o l n (.tuple #[.agg #[aI o,v], .int .i64 0]) w':=by
 refine ⟨v,?_,?_⟩
 ·rw [YK,if_pos h,h]
 ·rw [YJ,if_pos h];exact hv
theorem ZoneOk.one6 {l:List RSet} (h:ZoneOk o l) {s:RSet} (hs:s ∈ l) (h6:s.kind=6):s.name=o∧s.data.length=1:=by
 have hr:=h.right s hs;simp only [eM,Bool.and_eq_true,Bool.not_eq_true',h6] at hr;have:=hr.1.1.2;simp only [decide_true,Bool.true_and,Bool.or_eq_false_iff,decide_eq_false_iff_not,ne_eq,Decidable.not_not] at this;exact this
theorem NM {s:RSet} (h:¬ s.kind=6):uM d s=s:=by rw [uM,if_neg h]
theorem JX {s:RSet} (h:s.kind=6):uM d s=⟨s.name,s.kind,s.ttl,[d]⟩:=by rw [uM,if_pos h]
theorem SetsW.set {l:List RSet} (h:SetsW B w css l) {s:RSet} {x:Value} (hx:Own B 1 9 w x (aK s.data)):SetsW B w (css.set i [aI s.name, .int .i64 s.kind, .int .i64 s.ttl,x]) (l.set i s):=by
 refine ⟨by rw [List.length_set,List.length_set,h.len],fun j t hj => ?_⟩;by_cases e:i=j
 ·subst e;have hlt:i < l.length:=by have:=(List.getElem?_eq_some_iff.1 hj).1;simpa using this
  rw [List.getElem?_set_self hlt] at hj;cases hj
  exact ⟨x,List.getElem?_set_self (by rw [h.len];exact hlt),hx⟩
 ·rw [List.getElem?_set_ne e] at hj;rw [List.getElem?_set_ne e];exact h.at' j t hj
structure SetsM (B:Nat) (w0 w:World) (css0 css:List (List Value)) (l:List RSet) (d:List UInt8) (k:Nat):Prop where
 len:css.length=l.length
 new:∀ (i:Nat) (s:RSet),l[i]? = some s→i < k→∃ x,css[i]? = some [aI s.name, .int .i64 s.kind, .int .i64 s.ttl,x]∧Own B 1 9 w x (aK (uM d s).data)
 old:∀ i,k≤i→css[i]? = css0[i]?
theorem SetsM.ext {l:List RSet} (h:SetsM B w0 w css0 css l d k) (hx:Ext w w'):SetsM B w0 w' css0 css l d k :=
 ⟨h.len,fun i s hi hk=>let ⟨x,a,b⟩:=h.new i s hi hk;⟨x,a,b.ext hx⟩,h.old⟩
theorem SetsM.mv {l:List RSet} (h:SetsM B w0 w css0 css l d k) (hm:Mv row w w') (hne:∀ x es,Own B 1 9 w x es→x.ownBlock=none∨x.ownBlock≠row):SetsM B w0 w' css0 css l d k :=
 ⟨h.len,fun i s hi hk=>let ⟨x,a,b⟩:=h.new i s hi hk;⟨x,a,b.mv hm (hne x _ b)⟩,h.old⟩
theorem SetsM.step {l:List RSet} (h:SetsM B w0 w css0 css l d k) (hk:k < l.length) {y:Value} (hy:Own B 1 9 w y (aK (uM d l[k]).data)) :
 SetsM B w0 w css0 (css.set k [aI l[k].name, .int .i64 l[k].kind, .int .i64 l[k].ttl,y]) l d (k + 1):=by
 refine ⟨by rw [List.length_set,h.len],fun i s hi hik => ?_,fun i hi => ?_⟩
 ·by_cases e:k=i
  ·subst e;rw [List.getElem?_eq_getElem hk] at hi;cases hi
   exact ⟨y,List.getElem?_set_self (by rw [h.len];exact hk),hy⟩
  ·obtain ⟨x,a,b⟩:=h.new i s hi aE;exact ⟨x,by rw [List.getElem?_set_ne e];exact a,b⟩
 ·rw [List.getElem?_set_ne aE];exact h.old i aE
theorem PK {s:RSet}:(uM d s).name=s.name∧(uM d s).kind=s.kind∧(uM d s).ttl=s.ttl:=by
 unfold uM;split <;> exact ⟨rfl,rfl,rfl⟩
theorem SetsM.done {l:List RSet} (h:SetsM B w0 w css0 css l d l.length):SetsW B w css (l.map (uM d)):=by
 refine ⟨by rw [List.length_map,h.len],fun i s hi => ?_⟩;rw [List.getElem?_map] at hi;cases hq:l[i]? with
 | none=>rw [hq] at hi;cases hi
 | some t =>
  rw [hq] at hi;cases hi
  obtain ⟨x,a,b⟩:=h.new i t hq (List.getElem?_eq_some_iff.1 hq).1;obtain ⟨e1,e2,e3⟩:=PK (d:=d) (s:=t);exact ⟨x,by rw [e1,e2,e3];exact a,b⟩
theorem SV {s:SoaR} (h:cW d=some s):s.ok=true:=by
 unfold cW at h;simp only at h;split at h
 ·rename_i hh;cases h;exact hh.2.2.2
 ·cases h
theorem ZoneOk.only {l:List RSet} (h:ZoneOk o l) {s:RSet} (hs:s ∈ l) (h6:s.kind=6):s.data=[jV o l]:=by
 obtain ⟨t,ht,_,_,_,hd,_⟩:=h.soaSet;obtain ⟨i,hi,rfl⟩:=List.mem_iff_getElem.1 hs;have hf:=sU h.chk hi;rw [h6,(h.one6 hs h6).1,ht] at hf;rw [← Option.some.inj hf];exact hd
theorem ZoneOk.back {l:List RSet} (h:ZoneOk o l):(l.map (uM d)).map (uM (jV o l))=l:=by
 rw [List.map_map]
 conv=>rhs;rw [← List.map_id l]
 apply List.map_congr_left;intro s hs;simp only [Function.comp,id];by_cases h6:s.kind=6
 ·rw [JX (d:=d) h6,JX (by exact h6)];have:=h.only hs h6;cases s
  simp only at this;rw [this]
 ·rw [NM (d:=d) h6,NM h6]
theorem SW {s:RSet} (h:gV s=true) (hi:i + 1 < s.data.length):s.data[i] < s.data[i + 1]:=by
 simp only [gV,Bool.and_eq_true,List.all_eq_true] at h;have:=h.2 (i + 1) (by simpa using hi);simp only [lI,Bool.not_eq_true',Bool.or_eq_false_iff,Bool.and_eq_false_iff,decide_eq_false_iff_not] at this;have h2:=this.2.resolve_left aE;have e1:s.data.getD (i + 1 - 1) []=s.data[i]:=by simp [show i < s.data.length by omega]
 have e2:s.data.getD (i + 1) []=s.data[i + 1]:=by simp [hi]
 rw [e1,e2] at h2;exact IS.1 (by simpa using h2)
theorem BX {s:RSet} (h:gV s=true) (i:Nat):∀ j (hij:i < j) (hj:j < s.data.length),s.data[i] < s.data[j]
 | 0,hij,_=>by omega
 | j + 1,hij,hj=>by
   have h1:=SW h hj;by_cases e:i=j
   ·subst e;exact h1
   ·exact Std.lt_trans (BX h i j aE aE) h1
theorem oF {l:List RSet} {r:Rec} (h:r ∈ aO l):∃ s ∈ l,∃ d ∈ s.data,r=iE s d:=by
 simp only [aO,List.mem_flatten,List.mem_map] at h;obtain ⟨rs,⟨s,hs,rfl⟩,hr⟩:=h;simp only [bV,List.mem_map] at hr;obtain ⟨d,hd,rfl⟩:=hr;exact ⟨s,hs,d,hd,rfl⟩
def FE (a b:List Rec):List Rec:=a.filter fun r => !decide (r ∈ b)
structure DeltaR where
 fr:Int
 to:Int
 gone:List Rec
 new:List Rec
 deriving DecidableEq,Inhabited
def XH:DeltaR:=⟨0,0,[],[]⟩
def Ab (oa:List UInt8) (la:List RSet) (ob:List UInt8) (lb:List RSet):Int :=
 if cB oa la=0 then (if cB ob lb=0 then (if oa=ob then 0 else 1) else cB ob lb) else cB oa la
def Ac (oa:List UInt8) (la:List RSet) (ob:List UInt8) (lb:List RSet):DeltaR :=
 if Ab oa la ob lb=0 then ⟨(eK oa la).serial,(eK ob lb).serial,FE (aO la) (aO lb),FE (aO lb) (aO la)⟩ else XH
def XI:List Rec→List Rec→Option (List Rec)
 | l,[]=>some l
 | l,r :: g=>if r ∈ l then XI (l.erase r) g else none
def Ad:List Rec→List Rec→Option (List Rec)
 | l,[]=>some l
 | l,r :: g=>if r ∈ l then none else Ad (l ++ [r]) g
def NN (l:List Rec) (d:DeltaR):Option (List Rec):=(XI l d.gone).bind fun m=>Ad m d.new
def Ae (o:List UInt8) (m:List Rec) (to:Int):Int :=
 if mD o m=0 then (if (eK (sD o m) (sE o m)).serial=to∧(aO (sE o m)).length=m.length∧FE m (aO (sE o m))=[] then 0 else 2) else mD o m
def uN (o:List UInt8) (l:List RSet) (d:DeltaR):Int :=
 if cB o l=0 then (if (eK o l).serial=d.fr then (match NN (aO l) d with
  | none=>5
  | some m=>Ae o m d.to) else 7) else cB o l
def MH (o:List UInt8) (l:List RSet) (d:DeltaR):List RSet:=if uN o l d=0 then sE o ((NN (aO l) d).getD []) else []
def JY (o:List UInt8) (l:List RSet) (d:DeltaR):List UInt8:=if uN o l d=0 then sD o ((NN (aO l) d).getD []) else []
theorem PL {s:RSet} {e:List UInt8} (h:iE s d=iE s e):d=e:=by simpa [iE] using h
theorem ZoneOk.nodup {l:List RSet} (h:ZoneOk o l):(aO l).Nodup:=by
 unfold aO List.Nodup;rw [List.pairwise_flatten];constructor
 ·intro rs hrs;obtain ⟨s,hs,rfl⟩:=List.mem_map.1 hrs;unfold bV;rw [List.pairwise_map,List.pairwise_iff_getElem];intro i j hi hj hij he;have h1:=BX (h.may hs) i j hij hj;rw [PL he] at h1;exact Std.lt_irrefl h1
 ·rw [List.pairwise_map,List.pairwise_iff_getElem];intro i j hi hj hij x hx y hy he;simp only [bV,List.mem_map] at hx hy;obtain ⟨d,_,rfl⟩:=hx;obtain ⟨e,_,rfl⟩:=hy;simp only [iE,Rec.mk.injEq] at he;have h1:=kH h.chk i j hij hj;rw [he.1,he.2.1] at h1;have h2:=kV.refl (l[j].name,l[j].kind);simp only at h2;omega
theorem Ch.same {L M:List Rec} {s:RSet} (h:Ch L s) (hm:∀ r,r ∈ L↔r ∈ M):Ch M s where
 dat d:=by
  rw [h.dat];constructor
  ·rintro ⟨r,h1,h2⟩;exact ⟨r,(hm r).1 h1,h2⟩
  ·rintro ⟨r,h1,h2⟩;exact ⟨r,(hm r).2 h1,h2⟩
 ttl:=let ⟨r,h1,h2⟩:=h.ttl;⟨r,(hm r).1 h1,h2⟩
 low r h1 h2:=h.low r ((hm r).2 h1) h2
theorem Af {oa ob:List UInt8} {la lb:List RSet} (h:Ab oa la ob lb=0):ZoneOk oa la∧ZoneOk oa lb∧oa=ob∧Ac oa la ob lb=⟨(eK oa la).serial,(eK oa lb).serial,FE (aO la) (aO lb),FE (aO lb) (aO la)⟩:=by
 have h0:=h;unfold Ab at h;split at h
 ·rename_i q1;split at h
  ·rename_i q2;split at h
   ·rename_i q3;subst q3;exact ⟨kI q1,kI q2,rfl,by rw [Ac,if_pos h0]⟩
   ·cases h
  ·rename_i q2;exact absurd h q2
 ·rename_i q1;exact absurd h q1
def PM:List Value:=[aI [], .int .i64 0, .int .i64 0,aI []]
theorem wH (v:Value) (l:List Rec) (w:World) (hv:Sl 4 w v (aJ l)) (hl:l.length≤1000000):Calls Tryz.prog 44 #[v] w (oQ w fun v' w'=>Own w.heap.size 4 67 w' v' (aJ l)):=by
 have hlen:=aN l;go_enter Tryz.func44,Tryz.ntmps44
 (repeat' first | ((with_reducible refine cQ ?_);go_step) | ((with_reducible refine bM ?_);first | refine fN ?_ | (refine cV ?_ ?_ <;> intro hc)) | fail)
 ·have hn:=‹IL v=true›;go_ret;have:aJ l=[]:=hv.isNil hn;refine ⟨_,rfl,Ext.refl _,?_⟩;rw [this];exact Own.nil _ _ _ _
 ·refine tY (t:=41) (e:=67) (k:=4) (bytes:=48) aR rfl ?_;intro v2 w2 x2 s2 o2;refine aD ?_
  (repeat' first | ((with_reducible refine cQ ?_);go_step) | ((with_reducible refine bM ?_);first | refine fN ?_ | (refine cV ?_ ?_ <;> intro hc)) | fail)
  refine aZ (B:=w.heap.size) (e:=67) rfl o2 rfl (hv.ext x2) (by intro f hf u hu;obtain ⟨r,_,rfl⟩:=List.mem_map.1 hf;simp only [Rec.cells,List.mem_cons,List.not_mem_nil,or_false] at hu;rcases hu with rfl | rfl | rfl | rfl <;> rfl) x2.size (by simp;omega) ?_;intro v3 w3 o3 m3 _;have x3:=o2.mvx m3 x2 (Nat.le_refl _);refine aD ?_
  (repeat' first | ((with_reducible refine cQ ?_);go_step) | ((with_reducible refine bM ?_);first | refine fN ?_ | (refine cV ?_ ?_ <;> intro hc)) | fail)
  go_ret;exact ⟨_,rfl,x3,by simpa using o3⟩
end Go.Proofs.X
namespace Go.Proofs.X
open Go.RowKit
def Bi:List Value:=[.int .i64 0, .int .i64 0, .slice none 0 0, .slice none 0 0]
def DelA (d:DeltaR) (r:Value) (w:World):Prop:=∃ g n,r=.agg #[.int .i64 d.fr, .int .i64 d.to,g,n]∧Sl 4 w g (aJ d.gone)∧Sl 4 w n (aJ d.new)
def DelO (B:Nat) (d:DeltaR) (r:Value) (w:World):Prop:=∃ g n,r=.agg #[.int .i64 d.fr, .int .i64 d.to,g,n]∧Own B 4 67 w g (aJ d.gone)∧Own B 4 67 w n (aJ d.new)
theorem DelO.a {B:Nat} {d:DeltaR} {r:Value} {w:World} (h:DelO B d r w):DelA d r w:=let ⟨g,n,e,a,b⟩:=h;⟨g,n,e,a.sl,b.sl⟩
def DelU (B:Nat) (d:DeltaR) (e:Int) (r:Value) (w:World):Prop:=∃ y,r=.tuple #[y, .int .i64 e]∧DelO B d y w
theorem DelU.bad {B:Nat} {d:DeltaR} {e:Int} {w:World} (h:d=XH):DelU B d e (.tuple #[.agg Bi.toArray, .int .i64 e]) w:=by
 subst h;exact ⟨_,rfl,_,_,rfl,Own.nil _ _ _ _,Own.nil _ _ _ _⟩
variable {cs:Array Value} {held:Bool} {qt:Int} {ps rs:List (List UInt8 × Nat)} {ls:List (List UInt8)} {css css0 es:List (List Value)} {d l m n o qn s t x y z:List UInt8} {B a b base c e fuel i j k p q:Nat} {fz:Nat × Nat} {row:Option Nat} {r u v:Value} {w w' w0 w1 w2:World}
structure OwnOff (B k:Nat) (e:TypeId) (w:World) (v:Value) (es:List (List Value)):Prop where
 row:(v=.slice none 0 0∧es=[])∨∃ g o cap cur fz,v=.slice (some ⟨g,o * k,none⟩) es.length cap∧B≤g∧w.heap[g]? = some (.cells cur e fz)∧(fz.2≤fz.1∨cur.size≤fz.1)∧es.length≤cap∧cap≤maxLen∧(o + cap) * k≤cur.size∧(cur.toList.drop (o * k)).take (es.length * k)=es.flatten
 each:∀ x ∈ es,x.length=k
theorem Own.off (h:Own B k e w v es):OwnOff B k e w v es:=by
 refine ⟨?_,h.each⟩;rcases h.row.2 with ⟨rfl,h0⟩ | ⟨g,cap,cur,fz,rfl,hb,hg,hfz,hnc,hcm,hcs,htake⟩
 ·exact .inl ⟨rfl,List.eq_nil_of_length_eq_zero h0⟩
 ·exact .inr ⟨g,0,cap,cur,fz,bP,hb,hg,hfz,hnc,hcm,by rw [Nat.zero_add];exact Nat.le_of_eq hcs.symm,by simpa using htake⟩
theorem OwnOff.nil (B k:Nat) (e:TypeId) (w:World):OwnOff B k e w (.slice none 0 0) []:=(Own.nil B k e w).off
theorem OwnOff.type (h:OwnOff B k e w v es) {r:Nat} (hr:v.ownBlock=some r):B≤r∧r < w.heap.size∧∃ cur fz,w.heap[r]? = some (.cells cur e fz):=by
 rcases h.row with ⟨rfl,_⟩ | ⟨g,o,cap,cur,fz,rfl,hb,hg,_⟩
 ·simp [Value.ownBlock] at hr
 ·simp [Value.ownBlock] at hr;subst hr;exact ⟨hb,(Array.getElem?_eq_some_iff.1 hg).1,cur,fz,hg⟩
theorem OwnOff.neBlock {t:Nat} (h:OwnOff B k e w v es) (hb:w.heap[b]? = some (.cells cs t fz)) (ht:t≠e):v.ownBlock≠some b:=fun e'=>by
 obtain ⟨_,_,cur,fz',h'⟩:=h.type e';rw [hb] at h';simp only [Option.some.injEq,Obj.cells.injEq] at h';exact ht h'.2.1
theorem OwnOff.mv (h:OwnOff B k e w v es) (hm:Mv row w w') (hne:v.ownBlock=none∨v.ownBlock≠row):OwnOff B k e w' v es:=by
 refine ⟨h.row.imp id ?_,h.each⟩;rintro ⟨g,o,cap,cur,fz,rfl,hb,hg,r⟩;refine ⟨g,o,cap,cur,fz,rfl,hb,hm.at hg ?_,r⟩;rcases hne with hne | hne
 ·simp [Value.ownBlock] at hne
 ·simpa [Value.ownBlock] using hne
theorem OwnOff.ext (h:OwnOff B k e w v es) (hx:Ext w w'):OwnOff B k e w' v es:=by
 refine ⟨h.row.imp id ?_,h.each⟩;rintro ⟨g,o,cap,cur,fz,rfl,hb,hg,r⟩;exact ⟨g,o,cap,cur,fz,rfl,hb,hx.at hg,r⟩
theorem OwnOff.weaken {C:Nat} (h:OwnOff B k e w v es) (hc:C≤B):OwnOff C k e w v es :=
 ⟨h.row.imp id fun ⟨g,o,cap,cur,fz,a,b,r⟩=>⟨g,o,cap,cur,fz,a,Nat.le_trans hc b,r⟩,h.each⟩
theorem OwnOff.sl (h:OwnOff B k e w v es):Sl k w v es:=by
 rcases h.row with ⟨rfl,rfl⟩ | ⟨g,o,cap,cur,fz,rfl,hb,hg,hfz,hnc,hcm,hcs,htake⟩
 ·exact Sl.nil _ _
 ·refine ⟨_,cap,rfl,hnc,by unfold maxLen at hcm;omega,h.each,(fun e=>by cases e),fun _=>⟨g,o * k,rfl,?_⟩⟩;intro i ce j x hi hj;have hfl:=kR h.each hi hj;rw [← htake,List.getElem?_take] at hfl;split at hfl
  ·rw [List.getElem?_drop] at hfl;have hlt:o * k + (i * k + j) < cur.size:=by
    have:=(List.getElem?_eq_some_iff.1 hfl).1
    simpa using this
   simp only [World.cell?,hg];rw [← Nat.add_assoc] at hfl
   simpa [Array.getElem?_toList] using hfl
  ·cases hfl
theorem OwnOff.drop (h:OwnOff B k e w v es) {m:Nat} (hm:m≤es.length):OwnOff B k e w (dG v k m es.length) (es.drop m):=by
 refine ⟨?_,fun x hx=>h.each x (List.mem_of_mem_drop hx)⟩;rcases h.row with ⟨rfl,rfl⟩ | ⟨g,o,cap,cur,fz,rfl,hb,hg,hfz,hnc,hcm,hcs,htake⟩
 ·have:m=0:=by simpa using hm
  subst this;exact .inl ⟨by simp [dG],rfl⟩
 ·have hfl:=bI h.each;by_cases hc:cap=m
  ·have hlm:es.length=m:=aE;refine .inr ⟨g,o,0,cur,fz,?_,hb,hg,hfz,?_,by unfold maxLen;omega,?_,?_⟩
   ·simp [dG,hc,hlm]
   ·simp [hlm]
   ·have:(o + 0) * k≤(o + cap) * k:=Nat.mul_le_mul_right k aE;omega
   ·have h0:es.drop m=[]:=by rw [← hlm,List.drop_length]
    rw [h0];simp
  ·refine .inr ⟨g,o + m,cap - m,cur,fz,?_,hb,hg,hfz,?_,aE,?_,?_⟩
   ·simp [dG,hc,eI,Nat.add_mul]
   ·simp;omega
   ·rw [show o + m + (cap - m)=o + cap by omega];exact hcs
   ·have hd:=pR es m h.each;rw [hd,← htake,List.drop_take,List.drop_drop,List.length_drop,Nat.add_mul,← Nat.sub_mul]
section
variable {P:Program} {ops:Array Oper} {Q:Exit→Act→World→Prop} {w:World} {rest:List Oper} {ts:List Value} {df:List Deferred} {ty:TypeId} {ps:String} {af:Array Edge}
end
theorem Pts.front {p:Value} {vs:List Value} (h:Pts w p vs) (n:Nat):Pts w p (vs.take n):=by
 obtain ⟨b,o,e,hc⟩:=h;refine ⟨b,o,e,fun j x hx=>hc j x ?_⟩;rw [List.getElem?_take] at hx;split at hx
 ·exact hx
 ·cases hx
section
variable {P:Program} {w:World} {ts:List Value} {df:List Deferred} {d:Option Nat} {ty:TypeId} {ps:String} {af:Array Edge} {g:Option (Nat × Bool)}
end
structure SetsN (B:Nat) (w:World) (css0 css:List (List Value)) (l:List RSet) (k:Nat):Prop where
 len:css.length=l.length
 new:∀ (i:Nat) (s:RSet),l[i]? = some s→i < k→∃ x,css[i]? = some [aI s.name, .int .i64 s.kind, .int .i64 s.ttl,x]∧Own B 1 9 w x (aK s.data)
 old:∀ i,k≤i→css[i]? = css0[i]?
theorem SetsN.ext {l:List RSet} (h:SetsN B w css0 css l k) (hx:Ext w w'):SetsN B w' css0 css l k :=
 ⟨h.len,fun i s hi hk=>let ⟨x,a,b⟩:=h.new i s hi hk;⟨x,a,b.ext hx⟩,h.old⟩
theorem SetsN.mv {l:List RSet} (h:SetsN B w css0 css l k) (hm:Mv row w w') (hne:∀ x es,Own B 1 9 w x es→x.ownBlock=none∨x.ownBlock≠row):SetsN B w' css0 css l k :=
 ⟨h.len,fun i s hi hk=>let ⟨x,a,b⟩:=h.new i s hi hk;⟨x,a,b.mv hm (hne x _ b)⟩,h.old⟩
theorem SetsN.step {l:List RSet} (h:SetsN B w css0 css l k) (hk:k < l.length) {y:Value} (hy:Own B 1 9 w y (aK l[k].data)) :
 SetsN B w css0 (css.set k [aI l[k].name, .int .i64 l[k].kind, .int .i64 l[k].ttl,y]) l (k + 1):=by
 refine ⟨by rw [List.length_set,h.len],fun i s hi hik => ?_,fun i hi => ?_⟩
 ·by_cases e:k=i
  ·subst e;rw [List.getElem?_eq_getElem hk] at hi;cases hi
   exact ⟨y,List.getElem?_set_self (by rw [h.len];exact hk),hy⟩
  ·obtain ⟨x,a,b⟩:=h.new i s hi aE;exact ⟨x,by rw [List.getElem?_set_ne e];exact a,b⟩
 ·rw [List.getElem?_set_ne aE];exact h.old i aE
theorem SetsN.done {l:List RSet} (h:SetsN B w css0 css l l.length):SetsW B w css l :=
 ⟨h.len,fun i s hi=>h.new i s hi (List.getElem?_eq_some_iff.1 hi).1⟩
section
variable {P:Program} {a:Act} {w:World} {d:Option Nat} {ty:TypeId} {ps:String} {af:Array Edge} {g:Option (Nat × Bool)}
theorem Runs.isNil {t u:TypeId} {x y:Operand} {p:Option Addr} (hx:a.eval x=.pointer p) (hy:a.eval y=.pointer none) (ht:P.underlying t=some (.pointer (P.pointee t))) :
 Runs P (Oper.mk d (.binOp .eql t x y u) ty ps af g) a w (.bool p.isNone):=by
 constructor;simp [execOp,hx,hy,eqGuard,run_eql_pointer_nil w t p ht]
end
theorem SetsV.sets {l:List RSet} (h:SetsV B w v l):SetsAt w v l:=by
 obtain ⟨css,h1,h2⟩:=h;exact h2.sets.sets h1.sl
section
variable {P:Program} {a:Act} {w:World} {d:Option Nat} {ty:TypeId} {ps:String} {af:Array Edge} {g:Option (Nat × Bool)}
end
def XJ (n:Int):Bool:=decide (0≤n) && decide (n≤4294967295)
def uO (a b:Int):Bool:=XJ a && XJ b && decide (2147483648 < (b - a) % 4294967296)
section
variable {P:Program} {ops:Array Oper} {Q:Exit→Act→World→Prop} {w:World} {rest:List Oper} {ts:List Value} {df:List Deferred} {d:Option Nat} {ty:TypeId} {ps:String} {af:Array Edge} {g:Option (Nat × Bool)}
theorem Runs.maxI {t u:TypeId} {x y:Operand} {m n:Int} (hx:(Act.mk ts.toArray df).eval x=.int .i64 m) (hy:(Act.mk ts.toArray df).eval y=.int .i64 n) :
 Runs P (Oper.mk d (.call ⟨.builtin .max,#[x,y],#[t,u]⟩) ty ps af g) (Act.mk ts.toArray df) w (.int .i64 (max m n)):=by
 constructor;have e:(if n > m then n else m)=max m n:=by rw [Int.max_def];split <;> split <;> omega
 simp [execOp,resolve,invoke,builtin,hx,hy,run_max_int2,e]
end
theorem SX {l:List RSet} (h:ZoneOk o l):l.length≤200∧(∀ s ∈ l,s.data.length≤20)∧(∀ s ∈ l,∀ d ∈ s.data,d.length≤4000)∧(aO l).length≤4000:=by
 have h1:l.length≤200:=by
  have:=h.chk;unfold dB at this;split at this
  ·cases this
  ·omega
 have h2:∀ s ∈ l,s.data.length≤20:=fun s hs=>by
  have hm:=h.may hs;simp only [gV,Bool.and_eq_true,decide_eq_true_eq] at hm;exact hm.1.2
 refine ⟨h1,h2,fun s hs d hd => ?_,?_⟩
 ·obtain ⟨i,hi,rfl⟩:=List.mem_iff_getElem.1 hd;exact (sB (ME (h.may hs) hi)).1
 ·have:∀ {L:List RSet},(∀ s ∈ L,s.data.length≤20)→(aO L).length≤20 * L.length:=by
   intro L;induction L with
   | nil=>intro _;simp [aO]
   | cons s L ih =>
    intro hL;have e:aO (s :: L)=bV s ++ aO L:=by simp [aO]
    have i1:=ih fun t ht=>hL t (by simp [ht]);have i2:=hL s bP;rw [e,List.length_append,bV,List.length_map,List.length_cons];omega
  have:=this h2;omega
def VP (o:List UInt8) (l:List RSet) (o':List UInt8) (l':List RSet):Int :=
 if cB o' l'≠0 then cB o' l' else if o'≠o then 1 else if uO (eK o' l').serial (eK o l).serial=false then 7 else 0
def SY (room:Int) (ds:List DeltaR):List DeltaR:=ds.drop (ds.length - room.toNat)
section
variable {P:Program} {n:Nat} {r:Option Nat} {ops:Array Oper} {Q:Exit→Act→World→Prop} {md:Region.Mode}
end
section
variable {P:Program} {w w':World} {ts:List Value} {df:List Deferred} {d:Option Nat} {ty:TypeId} {ps:String} {af:Array Edge} {g:Option (Nat × Bool)}
end
structure DelN (B:Nat) (w:World) (css0 css:List (List Value)) (ds:List DeltaR) (k:Nat):Prop where
 len:css.length=ds.length
 new:∀ (i:Nat) (d:DeltaR),ds[i]? = some d→i < k→∃ g n,css[i]? = some [.int .i64 d.fr, .int .i64 d.to,g,n]∧Own B 4 67 w g (aJ d.gone)∧Own B 4 67 w n (aJ d.new)
 old:∀ i,k≤i→css[i]? = css0[i]?
theorem DelN.ext {ds:List DeltaR} (h:DelN B w css0 css ds k) (hx:Ext w w'):DelN B w' css0 css ds k :=
 ⟨h.len,fun i s hi hk=>let ⟨x,y,a,b,c⟩:=h.new i s hi hk;⟨x,y,a,b.ext hx,c.ext hx⟩,h.old⟩
theorem DelN.mv {ds:List DeltaR} (h:DelN B w css0 css ds k) (hm:Mv row w w') (hne:∀ x es,Own B 4 67 w x es→x.ownBlock=none∨x.ownBlock≠row):DelN B w' css0 css ds k :=
 ⟨h.len,fun i s hi hk=>let ⟨x,y,a,b,c⟩:=h.new i s hi hk;⟨x,y,a,b.mv hm (hne x _ b),c.mv hm (hne y _ c)⟩,h.old⟩
theorem DelN.step {ds:List DeltaR} (h:DelN B w css0 css ds k) (hk:k < ds.length) {x y:Value} (hx:Own B 4 67 w x (aJ ds[k].gone)) (hy:Own B 4 67 w y (aJ ds[k].new)) :
 DelN B w css0 (css.set k [.int .i64 ds[k].fr, .int .i64 ds[k].to,x,y]) ds (k + 1):=by
 refine ⟨by rw [List.length_set,h.len],fun i s hi hik => ?_,fun i hi => ?_⟩
 ·by_cases e:k=i
  ·subst e;rw [List.getElem?_eq_getElem hk] at hi;cases hi
   exact ⟨x,y,List.getElem?_set_self (by rw [h.len];exact hk),hx,hy⟩
  ·obtain ⟨x,y,a,b⟩:=h.new i s hi aE;exact ⟨x,y,by rw [List.getElem?_set_ne e];exact a,b⟩
 ·rw [List.getElem?_set_ne aE];exact h.old i aE
def Keep (T:List TypeId) (w w':World):Prop:=∀ (c:Nat) (cs:Array Value) (t:TypeId) (fz:Nat × Nat),w.heap[c]? = some (.cells cs t fz)→t ∉ T→w'.heap[c]? = some (.cells cs t fz)
theorem Ext.keep (h:Ext w w') (T:List TypeId):Keep T w w':=fun c cs t fz hc _=>h.at hc
theorem Keep.trans {T:List TypeId} {a b c:World} (h:Keep T a b) (k:Keep T b c):Keep T a c:=fun i cs t fz hc ht=>k i cs t fz (h i cs t fz hc ht) ht
theorem Own.keep {T:List TypeId} (h:Own B k e w v es) (hk:Keep T w w') (he:e ∉ T):Own B k e w' v es:=by
 refine ⟨⟨h.row.1,?_⟩,h.2⟩;rcases h.row.2 with h1 | ⟨gg,cap,cur,fz,rfl,hb,hg,r⟩
 ·exact .inl h1
 ·exact .inr ⟨gg,cap,cur,fz,rfl,hb,hk _ _ _ _ hg he,r⟩
theorem OwnOff.keep {T:List TypeId} (h:OwnOff B k e w v es) (hk:Keep T w w') (he:e ∉ T):OwnOff B k e w' v es:=by
 refine ⟨h.row.imp id ?_,h.each⟩;rintro ⟨g,o,cap,cur,fz,rfl,hb,hg,r⟩;exact ⟨g,o,cap,cur,fz,rfl,hb,hk _ _ _ _ hg he,r⟩
theorem SetsV.keep {T:List TypeId} {l:List RSet} (h:SetsV B w v l) (hk:Keep T w w') (h1:117 ∉ T) (h2:9 ∉ T):SetsV B w' v l:=by
 obtain ⟨css,a,b⟩:=h;exact ⟨css,a.keep hk h1,b.len,fun i s hi=>let ⟨x,c,d⟩:=b.at' i s hi;⟨x,c,d.keep hk h2⟩⟩
theorem dP {l:List Rec}:∀ f ∈ aJ l,∀ u ∈ f,u.oneCell'=true:=by
 intro f hf u hu;obtain ⟨r,_,rfl⟩:=List.mem_map.1 hf;simp only [Rec.cells,List.mem_cons,List.not_mem_nil,or_false] at hu;rcases hu with rfl | rfl | rfl | rfl <;> rfl
theorem YL (o:List UInt8) (v:Value) (l:List RSet) (w:World) (hv:SetsAt w v l):Calls Tryz.prog 9 #[.agg #[aI o,v]] w (bC w (.bool (decide ((o.length:Int)≤300) && vR l))):=by
 go_enter Tryz.func9,Tryz.ntmps9
 repeat' (first | ((with_reducible refine cQ ?_);go_step) | fail)
 refine kN (vs:=[aI o,v]) fun p w1 x1 hp => ?_;refine aD ?_;have hv1:=hv.ext x1
 (repeat' first | ((with_reducible refine cQ ?_);go_step) | ((with_reducible refine bM ?_);first | refine fN ?_ | (refine cV ?_ ?_ <;> intro hc)) | fail)
 ·refine dL (enters_of Tryz.func26 rfl rfl) rfl rfl (Dk v l _ hv1) ?_;intro w2 x2;refine aD ?_
  (repeat' first | ((with_reducible refine cQ ?_);go_step) | ((with_reducible refine bM ?_);first | refine fN ?_ | (refine cV ?_ ?_ <;> intro hc)) | fail)
  go_ret;exact ⟨by rw [decide_eq_true hc];rfl,x1.trans x2⟩
 ·go_ret;exact ⟨by rw [decide_eq_false hc];rfl,x1⟩
theorem DelA.ext {d:DeltaR} (h:DelA d r w) (hx:Ext w w'):DelA d r w':=by
 obtain ⟨g,n,e,a,b⟩:=h;exact ⟨g,n,e,a.ext hx,b.ext hx⟩
theorem PN (pn:Value) (n:List UInt8) (s:RSet) (u:Value) (w:World) (hn:Pts w pn [aI n]):Calls Tryz.prog 219 #[.agg #[aI s.name, .int .i64 s.kind, .int .i64 s.ttl,u],pn] w (bC w (.bool (bO s.name n))):=by
 go_enter Tryz.func219,Tryz.ntmps219
 refine_lift mS fun _ _ => ?_;refine kN (vs:=[aI s.name, .int .i64 s.kind, .int .i64 s.ttl,u]) fun ps w1 x1 hs => ?_;refine aD ?_;have hn1:=hn.ext x1;refine_lift eF fun _ _ => ?_;refine cY (vY s.name n _) fun w2 x2 => ?_;refine_lift bR ?_;go_ret;exact ⟨rfl,x1.trans x2⟩
theorem SZ (o:List UInt8) (v:Value) (l:List RSet) (n:List UInt8) (w:World) (hv:SetsAt w v l):Calls Tryz.prog 194 #[.agg #[aI o,v],aI n] w (bC w (.bool (l.any fun s=>bO s.name n))):=by
 go_enter Tryz.func194,Tryz.ntmps194
 refine_lift DF ?_;intro _ _ _;refine kN (vs:=[aI o,v]) fun p w1 x1 hp => ?_;refine aD ?_;refine_lift ZJ ?_;refine kN (vs:=[aI n]) fun pn w2 x2 hn => ?_;refine aD ?_;have hx2:=x1.trans x2;have hp2:=hp.ext x2;have hv2:=hv.ext hx2;refine_lift eF fun _ _ => ?_;have hf:SetFn w2 219 #[pn] l (fun s=>bO s.name n):=fun s _ x w' hx' _=>PN pn n s x w' (hn.ext hx');refine cY (nM v l 219 #[pn] (fun s=>bO s.name n) _ hv2 (enters_of Tryz.func219 rfl rfl) hf) fun w3 x3 => ?_;refine_lift bR ?_;go_ret;exact ⟨rfl,hx2.trans x3⟩
def FG (l:List RSet) (n a:List UInt8):List RSet:=(l.filter fun s=>decide (s.name=n)).map fun s=>⟨a,s.kind,s.ttl,s.data⟩
theorem NO {l:List RSet} {a:List UInt8} (h:k < l.length):FG (l.take (k + 1)) n a=FG (l.take k) n a ++ (if l[k].name=n then [⟨a,l[k].kind,l[k].ttl,l[k].data⟩] else []):=by
 unfold FG;rw [List.take_succ_eq_append_getElem h,List.filter_append,List.map_append]
 congr 1
 by_cases hm:l[k].name=n <;> simp [hm]
theorem MI (l:List RSet) (n a:List UInt8):(FG l n a).length≤l.length:=by
 unfold FG;rw [List.length_map];exact List.length_filter_le _ _
theorem Ag (o:List UInt8) (v:Value) (l:List RSet) (n a:List UInt8) (w0 w:World) (hx0:Ext w0 w) (hv0:SetsAt w0 v l) (hl:l.length≤100000) :
 Calls Tryz.prog 195 #[.agg #[aI o,v],aI n,aI a] w (oQ w fun r w'=>∃ css,Own w.heap.size 4 117 w' r css∧SetsC w0 css (FG l n a)):=by
 have hv:=hv0.ext hx0;obtain ⟨cv,hv1,hvl⟩:=hv.sl;go_enter Tryz.func195,Tryz.ntmps195
 refine_lift DF ?_;intro _ _ _;refine kN (vs:=[aI o,v]) fun p w1 x1 hp => ?_;refine aD ?_;have hv2:=hv1.ext x1;refine_lift eF fun _ _ => ?_;go_loopw [7,9,13] (fun r _ i wr=>∃ (k:Nat) (css:List (List Value)),k≤l.length∧i=.int .i64 k∧Ext w wr∧Own w.heap.size 4 117 wr r css∧SetsC w0 css (FG (l.take k) n a)) (fun _ _ i _=>l.length - (intOf i).toNat)
 case atStart=>exact ⟨0,[],Nat.zero_le _,rfl,x1,Own.nil _ _ _ _,⟨rfl,by simp [FG]⟩⟩
 case round =>
  obtain ⟨k,css,hk,rfl,hx,ho,hc⟩:=hrel;have hvr:=hv1.ext hx;by_cases hlt:k < l.length
  ·obtain ⟨x,h4w,h4dw⟩:=hv0.elem (List.getElem?_eq_getElem hlt);have h4:=h4w.ext (hx0.trans hx);have h4d:=h4dw.ext (hx0.trans hx);have hst:=NO (n:=n) (a:=a) hlt;have hcl:=hc.len;have hal:=MI (l.take k) n a;rw [List.length_take] at hal;refine_lift CY ?_;intro _ _ _ _ _ _;refine fO (z:=iP) fun w2 x2 s2 h2 => ?_;refine aD ?_;refine dS (v:=.agg #[aI l[k].name, .int .i64 l[k].kind, .int .i64 l[k].ttl,x]) h2 (fI rfl rfl rfl (h4d.ext x2).one) fun w3 p3 => ?_;have x3:=cH x2 p3;have b3:w3.heap[wr.heap.size]? = some (.cells [aI l[k].name, .int .i64 l[k].kind, .int .i64 l[k].ttl,x].toArray 117 (0,0)):=p3.this;have h3:=aA b3;have hx3:=hx.trans x3;have ho3:=ho.ext x3;clear p3 h2 x2;refine_lift RL (fun _ => ?_) (fun _ _ _ => ?_)
   ·have hm:l[k].name=n:=by assumption
    rw [if_pos hm] at hst;refine eS 0 _ b3 rfl fun w4 p4 => ?_;have x4:=cH x3 p4;have h5:Pts w4 (.pointer (some ⟨wr.heap.size,0,none⟩)) [aI a, .int .i64 l[k].kind, .int .i64 l[k].ttl,x]:=aA p4.this;have hx4:=hx.trans x4;have ho4:=ho.ext x4;have hd4:=h4d.ext x4;clear p4 b3 h3;refine_lift bR ?_;refine Cf [aI a, .int .i64 l[k].kind, .int .i64 l[k].ttl,x] hx4 ho4 aE ?_ ⟨rfl,rfl,rfl,by intro u hu;simp only [List.mem_cons,List.not_mem_nil,or_false] at hu;rcases hu with rfl | rfl | rfl | rfl <;> first | rfl | exact hd4.one⟩;intro s5 v5 w5 w6 x5 m6 x6 o6;refine aD ?_;refine_lift bR ?_;exact ⟨⟨k + 1,_,aE,by go_num,x6,o6,by rw [hst];exact hc.append (SetsC.one (s:=⟨a,l[k].kind,l[k].ttl,l[k].data⟩) h4dw)⟩,by simp [intOf];omega⟩
   ·have hm:¬ l[k].name=n:=by assumption
    rw [if_neg hm,List.append_nil] at hst;exact ⟨⟨k + 1,css,aE,by go_num,hx3,ho3,by rw [hst];exact hc⟩,by simp [intOf];omega⟩
  ·have:k=l.length:=aE;subst this;rw [List.take_length] at hc;refine_lift lY fun _ => ?_;go_ret;exact ⟨_,rfl,hx,_,ho,hc⟩
def fJ (o:Option RSet):List Rec:=match o with | some s=>bV s | none=>[]
theorem dN (s:RSet):aO [s]=bV s:=by simp [aO]
theorem eZ (o:Option RSet):fJ o=aO [o.getD bW]:=by cases o <;> simp [fJ,dN,bV,bW]
def eG (o:List UInt8) (l:List RSet):Rec:=⟨o,6,min ((aY l o 6).getD bW).ttl (eK o l).minimum,jV o l⟩
def qE (l:List RSet) (n:List UInt8):Bool:=l.any fun s=>bO s.name n
def kX (l:List RSet):List (List UInt8)→List (List UInt8)
 | []=>[]
 | x :: t=>if qE l (enc (x :: t))=true then x :: t else kX l t
def qU (l:List RSet) (n:List UInt8):List UInt8:=(kO ([42] :: kX l ((aP n).getD []))).getD []
def aW (l:List RSet) (n:List UInt8):List RSet:=if qE l n=true then FG l n n else FG l (qU l n) n
def sF (l:List RSet) (n:List UInt8):Bool:=qE l n || decide (0 < (FG l (qU l n) n).length)
def qV (k:Int):Bool:=decide (k=2) || decide (k=15) || decide (k=33)
def gX (l:List RSet) (b:List (List UInt8) × List Rec) (r:Rec):List (List UInt8) × List Rec :=
 if (aQ r.kind r.data).2≠0∨qV r.kind=false∨fold (aQ r.kind r.data).1 ∈ b.1 then b
 else (b.1 ++ [fold (aQ r.kind r.data).1],b.2 ++ fJ (aY l (fold (aQ r.kind r.data).1) 1) ++ fJ (aY l (fold (aQ r.kind r.data).1) 28))
def fK (l:List RSet) (rs:List Rec):List (List UInt8) × List Rec:=rs.foldl (gX l) ([],[])
def xU (l:List RSet) (rs:List Rec):List Rec:=(fK l rs).2
structure StepR where
 kind:Int
 ans:List Rec
 auth:List Rec
 next:List UInt8
 more:Bool
 deriving Inhabited
def fH (s:RSet):Bool:=decide (s.kind=5)
def bB (l:List RSet) (n:List UInt8):RSet:=((aW l n).find? fH).getD bW
def bN (k:Int) (s:RSet):Bool:=decide (k=255) || decide (s.kind=k)
def bX (o:List UInt8) (l:List RSet) (n:List UInt8) (k c:Int):StepR :=
 if bO n o=false then ⟨if c=0 then 4 else 0,[],[],[],false⟩
 else if (eX o l n).2=true then ⟨3,[],fJ (aY l (eX o l n).1 2),[],false⟩
 else if sF l n=false then ⟨2,[],[eG o l],[],false⟩
 else if (aW l n).any fH=true∧k≠5∧k≠255 then
  if c=8 then ⟨0,[],[],[],false⟩
  else ⟨0,bV (bB l n),[],fold (aQ 5 ((bB l n).data.getD 0 [])).1,true⟩
 else if (aW l n).filter (bN k)=[] then ⟨1,[],[eG o l],[],false⟩
 else ⟨0,aO ((aW l n).filter (bN k)),[],[],false⟩
def cX (o:List UInt8) (l:List RSet) (k:Int):Nat→Int→List UInt8→StepR
 | 0,_,_=>⟨0,[],[],[],false⟩
 | f + 1,c,n=>if (bX o l n k c).more=true then
     ⟨(cX o l k f (c + 1) (bX o l n k c).next).kind,(bX o l n k c).ans ++ (cX o l k f (c + 1) (bX o l n k c).next).ans,(cX o l k f (c + 1) (bX o l n k c).next).auth,[],false⟩
   else bX o l n k c
structure AnsR where
 kind:Int
 ans:List Rec
 auth:List Rec
 extra:List Rec
 deriving DecidableEq,Inhabited
def NP:AnsR:=⟨0,[],[],[]⟩
def nW (o:List UInt8) (l:List RSet) (q:List UInt8):Int:=if cB o l≠0 then cB o l else dW q
def iT (r:StepR):List Rec:=r.ans ++ if r.kind=3 then r.auth else []
def rB (o:List UInt8) (l:List RSet) (q:List UInt8) (k:Int):AnsR :=
 if nW o l q≠0 then NP else
  ⟨(cX o l k 9 0 (fold q)).kind,(cX o l k 9 0 (fold q)).ans,(cX o l k 9 0 (fold q)).auth,xU l (iT (cX o l k 9 0 (fold q)))⟩
theorem sG (n:List UInt8):(aP (fold n)).isSome=(aP n).isSome:=by
 cases h:aP n with
 | none =>
  have:fold n=n:=by unfold fold;rw [h]
  rw [this,h]
 | some ls=>rw [(uJ h).2.1];rfl
theorem nO {s:RSet} (h:gV s=true):1≤s.data.length∧s.data.length≤20:=by
 simp only [gV,Bool.and_eq_true,decide_eq_true_eq] at h;exact ⟨h.1.1.2,h.1.2⟩
def InZ (l:List RSet) (r:Rec):Prop:=(∃ s ∈ l,∃ d ∈ s.data,r=iE s d)∨qE l r.name=false
theorem InZ.opt {l:List RSet} {k:Int}:∀ r ∈ fJ (aY l n k),InZ l r:=by
 intro r hr;cases hf:aY l n k with
 | none=>rw [hf] at hr;cases hr
 | some s =>
  rw [hf] at hr;obtain ⟨d,hd,rfl⟩:=List.mem_map.1 hr;exact .inl ⟨s,(kW hf).1,d,hd,rfl⟩
theorem GX {l:List RSet} {s:RSet} (h:s ∈ FG l m n):∃ t ∈ l,t.name=m∧s=⟨n,t.kind,t.ttl,t.data⟩:=by
 unfold FG at h;obtain ⟨t,ht,rfl⟩:=List.mem_map.1 h;obtain ⟨h1,h2⟩:=List.mem_filter.1 ht;exact ⟨t,h1,by simpa using h2,rfl⟩
theorem InZ.at {l:List RSet} {s:RSet} (h:s ∈ aW l n):∀ d ∈ s.data,InZ l (iE s d):=by
 intro d hd;unfold aW at h;split at h
 ·obtain ⟨t,ht,h1,rfl⟩:=GX h;exact .inl ⟨t,ht,d,hd,by simp [iE,h1]⟩
 ·rename_i hn;obtain ⟨t,ht,h1,rfl⟩:=GX h;exact .inr (by simpa [iE] using hn)
theorem InZ.recs {l:List RSet} {L:List RSet} (h:∀ s ∈ L,∀ d ∈ s.data,InZ l (iE s d)):∀ r ∈ aO L,InZ l r:=by
 intro r hr;obtain ⟨s,hs,d,hd,rfl⟩:=oF hr;exact h s hs d hd
theorem pF {l:List RSet} (h:(aW l n).any fH=true):bB l n ∈ aW l n∧(bB l n).kind=5∧(aW l n).find? fH=some (bB l n):=by
 unfold bB;cases hf:(aW l n).find? fH with
 | none =>
  rw [List.find?_eq_none] at hf;obtain ⟨s,hs,h1⟩:=List.any_eq_true.1 h;exact absurd h1 (hf s hs)
 | some s =>
  have:=List.find?_some hf;exact ⟨List.mem_of_find?_eq_some hf,by simpa [fH] using this,rfl⟩
theorem kY {l:List RSet} (h:dB l=0) {s:RSet} (hs:s ∈ aW l n):∃ t ∈ l,s.kind=t.kind∧s.ttl=t.ttl∧s.data=t.data∧s.name=n:=by
 unfold aW at hs;split at hs <;> (obtain ⟨t,ht,h1,rfl⟩:=GX hs;exact ⟨t,ht,rfl,rfl,rfl,rfl⟩)
theorem FH {l:List RSet} (h:dB l=0) {s:RSet} (hs:s ∈ l):gV s=true:=by
 obtain ⟨i,hi,rfl⟩:=List.mem_iff_getElem.1 hs;exact xS h hi
theorem gI {l:List RSet} (h:dB l=0) {s:RSet} (hs:s ∈ aW l n):bV s≠[]∧s.data.length≤20∧1≤s.data.length:=by
 obtain ⟨t,ht,_,_,h3,_⟩:=kY h hs;have:=nO (FH h ht);have h5:s.data.length=t.data.length:=by rw [h3]
 refine ⟨fun e => ?_,aE,aE⟩;unfold bV at e;rw [List.map_eq_nil_iff] at e;rw [e] at h3;have h4:=congrArg List.length h3;simp at h4;omega
theorem BY {α:Type} {p:α→Bool}:∀ {l:List α} {s:α},s ∈ l→p s=true→l.Pairwise (fun a b=>¬ (p a=true∧p b=true))→l.filter p=[s]
 | a :: l,s,hs,hp,hw=>by
   rw [List.pairwise_cons] at hw;rcases List.mem_cons.1 hs with rfl | hs
   ·rw [List.filter_cons_of_pos hp]
    congr 1
    rw [List.filter_eq_nil_iff];intro b hb hpb;exact hw.1 b hb ⟨hp,hpb⟩
   ·have:¬ p a=true:=fun e=>hw.1 s hs ⟨e,hp⟩;rw [List.filter_cons_of_neg this];exact BY hs hp hw.2
theorem PO (a:List UInt8):lH a a=0:=by rw [nF];simp
theorem JZ {l:List RSet} (h:dB l=0):l.Pairwise fun a b=>¬ (a.name=b.name∧a.kind=b.kind):=by
 rw [List.pairwise_iff_getElem];intro i j hi hj hij hh;have h1:=sU h hi;have h2:=sU h hj;rw [hh.1,hh.2,h2] at h1;have h3:=kH h i j hij hj;rw [show l[i]=l[j] by simpa using h1.symm] at h3;unfold fA LT at h3;have h4:jF l[j].name l[j].name=0:=by
  unfold jF;cases dI l[j].name with
  | none=>simp only [PO]
  | some x =>
   have:=vW (a:=x) (b:=x) (k:=x.length) rfl (Nat.le_refl _) (Nat.le_refl _) (.inl rfl)
   simpa using this
 simp [h4] at h3
end Go.Proofs.X
