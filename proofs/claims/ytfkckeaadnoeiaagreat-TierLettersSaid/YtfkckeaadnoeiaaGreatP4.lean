/- Laws and walks that the proof of the statement is made of (part 4). -/
import Derived.Test.YtfkckeaadnoeiaaGreatP3
set_option linter.unusedSimpArgs false
set_option linter.unusedVariables false
set_option maxRecDepth 100000
set_option maxHeartbeats 20000000
namespace Go.Proofs.X
open Go.RowKit
variable {cs:Array Value} {held:Bool} {qt:Int} {ps rs:List (List UInt8×Nat)} {ls:List (List UInt8)} {css css0 es:List (List Value)} {d l m n o qn s t x y z:List UInt8} {B a b base c e fuel i j k p q:Nat} {fz:Nat×Nat} {row:Option Nat} {r u v:Value} {w w' w0 w1 w2:World}
def dE:List Value:=[aE [],aE [], .int .i64 0, .int .i64 0, .int .i64 0, .int .i64 0, .int .i64 0]
theorem zW (s:List UInt8):(cH s).1.length≤s.length∧(cH s).2.1.length≤s.length:=by
 unfold cH;split
 ·simp
 ·refine ⟨?_,aX⟩;unfold jR;split
  ·simp only [Option.getD_some];have:(Lib.trimSuffix (s.take (oI s+1)) [0]).length≤(s.take (oI s+1)).length:=Lib.trimSuffix_le _ _;simp at this ⊢;omega
  ·simp
theorem Em (d:List UInt8) (w:World) (hl:d.length≤4611686018427387904):Calls Tryz.prog 135 #[aE d] w (bC w (match dK d with|some s=>.tuple #[.agg s.cells.toArray, .int .i64 0]|none=>.tuple #[.agg dE.toArray, .int .i64 2])):=by
 have hl1:=zW d;have hl2:=zW (cH d).2.1;go_enter Tryz.func135,Tryz.ntmps135
 refine_lift sF ?_;intro _ _ _;refine dX (z:=dE) fun w1 x1 s1 h1=>?_;refine aB ?_;refine_lift fN fun _ _=>?_;refine bK (enters_of Tryz.func177 rfl rfl) rfl rfl (Fo d _ hl) ?_;intro w2 x2;refine aB ?_;have h12:=x2.at h1;refine_lift cL ?_;refine dX (z:=[aE []]) fun w3 x3 s3 h3=>?_;refine aB ?_;have h13:=x3.at h12;refine_lift cL ?_;refine eA (v:=aE (cH d).2.1) rfl rfl rfl h3 zDk rfl ?_;intro w4 p4;have s2:w.heap.size<w2.heap.size:=by have:=x2.size;omega
 have h14:=p4.at h13 aC;have h54:=p4.this;have x4:=cJ ((x1.trans x2).trans x3) p4;have hp5:=aA (cs:=[aE (cH d).2.1]) h54;generalize hb5:w2.heap.size=b5 at *;clear h1 h12 h13 h3 p4 x1 x2 x3 s3;refine_lift fN fun _ _=>?_;refine bK (enters_of Tryz.func177 rfl rfl) rfl rfl (Fo _ _ aC) ?_;intro w5 x5;refine aB ?_;have h15:=x5.at h14;have h55:=x5.at h54;have hp5:=hp5.ext x5;have x5:=x4.trans x5;refine_lift cL ?_;refine eA (v:=aE (cH (cH d).2.1).2.1) rfl rfl rfl h55 zDk rfl ?_;intro w6 p6;have h16:=p6.at h15 aC;have h56:=p6.this;have x6:=cJ x5 p6;clear hp5 h54 h14 h15 h55 p6 x4 x5;have hp5:=aA (cs:=[aE (cH (cH d).2.1).2.1]) h56
 (repeat' first|((with_reducible refine aZ ?_);go_step)|((with_reducible refine aS ?_);first|refine dU ?_|(refine bG ?_ ?_<;>intro hc))|fail)
 ·refine cG (v:=.agg dE.toArray) rfl (Runs.build (parts:=[]) (vals:=[]) rfl (by kernel_rfl)) ?_;refine aB ?_;refine dL (v:=.agg dE.toArray) h16 zDk fun w7 p7=>?_;have x7:=cJ x6 p7;have h17:w7.heap[w.heap.size]? = some (.cells dE.toArray 240 (0,0)):=p7.this;refine_lift cL ?_;refine uC (cs:=dE) h17 ⟨?_,x7⟩;have hno:dK d=none:=by
   unfold dK;rw [if_neg];rintro ⟨q1,q2,q3,q4⟩;have:=‹(!decide (((cH (cH d).2.1).2.1.length:Int)=20))=true›;simp [q3]at this
  rw [hno];rfl
 ·have hc1:=‹(!(cH d).2.2)=false›;have hc2:=‹(!(cH (cH d).2.1).2.2)=false›;have hc3:=‹(!decide (((cH (cH d).2.1).2.1.length:Int)=20))=false›;have hr:(cH (cH d).2.1).2.1.length=20:=by simp at hc3;omega
  have q1:(cH d).2.2=true:=by simpa using hc1
  have q2:(cH (cH d).2.1).2.2=true:=by simpa using hc2
  have hps:dK d=if (gA d).ok=true then some (gA d)else none:=by
   unfold dK;simp only [q1,q2,hr,true_and]
  generalize hrr:(cH (cH d).2.1).2.1=r at *;refine dW (f:=178) (caps:=#[.pointer (some ⟨b5,0,none⟩)]) (enters_of Tryz.func178 rfl rfl) rfl rfl rfl (Ce r 0 _ _ hp5 hr aC) ?_;rintro e w10 ⟨rfl,y⟩;refine ⟨_,rfl,?_⟩;refine aB ?_;have hp5:=hp5.ext y;have h16:=y.at h16;have x6:=x6.trans y;clear y;refine_lift cL ?_;refine dW (f:=178) (caps:=#[.pointer (some ⟨b5,0,none⟩)]) (enters_of Tryz.func178 rfl rfl) rfl rfl rfl (Ce r 1 _ _ hp5 hr aC) ?_;rintro e w11 ⟨rfl,y⟩;refine ⟨_,rfl,?_⟩;refine aB ?_;have hp5:=hp5.ext y;have h16:=y.at h16;have x6:=x6.trans y;clear y;refine_lift cL ?_;refine dW (f:=178) (caps:=#[.pointer (some ⟨b5,0,none⟩)]) (enters_of Tryz.func178 rfl rfl) rfl rfl rfl (Ce r 2 _ _ hp5 hr aC) ?_;rintro e w12 ⟨rfl,y⟩;refine ⟨_,rfl,?_⟩;refine aB ?_;have hp5:=hp5.ext y;have h16:=y.at h16;have x6:=x6.trans y;clear y;refine_lift cL ?_;refine dW (f:=178) (caps:=#[.pointer (some ⟨b5,0,none⟩)]) (enters_of Tryz.func178 rfl rfl) rfl rfl rfl (Ce r 3 _ _ hp5 hr aC) ?_;rintro e w13 ⟨rfl,y⟩;refine ⟨_,rfl,?_⟩;refine aB ?_;have hp5:=hp5.ext y;have h16:=y.at h16;have x6:=x6.trans y;clear y;refine_lift cL ?_;refine dW (f:=178) (caps:=#[.pointer (some ⟨b5,0,none⟩)]) (enters_of Tryz.func178 rfl rfl) rfl rfl rfl (Ce r 4 _ _ hp5 hr aC) ?_;rintro e w14 ⟨rfl,y⟩;refine ⟨_,rfl,?_⟩;refine aB ?_;have hp5:=hp5.ext y;have h16:=y.at h16;have x6:=x6.trans y;clear y;refine_lift cL ?_;have hsc:(gA d).cells=[aE (cH d).1,aE (cH (cH d).2.1).1, .int .i64 (numP r 0 4:Nat), .int .i64 (numP r 1 4:Nat), .int .i64 (numP r 2 4:Nat), .int .i64 (numP r 3 4:Nat), .int .i64 (numP r 4 4:Nat)]:=by
   simp only [SoaR.cells,gA,hrr]
  refine cG (v:=.agg (gA d).cells.toArray) rfl (by rw [hsc];exact Runs.build rfl (by kernel_rfl)) ?_;refine aB ?_;refine dX (z:=dE) fun w15 x15 s15 h15=>?_;refine aB ?_;have h16:=x15.at h16;have x6:=x6.trans x15;have hlt16:w.heap.size<w14.heap.size:=(Array.getElem?_eq_some_iff.1 ‹w14.heap[w.heap.size]? = _›).1;refine dL (v:=.agg (gA d).cells.toArray) h15 (by rw [hsc];simp [Value.cells,Value.oneCell',aE]) fun w16 p16=>?_;have h16:=p16.at h16 aC;have x6:=x6.move p16.mv (by rintro k ⟨⟩;omega);have hb10:w16.heap[w14.heap.size]? = some (.cells (gA d).cells.toArray 240 (0,0)):=p16.this;have hp10:=aA hb10;refine_lift BW fun _ _ _ _=>?_;refine cG (v:=.agg (gA d).cells.toArray) rfl (Runs.loadN (n:=7) hp10 rfl zDk) ?_;refine aB ?_;have hm1:(gA d).main.length≤4611686018427387904:=by simp only [gA];omega
  have hm2:(gA d).mail.length≤4611686018427387904:=by simp only [gA];omega
  refine bK (enters_of Tryz.func179 rfl rfl) rfl rfl (Gj (gA d) _ hm1 hm2) ?_;intro w17 x17;refine aB ?_;have h16:=x17.at h16;have hb10:=x17.at hb10;have x6:=x6.trans x17;have hp10:=hp10.ext x17;cases hok:(gA d).ok with
  | false =>
   simp only [hok,Bool.false_eq_true,if_false]at hps ⊢;refine_lift LZ fun _ _ _=>?_;refine cG (v:=.agg dE.toArray) rfl (Runs.build (parts:=[]) (vals:=[]) rfl (by kernel_rfl)) ?_;refine aB ?_;refine dL (v:=.agg dE.toArray) h16 zDk fun w7 p7=>?_;have x7:=cJ x6 p7;have h17:w7.heap[w.heap.size]? = some (.cells dE.toArray 240 (0,0)):=p7.this;refine_lift cL ?_;refine uC (cs:=dE) h17 ⟨?_,x7⟩;rw [hps];rfl
  | true =>
   simp only [hok,if_true]at hps ⊢;refine_lift fN fun _ _=>?_;refine cG (v:=.agg (gA d).cells.toArray) rfl (Runs.loadN (n:=7) hp10 rfl zDk) ?_;refine aB ?_;refine dL (v:=.agg (gA d).cells.toArray) h16 (by rw [hsc];simp [Value.cells,Value.oneCell',aE]) fun w7 p7=>?_;have x7:=cJ x6 p7;have h17:w7.heap[w.heap.size]? = some (.cells (gA d).cells.toArray 240 (0,0)):=p7.this;refine_lift cL ?_;refine uC (cs:=(gA d).cells) h17 ⟨?_,x7⟩;rw [hps];rfl
 ·refine cG (v:=.agg dE.toArray) rfl (Runs.build (parts:=[]) (vals:=[]) rfl (by kernel_rfl)) ?_;refine aB ?_;refine dL (v:=.agg dE.toArray) h16 zDk fun w7 p7=>?_;have x7:=cJ x6 p7;have h17:w7.heap[w.heap.size]? = some (.cells dE.toArray 240 (0,0)):=p7.this;refine_lift cL ?_;refine uC (cs:=dE) h17 ⟨?_,x7⟩;have hno:dK d=none:=by
   unfold dK;rw [if_neg];rintro ⟨q1,q2,q3,q4⟩;have:=‹(!(cH (cH d).2.1).2.2)=true›;simp [q2]at this
  rw [hno];rfl
 ·refine cG (v:=.agg dE.toArray) rfl (Runs.build (parts:=[]) (vals:=[]) rfl (by kernel_rfl)) ?_;refine aB ?_;refine dL (v:=.agg dE.toArray) h16 zDk fun w7 p7=>?_;have x7:=cJ x6 p7;have h17:w7.heap[w.heap.size]? = some (.cells dE.toArray 240 (0,0)):=p7.this;refine_lift cL ?_;refine uC (cs:=dE) h17 ⟨?_,x7⟩;have hno:dK d=none:=by
   unfold dK;rw [if_neg];rintro ⟨q1,q2,q3,q4⟩;have:=‹(!(cH d).2.2)=true›;simp [q1]at this
  rw [hno];rfl
theorem Gk (k:Int) (d:List UInt8) (w:World) (hl:d.length≤4000):Calls Tryz.prog 165 #[.int .i64 k,aE d] w (bC w (.bool (fits k d))):=by
 have h38:=fun w=>Em d w aC;go_enter Tryz.func165,Tryz.ntmps165
 (repeat' first|((with_reducible refine aZ ?_);go_step)|((with_reducible refine aS ?_);first|refine dU ?_|(refine bG ?_ ?_<;>intro hc))|fail)
 ·have h1:=‹k=1›;go_ret;refine ⟨?_,Ext.refl _⟩;rw [fits,if_pos h1];have e:decide ((d.length:Int)=4)=decide (d.length=4):=by apply decide_eq_decide.2;omega
  exact congrArg (fun b=>Ending.returned (Value.bool b)) e
 ·have h1:=‹¬k=1›;have h2:=‹k=28›;go_ret;refine ⟨?_,Ext.refl _⟩;rw [fits,if_neg h1,if_pos h2];have e:decide ((d.length:Int)=16)=decide (d.length=16):=by apply decide_eq_decide.2;omega
  exact congrArg (fun b=>Ending.returned (Value.bool b)) e
 ·have h1:=‹¬k=1›;have h2:=‹¬k=28›;have h3:=‹k=16›;refine bK (enters_of Tryz.func207 rfl rfl) rfl rfl (Gf _ _ aC) ?_;intro w2 x2;refine aB ?_;refine_lift cL ?_;go_ret;refine ⟨?_,x2⟩;rw [fits,if_neg h1,if_neg h2,if_pos h3];rfl
 ·have h1:=‹¬k=1›;have h2:=‹¬k=28›;have h3:=‹¬k=16›;have h4:=‹k=6›;have hF:fits k d=(dK d).isSome:=by rw [fits,if_neg h1,if_neg h2,if_neg h3,if_pos h4]
  refine bK (enters_of Tryz.func135 rfl rfl) rfl rfl (h38 _) ?_;intro w2 x2;refine aB ?_;cases hp:dK d with
  | none =>
   simp only [hp]at hF;refine_lift cL ?_;refine dX (z:=dE) fun w3 x3 s3 h3b=>?_;refine aB ?_;refine dL (v:=.agg dE.toArray) h3b zDk fun w4 p4=>?_;refine_lift cL ?_;go_ret;refine ⟨?_,(x2.trans x3).move p4.mv (by rintro k ⟨⟩;exact x2.size)⟩;rw [hF];rfl
  | some s =>
   simp only [hp]at hF;have hsc:∀ s:SoaR,s.cells=[aE s.main,aE s.mail, .int .i64 s.serial, .int .i64 s.refresh, .int .i64 s.retry, .int .i64 s.expire, .int .i64 s.minimum]:=fun _=>rfl;refine_lift cL ?_;refine dX (z:=dE) fun w3 x3 s3 h3b=>?_;refine aB ?_;refine dL (v:=.agg s.cells.toArray) h3b (by rw [hsc];simp [Value.cells,Value.oneCell',aE]) fun w4 p4=>?_;refine_lift cL ?_;go_ret;refine ⟨?_,(x2.trans x3).move p4.mv (by rintro k ⟨⟩;exact x2.size)⟩;rw [hF];rfl
 ·have h1:=‹¬k=1›;have h2:=‹¬k=28›;have h3:=‹¬k=16›;have h4:=‹¬k=6›;refine bK (enters_of Tryz.func56 rfl rfl) rfl rfl (ZF k d _ aC) ?_;intro w2 x2;refine aB ?_;refine_lift cL ?_;go_ret;refine ⟨?_,x2⟩;rw [fits,if_neg h1,if_neg h2,if_neg h3,if_neg h4];simp
theorem Cf (r:Rec) (w:World):Calls Tryz.prog 112 #[.agg #[aE r.name, .int .i64 r.kind, .int .i64 r.ttl,aE r.data]] w (bC w (.int .i64 (bI r))):=by
 have hf:r.data.length≤4000→∀ w,Calls Tryz.prog 165 #[.int .i64 r.kind,aE r.data] w (bC w (.bool (fits r.kind r.data))):=fun h w=>Gk _ _ w h;go_enter Tryz.func112,Tryz.ntmps112
 refine_lift mT fun _ _=>?_;refine mW (vs:=[aE r.name, .int .i64 r.kind, .int .i64 r.ttl,aE r.data]) fun p w1 x1 hp=>?_;refine aB ?_
 (repeat' first|((with_reducible refine aZ ?_);go_step)|((with_reducible refine aS ?_);refine dU ?_)|fail)
 all_goals try (go_ret;refine ⟨?_,x1⟩;first|(rw [bI,if_pos aC];rfl)|(rw [bI,if_neg aC,if_pos aC];rfl))
 ((with_reducible refine aS ?_);refine lY ?_;((first|refine EU ?_ ?_|refine EV ?_ ?_)<;>intro hc))
 all_goals refine_lift XG ?_
 all_goals try (go_ret;refine ⟨?_,x1⟩;first|(rw [bI,if_pos aC];rfl)|(rw [bI,if_neg aC,if_pos aC];rfl))
 ((with_reducible refine aS ?_);refine lY ?_;((first|refine EU ?_ ?_|refine EV ?_ ?_)<;>intro hc))
 all_goals refine_lift XG ?_
 all_goals try (go_ret;refine ⟨?_,x1⟩;first|(rw [bI,if_pos aC];rfl)|(rw [bI,if_neg aC,if_pos aC];rfl))
 ((with_reducible refine aS ?_);refine lY ?_;((first|refine EU ?_ ?_|refine EV ?_ ?_)<;>intro hc))
 all_goals refine_lift XG ?_
 all_goals try (go_ret;refine ⟨?_,x1⟩;first|(rw [bI,if_pos aC];rfl)|(rw [bI,if_neg aC,if_pos aC];rfl))
 ((with_reducible refine aS ?_);refine lY ?_;((first|refine EU ?_ ?_|refine EV ?_ ?_)<;>intro hc))
 all_goals refine_lift XG ?_
 all_goals try (go_ret;refine ⟨?_,x1⟩;first|(rw [bI,if_pos aC];rfl)|(rw [bI,if_neg aC,if_pos aC];rfl))
 (apply CO;(rfl))<;>intro hc
 ·have hlen:r.data.length≤4000:=by simp at hc;omega
  rw [hc];refine_lift XG ?_;refine cB (hf hlen _) fun w2 x2=>?_;have hp:=hp.ext x2;cases hfit:fits r.kind r.data with
  | true =>
   (repeat' first|((with_reducible refine aZ ?_);go_step)|((with_reducible refine aS ?_);refine dU ?_)|fail)
   refine cB (PO _ _) fun w3 x3=>?_;refine_lift XG ?_;go_ret;refine ⟨?_,(x1.trans x2).trans x3⟩;have e:bI r=if (aM r.name).isSome=true then 0 else 1:=by
    rw [bI,if_neg aC,if_neg (by rw [hfit];simp;omega)]
   rw [e];rfl
  | false =>
   refine_lift XG ?_;go_ret;refine ⟨?_,x1.trans x2⟩;rw [bI,if_neg aC,if_pos (by rw [hfit];simp)];rfl
 ·have hc4:4000<r.data.length:=by simp at hc;omega
  rw [hc];simp only [Act.put,List.setIfInBounds_toArray,List.set_cons_succ,List.set_cons_zero,Bool.not_true,Bool.not_false];refine_lift XG ?_;go_ret;refine ⟨?_,x1⟩;rw [bI,if_neg aC,if_pos aC];rfl
theorem zX {α:Type} {p:α→Bool} {l:List α} (h:k<l.length) (hp:p l[k]=false):l.all p=false:=by
 rw [List.all_eq_false];exact ⟨l[k],List.getElem_mem h,by simp [hp]⟩
theorem uG {α:Type} {p:α→Bool} {l:List α} (h:k<l.length) (ha:(l.take k).all p=true) (hp:p l[k]=true):(l.take (k+1)).all p=true:=by
 rw [List.take_add_one,List.getElem?_eq_getElem h,List.all_append,ha];simp [hp]
def sG (s:RSet):Bool:=decide (s.data.length≤12)&&decide (s.name.length≤300)&&s.data.all fun d=>decide (d.length≤300)
def yC (l:List RSet):Bool:=decide (l.length≤25)&&l.all sG
theorem Gl (v:Value) (l:List RSet) (w:World) (hv:SetsAt w v l):Calls Tryz.prog 49 #[v] w (bC w (.bool (yC l))):=by
 obtain ⟨cv,hv1,hvl⟩:=hv.sl;have hle:=hv1.le;go_enter Tryz.func49,Tryz.ntmps49
 (repeat' first|((with_reducible refine aZ ?_);go_step)|((with_reducible refine aS ?_);first|refine dU ?_|(refine bG ?_ ?_<;>intro hc))|fail)
 ·go_ret;refine ⟨?_,Ext.refl _⟩;have:decide (l.length≤25)=false:=decide_eq_false aC;simp [yC,this]
 ·have h25:decide (l.length≤25)=true:=decide_eq_true aC;go_loopw [3,4] (fun i _ wr=>∃ k:Nat,k≤l.length∧i=.int .i64 k∧Ext w wr∧(l.take k).all sG=true) (fun i _ _=>l.length - (intOf i).toNat)
  case atStart=>exact ⟨0,Nat.zero_le _,rfl,Ext.refl _,rfl⟩
  case round =>
   obtain ⟨k,hk,rfl,hx,hall⟩:=hrel;have hv2:=hv1.ext hx;by_cases hlt:k<l.length
   ·obtain ⟨x,h1,h1d⟩:=(hv.ext hx).elem (List.getElem?_eq_getElem hlt);have hdl:=bH l[k].data;have hdle:=h1d.le
    (repeat' first|((with_reducible refine aZ ?_);go_step)|((with_reducible refine aS ?_);first|refine dU ?_|(refine bG ?_ ?_<;>intro hc))|fail)
    ·go_ret;refine ⟨?_,by exact fP⟩;have:sG l[k]=false:=by
      have:decide (l[k].name.length≤300)=false:=decide_eq_false aC;simp [sG,this]
     simp [yC,zX hlt this]
    ·have e1:decide (l[k].data.length≤12)=true:=decide_eq_true aC;have e2:decide (l[k].name.length≤300)=true:=decide_eq_true aC;go_loopw [4] (fun i wq=>∃ j:Nat,j≤l[k].data.length∧i=.int .i64 j∧Ext wr wq∧(l[k].data.take j).all (fun d=>decide (d.length≤300))=true) (fun i _=>l[k].data.length - (intOf i).toNat)
     case atStart=>exact ⟨0,Nat.zero_le _,rfl,Ext.refl _,rfl⟩
     case round =>
      obtain ⟨j,hj,rfl,hx2,hall2⟩:=hrel;have hv3:=hv2.ext hx2;have h1b:=h1.ext hx2;have h1c:=h1d.ext hx2;by_cases hlt2:j<l[k].data.length
      ·have h3:=h1c.elem (kH hlt2)
       (repeat' first|((with_reducible refine aZ ?_);go_step)|((with_reducible refine aS ?_);first|refine dU ?_|(refine bG ?_ ?_<;>intro hc))|fail)
       ·go_ret;refine ⟨?_,by exact fP⟩;have:sG l[k]=false:=by
         have:l[k].data.all (fun d=>decide (d.length≤300))=false:=zX hlt2 (decide_eq_false aC);simp only [sG,this,Bool.and_false]
        simp [yC,zX hlt this]
       ·exact ⟨⟨j+1,aC,rfl,by exact fP,uG hlt2 hall2 (decide_eq_true aC)⟩,by simp [intOf];omega⟩
      ·have hj2:j=l[k].data.length:=aC;subst hj2
       (repeat' first|((with_reducible refine aZ ?_);go_step)|((with_reducible refine aS ?_);first|refine dU ?_|(refine bG ?_ ?_<;>intro hc))|fail)
       rw [List.take_length]at hall2;exact ⟨⟨k+1,aC,rfl,by exact fP,uG hlt hall (by rw [sG,e1,e2,hall2];rfl)⟩,by simp [intOf];omega⟩
    ·go_ret;refine ⟨?_,by exact fP⟩;have:sG l[k]=false:=by
      have:decide (l[k].data.length≤12)=false:=decide_eq_false aC;simp [sG,this]
     simp [yC,zX hlt this]
   ·have hk2:k=l.length:=aC;subst hk2
    (repeat' first|((with_reducible refine aZ ?_);go_step)|((with_reducible refine aS ?_);first|refine dU ?_|(refine bG ?_ ?_<;>intro hc))|fail)
    go_ret;refine ⟨?_,by exact fP⟩;rw [List.take_length]at hall;rw [yC,h25,hall];rfl
def qO (s:RSet) (i:Nat):Bool:=decide (bI ⟨s.name,s.kind,s.ttl,s.data.getD i []⟩≠0)||(decide (0<i) && !Op.bytesLess (s.data.getD (i - 1) []) (s.data.getD i []))
def lS (s:RSet):Bool:=decide (fold s.name=s.name)&&decide (1≤s.data.length)&&decide (s.data.length≤20)&&(List.range s.data.length).all fun i => !qO s i
theorem zY {s:RSet} (hi:i<s.data.length) (h:qO s i=true):lS s=false:=by
 have:(List.range s.data.length).all (fun i => !qO s i)=false:=by
  rw [List.all_eq_false];exact ⟨i,by simpa using hi,by simp [h]⟩
 simp [lS,this]
theorem Gm (s:RSet) (v:Value) (w:World) (hv:Sl 1 w v (aH s.data)):Calls Tryz.prog 117 #[.agg #[aE s.name, .int .i64 s.kind, .int .i64 s.ttl,v]] w (bC w (.bool (lS s))):=by
 have hlen:=bH s.data
 go_enter Tryz.func117,Tryz.ntmps117
 refine_lift mT fun _ _=>?_
 refine mW (vs:=[aE s.name, .int .i64 s.kind, .int .i64 s.ttl,v]) fun p w1 x1 hp=>?_
 refine aB ?_
 refine_lift BW fun _ _ _ _=>?_
 refine cQ (S:=Ext w1) zDk ?_
 intro w2 x2 _
 refine tk 0 ?_;refine aB ?_;refine tk 1 ?_;refine aB ?_;refine tk 3 ?_;refine aB ?_;refine tk 4 ?_;refine aB ?_
 refine bZ (i:=2) zDk rfl rfl ?_
 refine cB (vQ _ _) fun w3 x3=>?_
 refine aD ⟨by exact fP,?_⟩
 refine tk 5 ?_;refine aB ?_
 by_cases hf:fold s.name=s.name
 ·have e1:(decide (fold s.name=s.name))=true:=by simpa using hf
  simp only [e1,Bool.not_true]
  refine tk 6 ?_;refine aB ?_;refine tk 7 ?_;refine aB ?_;refine tk 8 ?_;refine aB ?_;refine tk 9 ?_;refine aB ?_;refine tk 10 ?_;refine aB ?_
  by_cases h1:s.data.length<1
  ·have e2:decide (((aH s.data).length:Int)<1)=true:=decide_eq_true aC
   simp only [e2]
   refine tk 11 ?_;refine aB ?_;refine tk 12 ?_;refine aB ?_
   refine tsk 13 ?_;refine aB ?_
   refine tsk 14 ?_;refine aB ?_
   refine tsk 15 ?_;refine aB ?_
   refine tsk 16 ?_;refine aB ?_
   refine tk 17 ?_;refine aB ?_
   refine cO zDk ?_
   refine_lift cL ?_
   go_ret
   refine ⟨?_,by exact fP⟩
   have:decide (1≤s.data.length)=false:=decide_eq_false aC
   simp [lS,this]
  ·have e2:decide (((aH s.data).length:Int)<1)=false:=decide_eq_false aC
   simp only [e2]
   refine tk 11 ?_;refine aB ?_;refine tk 12 ?_;refine aB ?_;refine tk 13 ?_;refine aB ?_;refine tk 14 ?_;refine aB ?_;refine tk 15 ?_;refine aB ?_;refine tk 16 ?_;refine aB ?_;refine tk 17 ?_;refine aB ?_
   refine cO zDk ?_
   by_cases h2:20<s.data.length
   ·have e3:decide ((20:Int)<((aH s.data).length:Int))=true:=decide_eq_true aC
    simp only [e3]
    refine_lift cL ?_
    go_ret
    refine ⟨?_,by exact fP⟩
    have:decide (s.data.length≤20)=false:=decide_eq_false aC
    simp [lS,this]
   ·have e3:decide ((20:Int)<((aH s.data).length:Int))=false:=decide_eq_false aC
    simp only [e3]
    refine_lift fN fun _ _=>?_
    have hxx:Ext w w3:=by exact fP
    go_loopw [3,4,26] (fun _ _ i wr=>∃ k:Nat,k≤s.data.length∧i=.int .i64 k∧Ext w3 wr∧∀ j,j<k→qO s j=false) (fun _ _ i _=>s.data.length - (intOf i).toNat)
    case atStart=>exact ⟨0,Nat.zero_le _,rfl,Ext.refl _,aC⟩
    case round =>
     obtain ⟨k,hk,rfl,hx,hall⟩:=hrel
     by_cases hlt:k<s.data.length
     ·have hvr:Sl 1 wr v (aH s.data):=hv.ext (hxx.trans hx)
      have he:(aH s.data)[k]? = some [aE s.data[k]]:=by simp [aH,hlt]
      have hpe:=hvr.elem he
      have hpr:Pts wr p _:=hp.ext ((x2.trans x3).trans hx)
      have hbad:qO s k=(decide (bI ⟨s.name,s.kind,s.ttl,s.data[k]⟩≠0)||(decide (0<k) && !Op.bytesLess (s.data.getD (k - 1) []) s.data[k])):=by
       have:s.data.getD k []=s.data[k]:=by simp [hlt]
       rw [qO,this]
      refine_lift JS ?_;intro _ _ _ _ _ _
      refine cB (Fq _ _ _ _) fun w7 x7=>?_
      refine_lift cL ?_
      refine cB (Cf ⟨s.name,s.kind,s.ttl,s.data[k]⟩ _) fun w8 x8=>?_
      by_cases hc:bI ⟨s.name,s.kind,s.ttl,s.data[k]⟩=0
      ·have e4:decide (bI ⟨s.name,s.kind,s.ttl,s.data[k]⟩=0)=true:=decide_eq_true hc
       generalize bI ⟨s.name,s.kind,s.ttl,s.data[k]⟩=cr at hc e4 hbad ⊢
       ((with_reducible refine aS ?_);(first|(refine gV ?_;refine JZ ?_)|(refine lY ?_;refine nR ?_;(with_reducible refine aS ?_);refine gV ?_;refine JZ ?_)))
       simp only [e4,Bool.not_true]
       refine_lift KB (fun hc=>?_) (fun hc=>?_)
       ·have hpp:Pts wr (cC v (((k:Int) - 1).toNat*1)) [aE (s.data.getD (k - 1) [])]:=by
         have e:((k:Int) - 1).toNat=k - 1:=aC
         rw [e]
         refine hvr.elem ?_
         have:k - 1<s.data.length:=aC
         simp [aH,this]
        refine_lift KB (fun _=>?_) (fun _=>?_)
        ·have hl:=‹(!Op.bytesLess (s.data.getD (k - 1) []) s.data[k])=true›
         go_ret
         refine ⟨?_,by exact fP⟩
         rw [zY hlt (by rw [hbad,hl];have:0<k:=aC
                        simp [this])]
         rfl
        ·have hl:=‹(!Op.bytesLess (s.data.getD (k - 1) []) s.data[k])=false›
         exact ⟨⟨k+1,aC,rfl,by exact fP,fun j hj=>by
          rcases Nat.lt_or_ge j k with h|h
          ·exact hall j h
          ·have:j=k:=aC
           subst this
           rw [hbad,hl];simp [‹cr=0›]⟩,by simp [intOf];omega⟩
       ·exact ⟨⟨k+1,aC,rfl,by exact fP,fun j hj=>by
         rcases Nat.lt_or_ge j k with h|h
         ·exact hall j h
         ·have:j=k:=aC
          subst this
          have:¬ (0<j):=aC
          rw [hbad];simp [‹cr=0›,this]⟩,by simp [intOf];omega⟩
      ·have e4:decide (bI ⟨s.name,s.kind,s.ttl,s.data[k]⟩=0)=false:=decide_eq_false hc
       generalize bI ⟨s.name,s.kind,s.ttl,s.data[k]⟩=cr at hc e4 hbad ⊢
       ((with_reducible refine aS ?_);(first|(refine gV ?_;refine JZ ?_)|(refine lY ?_;refine nR ?_;(with_reducible refine aS ?_);refine gV ?_;refine JZ ?_)))
       simp only [e4,Bool.not_false]
       refine_lift cL ?_
       go_ret
       refine ⟨?_,by exact fP⟩
       rw [zY hlt (by rw [hbad];simp [hc])]
       rfl
     ·have:k=s.data.length:=aC
      subst this
      refine_lift yL fun _=>?_
      go_ret
      refine ⟨?_,by exact fP⟩
      have h20:decide (s.data.length≤20)=true:=decide_eq_true aC
      have h10:decide (1≤s.data.length)=true:=decide_eq_true aC
      have hal:(List.range s.data.length).all (fun i => !qO s i)=true:=by
       rw [List.all_eq_true]
       intro i hi
       simp [hall i (by simpa using hi)]
      have:lS s=true:=by rw [lS,hal,h20,h10,e1];rfl
      rw [this]
      rfl
 ·have e1:(decide (fold s.name=s.name))=false:=by simpa using hf
  simp only [e1,Bool.not_false]
  refine tk 6 ?_;refine aB ?_
  refine tsk 7 ?_;refine aB ?_
  refine tsk 8 ?_;refine aB ?_
  refine tsk 9 ?_;refine aB ?_
  refine tsk 10 ?_;refine aB ?_
  refine tk 11 ?_;refine aB ?_;refine tk 12 ?_;refine aB ?_
  refine tsk 13 ?_;refine aB ?_
  refine tsk 14 ?_;refine aB ?_
  refine tsk 15 ?_;refine aB ?_
  refine tsk 16 ?_;refine aB ?_
  refine tk 17 ?_;refine aB ?_
  refine cO zDk ?_
  refine_lift cL ?_
  go_ret
  refine ⟨?_,by exact fP⟩
  simp [lS,hf]
theorem Ee (v:Value) (l:List (List UInt8)) (w:World) (hv:Sl 1 w v (aH l)) (hl:l.length≤8796093022208):Calls Tryz.prog 64 #[v] w (kZ w fun v' w'=>Own w.heap.size 1 9 w' v' (aH l)):=by
 have hlen:=bH l;go_enter Tryz.func64,Tryz.ntmps64
 (repeat' first|((with_reducible refine aZ ?_);go_step)|((with_reducible refine aS ?_);first|refine dU ?_|(refine bG ?_ ?_<;>intro hc))|fail)
 ·have hn:=‹wS v=true›;go_ret;have:aH l=[]:=hv.isNil hn;refine ⟨_,rfl,Ext.refl _,?_⟩;rw [this];exact Own.nil _ _ _ _
 ·refine kE (t:=80) (e:=9) (k:=1) (bytes:=16) zDk rfl ?_;intro v2 w2 x2 s2 o2;refine aB ?_;refine_lift cL ?_;refine jZ (B:=w.heap.size) (e:=9) (k:=1) (bytes:=16) (es:=[]) (fs:=aH l) rfl o2 rfl (hv.ext x2) zDk (by simp [aH,aE,Value.oneCell']) aC (by simp;omega) (by simp;omega) ?_;intro v3 w3 o3 m3;have x3:=o2.mvx m3 x2 (Nat.le_refl _);refine_lift cL ?_;go_ret;exact ⟨_,rfl,x3,o3⟩
def kI (l:List RSet) (i:Nat):Bool:=match l[i]? with
 | none=>false
 | some s => !lS s||(decide (0<i)&&decide (0≤eT (l.getD (i - 1) default).name s.name (l.getD (i - 1) default).kind s.kind))
def cU (l:List RSet):Int:=if 200<l.length then 1 else if (List.range l.length).all (fun i => !kI l i)=true then 0 else 1
theorem sX {l:List RSet} (hi:i<l.length) (h:kI l i=true):cU l=1:=by
 have:(List.range l.length).all (fun i => !kI l i)=false:=by
  rw [List.all_eq_false];exact ⟨i,by simpa using hi,by simp [h]⟩
 rw [cU,this];split<;>rfl
theorem Ft (v:Value) (l:List RSet) (w:World) (hv:SetsAt w v l):Calls Tryz.prog 58 #[v] w (bC w (.int .i64 (cU l))):=by
 obtain ⟨cv,hv1,hvl⟩:=hv.sl;have hle:=hv1.le;go_enter Tryz.func58,Tryz.ntmps58
 refine_lift PY (fun _ _ _=>?_) (fun _=>?_)
 ·go_ret;refine ⟨?_,Ext.refl _⟩;rw [cU,if_pos aC];rfl
 ·go_loopw [3,4,10] (fun _ _ i wr=>∃ k:Nat,k≤l.length∧i=.int .i64 k∧Ext w wr∧∀ j,j<k→kI l j=false) (fun _ _ i _=>l.length - (intOf i).toNat)
  case atStart=>exact ⟨0,Nat.zero_le _,rfl,Ext.refl _,aC⟩
  case round =>
   obtain ⟨k,hk,rfl,hx,hall⟩:=hrel;have hv2:=hv1.ext hx;by_cases hlt:k<l.length
   ·obtain ⟨x,h1,h1d⟩:=(hv.ext hx).elem (List.getElem?_eq_getElem hlt);have hbad:kI l k=(!lS l[k]||(decide (0<k)&&decide (0≤eT (l.getD (k - 1) default).name l[k].name (l.getD (k - 1) default).kind l[k].kind))):=by
     rw [kI,List.getElem?_eq_getElem hlt]
    refine_lift JS ?_;intro _ _ _ _ _ _;refine dX (z:=[aE [], .int .i64 0, .int .i64 0, .slice none 0 0]) fun w2 x2 s2 h2=>?_;refine_lift cL ?_;refine dL (v:=.agg #[aE l[k].name, .int .i64 l[k].kind, .int .i64 l[k].ttl,x]) h2 ?_ ?_
    ·exact gE rfl rfl rfl h1d.one
    intro w3 p3;have x3:=cJ x2 p3;have hp4:=aA (cs:=[aE l[k].name, .int .i64 l[k].kind, .int .i64 l[k].ttl,x]) p3.this;clear p3 h2 x2;refine_lift fN fun _ _=>?_;refine cQ (S:=Ext w3) zDk ?_;intro w4 x4 _;refine tk 0 ?_;refine aB ?_;refine bZ (i:=1) zDk rfl rfl ?_;refine cB (Gm l[k] _ _ (h1d.ext (x3.trans x4))) fun w5 x5=>?_;refine aD ⟨by exact fP,?_⟩;cases hm:lS l[k] with
    | false =>
     rw [hm]at hbad;refine tk 2 ?_;refine aB ?_
     try simp only [Bool.not_false]
     refine tk 3 ?_;refine aB ?_;refine tsk 4 ?_;refine aB ?_;refine tsk 5 ?_;refine aB ?_;refine tsk 6 ?_;refine aB ?_;refine tsk 7 ?_;refine aB ?_;refine tsk 8 ?_;refine aB ?_;refine tsk 9 ?_;refine aB ?_;refine tsk 10 ?_;refine aB ?_;refine tsk 11 ?_;refine aB ?_;refine tsk 12 ?_;refine aB ?_;refine tsk 13 ?_;refine aB ?_;refine tsk 14 ?_;refine aB ?_;refine tsk 15 ?_;refine aB ?_;refine tk 16 ?_;refine aB ?_;refine cO zDk ?_;refine_lift cL ?_;go_ret;refine ⟨?_,by exact fP⟩;rw [sX hlt (by rw [hbad];rfl)];rfl
    | true =>
     rw [hm]at hbad;refine tk 2 ?_;refine aB ?_
     try simp only [Bool.not_true]
     refine tk 3 ?_;refine aB ?_;refine tk 4 ?_;refine aB ?_;refine tk 5 ?_;refine aB ?_;by_cases hk0:0<k
     ·have e5:decide ((0:Int)<(k:Int))=true:=decide_eq_true aC;have e6:decide (0<k)=true:=decide_eq_true hk0;simp only [e5];rw [e6]at hbad;have hkl:k - 1<l.length:=aC;have hgd:l.getD (k - 1) default=l[k - 1]:=by simp [hkl]
      obtain ⟨y,h9',h9d⟩:=(hv.ext hx).elem (List.getElem?_eq_getElem hkl);have e9:((k:Int) - 1).toNat=k - 1:=aC;have h9:Pts wr (cC v (((k:Int) - 1).toNat*4)) [aE l[k - 1].name, .int .i64 l[k - 1].kind, .int .i64 l[k - 1].ttl,y]:=by rw [e9];exact h9'
      rw [hgd]at hbad;refine tk 6 ?_;refine aB ?_;refine tk 7 ?_;refine aB ?_;refine tk 8 ?_;refine aB ?_;refine tk 9 ?_;refine aB ?_;refine tk 10 ?_;refine aB ?_;refine tk 11 ?_;refine aB ?_;refine tk 12 ?_;refine aB ?_;refine bZ (i:=13) zDk rfl rfl ?_;refine cB (Fs _ _ _ _ _ _ _ _ _) fun w6 x6=>?_;refine aD ⟨by exact fP,?_⟩;refine tk 14 ?_;refine aB ?_;refine tk 15 ?_;refine aB ?_;refine tk 16 ?_;refine aB ?_;refine cO zDk ?_;by_cases hc:0≤eT l[k - 1].name l[k].name l[k - 1].kind l[k].kind
      ·have e7:decide (0≤eT l[k - 1].name l[k].name l[k - 1].kind l[k].kind)=true:=decide_eq_true hc;simp only [e7];refine_lift cL ?_;go_ret;refine ⟨?_,by exact fP⟩;rw [sX hlt (by rw [hbad,e7];rfl)];rfl
      ·have e7:decide (0≤eT l[k - 1].name l[k].name l[k - 1].kind l[k].kind)=false:=decide_eq_false hc;simp only [e7];refine_lift cL ?_;exact ⟨⟨k+1,aC,rfl,by exact fP,fun j hj=>by
        rcases Nat.lt_or_ge j k with h|h
        ·exact hall j h
        ·have:j=k:=aC;subst this;rw [hbad,e7];rfl⟩,by simp [intOf];omega⟩
     ·have e5:decide ((0:Int)<(k:Int))=false:=decide_eq_false aC;have e6:decide (0<k)=false:=decide_eq_false hk0;simp only [e5];rw [e6]at hbad;refine tk 6 ?_;refine aB ?_;refine tsk 7 ?_;refine aB ?_;refine tsk 8 ?_;refine aB ?_;refine tsk 9 ?_;refine aB ?_;refine tsk 10 ?_;refine aB ?_;refine tsk 11 ?_;refine aB ?_;refine tsk 12 ?_;refine aB ?_;refine tsk 13 ?_;refine aB ?_;refine tsk 14 ?_;refine aB ?_;refine tk 15 ?_;refine aB ?_;refine tk 16 ?_;refine aB ?_;refine cO zDk ?_;refine_lift cL ?_;exact ⟨⟨k+1,aC,rfl,by exact fP,fun j hj=>by
       rcases Nat.lt_or_ge j k with h|h
       ·exact hall j h
       ·have:j=k:=aC;subst this;rw [hbad];rfl⟩,by simp [intOf];omega⟩
   ·have hk2:k=l.length:=aC;subst hk2;refine_lift yL fun _=>?_;go_ret;refine ⟨?_,by exact fP⟩;have:(List.range l.length).all (fun i => !kI l i)=true:=by
     rw [List.all_eq_true];intro i hi;simp [hall i (by simpa using hi)]
    rw [cU,this,if_neg aC];rfl
def hit (n:List UInt8) (k:Int) (s:RSet):Bool:=decide (s.name=n)&&decide (s.kind=k)
def cK (l:List RSet) (n:List UInt8) (k:Int):Option RSet:=l.find? (hit (fold n) k)
def gT:List Value:=[aE [], .int .i64 0, .int .i64 0, .slice none 0 0]
theorem DC {α:Type} {p:α→Bool} {l:List α} (h:k<l.length) (ha:(l.take k).find? p=none) (hp:p l[k]=false):(l.take (k+1)).find? p=none:=by
 rw [List.take_add_one,List.getElem?_eq_getElem h,List.find?_append,ha];simp [hp]
theorem MC {α:Type} {p:α→Bool} {l:List α} (h:k<l.length) (ha:(l.take k).find? p=none) (hp:p l[k]=true):l.find? p=some l[k]:=by
 have e:l=l.take k++(l[k]::l.drop (k+1)):=by rw [← List.drop_eq_getElem_cons h,List.take_append_drop]
 have:l.find? p=(l.take k++(l[k]::l.drop (k+1))).find? p:=congrArg _ e;rw [this,List.find?_append,ha,List.find?_cons,hp];rfl
theorem Bs (v:Value) (l:List RSet) (n:List UInt8) (kd:Int) (w:World) (hv:SetsAt w v l) (hb:∀ s∈l,s.data.length≤8796093022208):Calls Tryz.prog 59 #[v,aE n, .int .i64 kd] w (kZ w fun r w'=>match cK l n kd with
 | some s=>∃ x,r=.tuple #[.agg #[aE s.name, .int .i64 s.kind, .int .i64 s.ttl,x], .bool true]∧Own w.heap.size 1 9 w' x (aH s.data)
 | none=>r=.tuple #[.agg gT.toArray, .bool false]):=by
 obtain ⟨cv,hv1,hvl⟩:=hv.sl;have hle:=hv1.le;go_enter Tryz.func59,Tryz.ntmps59
 refine_lift sF ?_;intro _ _ _;refine dX (z:=gT) fun w1 x1 s1 h1=>?_;refine_lift fN fun _ _=>?_;refine cB (vQ _ _) fun w2 x2=>?_;have h2:=x2.at h1;have x12:Ext w w2:=x1.trans x2;refine_lift fN fun _ _=>?_;have hv2:=hv1.ext x12;refine_lift cL ?_;go_loopw [9,14] (fun _ i wr=>∃ k:Nat,k≤l.length∧i=.int .i64 k∧Ext w2 wr∧(l.take k).find? (hit (fold n) kd)=none) (fun _ i _=>l.length - (intOf i).toNat)
 case atStart=>exact ⟨0,Nat.zero_le _,rfl,Ext.refl _,rfl⟩
 case round =>
  obtain ⟨k,hk,rfl,hx,hall⟩:=hrel;have hxw:Ext w wr:=x12.trans hx;have hv2:=hv1.ext hxw;have h3:=hx.at h2;by_cases hlt:k<l.length
  ·obtain ⟨x,h4,h4d⟩:=(hv.ext hxw).elem (List.getElem?_eq_getElem hlt);have hbk:=hb _ (List.getElem_mem hlt);refine_lift JS ?_;intro _ _ _ _ _ _;refine dX (z:=gT) fun w5 x5 s5 h5=>?_;refine_lift cL ?_;refine dL (v:=.agg #[aE l[k].name, .int .i64 l[k].kind, .int .i64 l[k].ttl,x]) h5 (gE rfl rfl rfl h4d.one) fun w6 p6=>?_;have x6:=cJ x5 p6;have b6:=p6.this;have hp6:=aA (cs:=[aE l[k].name, .int .i64 l[k].kind, .int .i64 l[k].ttl,x]) b6;have z6:w6.heap.size=wr.heap.size+1:=p6.size.trans s5;clear p6 h5 x5;refine_lift XK (fun hc _=>?_) (fun hc=>?_) (fun hc _ _ _=>?_)
   ·have hh:cK l n kd=some l[k]:=MC hlt hall (by have h1:=‹l[k].name=fold n›;have h2:=‹l[k].kind=kd›;simp [hit,h1,h2]);refine sC (Ee x l[k].data _ (h4d.ext x6) hbk) fun y w7 x7 o7=>?_;refine_lift cL ?_;have b7:=x7.at b6;refine iJ (cs:=[aE l[k].name, .int .i64 l[k].kind, .int .i64 l[k].ttl,x]) b7 rfl rfl rfl aX zDk o7.one ?_;intro w8 p8;have x68:=cJ (x6.trans x7) p8;have hp8:=aA (cs:=[aE l[k].name, .int .i64 l[k].kind, .int .i64 l[k].ttl,y]) p8.this;have h8:=x68.at h3;have o8:Own (w.heap.size+1) 1 9 w8 y (aH l[k].data):=(o7.put p8 aC).weaken (by have:=hx.size;have:=x2.size;omega);clear hp6 b6 b7 p8;refine_lift fN fun _ _=>?_;refine dL (v:=.agg #[aE l[k].name, .int .i64 l[k].kind, .int .i64 l[k].ttl,y]) h8 (gE rfl rfl rfl o7.one) fun w9 p9=>?_;have x9:=cJ (hxw.trans x68) p9;have o9:Own (w.heap.size+1) 1 9 w9 y (aH l[k].data):=o8.put p9 aC;refine_lift cL ?_;refine uC (cs:=[aE l[k].name, .int .i64 l[k].kind, .int .i64 l[k].ttl,y]) p9.this ⟨_,rfl,x9,?_⟩;rw [hh];exact ⟨y,rfl,o9.weaken aC⟩
   ·exact ⟨⟨k+1,aC,rfl,by exact fP,DC hlt hall (by have h2:=‹¬l[k].kind=kd›;simp [hit,h2])⟩,by simp [intOf];omega⟩
   ·exact ⟨⟨k+1,aC,rfl,by exact fP,DC hlt hall (by have h2:=‹¬l[k].name=fold n›;simp [hit,h2])⟩,by simp [intOf];omega⟩
  ·have hk2:k=l.length:=aC;subst hk2;rw [List.take_length]at hall;refine_lift LZ fun _ _ _=>?_;refine cG rfl (Runs.build0 (cells:=gT.toArray) (by kernel_rfl)) ?_;refine aB ?_;refine dL (v:=.agg gT.toArray) h3 (gE rfl rfl rfl rfl) fun w4 p4=>?_;have x4:=cJ hxw p4;refine_lift cL ?_;refine uC (cs:=gT) p4.this ⟨_,rfl,x4,?_⟩;have hh:cK l n kd=none:=hall;rw [hh];rfl
def uH (s:RSet) (d:List UInt8):Rec:=⟨s.name,s.kind,s.ttl,d⟩
def eK (s:RSet):List Rec:=s.data.map (uH s)
def bD (l:List RSet):List Rec:=(l.map eK).flatten
theorem iD {α β:Type} {f:α→β} {l:List α} (h:k<l.length):(l.take (k+1)).map f=(l.take k).map f ++ [f l[k]]:=by
 rw [List.take_add_one,List.getElem?_eq_getElem h,List.map_append];simp
theorem FC {α:Type} (L:List (List α)) (k:Nat):(L.take k).flatten.length≤L.flatten.length:=by
 conv=>rhs;rw [← List.take_append_drop k L,List.flatten_append]
 simp
def pW (l:List RSet) (k:Nat):List Rec:=((l.take k).map eK).flatten
theorem zZ {l:List RSet} (h:k<l.length):pW l (k+1)=pW l k++eK l[k]:=by
 rw [pW,iD h,List.flatten_append];simp [pW]
theorem QK (l:List RSet) (k:Nat):(pW l k).length≤(bD l).length:=by
 rw [pW,bD,List.map_take];exact FC _ _
theorem NO (l:List RSet):pW l l.length=bD l:=by rw [pW,List.take_length,bD]
theorem Bt (v:Value) (l:List RSet) (w:World) (hv:SetsAt w v l) (hb:(bD l).length≤1000000):Calls Tryz.prog 103 #[v] w (kZ w fun r w'=>Own w.heap.size 4 37 w' r (aF (bD l))):=by
 obtain ⟨cv,hv1,hvl⟩:=hv.sl;have hle:=hv1.le;go_enter Tryz.func103,Tryz.ntmps103
 refine_lift LZ ?_;intro _ _ _;go_loopw [3,5,7,10,17] (fun o _ _ i _ wr=>∃ k:Nat,k≤l.length∧i=.int .i64 k∧Ext w wr∧Own w.heap.size 4 37 wr o (aF (pW l k))) (fun _ _ _ i _ _=>l.length - (intOf i).toNat)
 case atStart=>exact ⟨0,Nat.zero_le _,rfl,Ext.refl _,Own.nil _ _ _ _⟩
 case round =>
  obtain ⟨k,hk,rfl,hx,ho⟩:=hrel;have hv2:=hv1.ext hx;by_cases hlt:k<l.length
  ·obtain ⟨x,h4,h4d⟩:=hv.elem (List.getElem?_eq_getElem hlt);have hdl:=bH l[k].data;have hdle:=h4d.le;have hlo:=hx.size;refine_lift JS ?_;intro _ _ _ _ _ _;refine dX (z:=gT) fun w5 x5 s5 h5=>?_;refine_lift cL ?_;refine dL (v:=.agg #[aE l[k].name, .int .i64 l[k].kind, .int .i64 l[k].ttl,x]) h5 (gE rfl rfl rfl h4d.one) fun w6 p6=>?_;have x6:=cJ x5 p6;have b6:w6.heap[wr.heap.size]? = some (.cells [aE l[k].name, .int .i64 l[k].kind, .int .i64 l[k].ttl,x].toArray 136 (0,0)):=p6.this;have z6:wr.heap.size<w6.heap.size:=by have:=p6.size;omega
   have o6:=ho.ext x6;have xw6:=hx.trans x6;have hne6:u3.ownBlock≠some wr.heap.size:=fun e=>by have:=ho.block _ e;omega
   clear p6 h5 x5 s5;have hp6:=aA b6;refine_lift cL ?_;clear hp6;generalize wr.heap.size=b at b6 z6 hne6 hlo ⊢;go_loopw [3,7,17] (fun o _ i wq=>∃ j:Nat,j≤l[k].data.length∧i=.int .i64 j∧Ext w wq∧b<wq.heap.size∧wq.heap[b]? = some (.cells [aE l[k].name, .int .i64 l[k].kind, .int .i64 l[k].ttl,x].toArray 136 (0,0))∧o.ownBlock≠some b∧Own w.heap.size 4 37 wq o (aF (pW l k++(l[k].data.take j).map (uH l[k])))) (fun _ _ i _=>l[k].data.length - (intOf i).toNat)
   case atStart=>exact ⟨0,Nat.zero_le _,rfl,xw6,z6,b6,hne6,by simpa using o6⟩
   case round =>
    obtain ⟨j,hj,rfl,hxq,hz,hbq,hne,hoq⟩:=hrel;have hpq:=aA hbq;by_cases hlt2:j<l[k].data.length
    ·have h3:=h4d.elem (kH hlt2);have hle1:=QK l (k+1);rw [zZ hlt,List.length_append]at hle1;have hle2:(eK l[k]).length=l[k].data.length:=by simp [eK]
     have hcl:(aF (pW l k++(l[k].data.take j).map (uH l[k]))).length=(pW l k).length+j:=by simp [aF];omega
     refine_lift BW ?_;intro _ _ _ _;refine cB (Fq l[k] x l[k].data[j] _) fun w7 x7=>?_;refine_lift cL ?_;refine oD (e:=37) (k:=4) (bytes:=48) (xs:=[.agg #[aE l[k].name, .int .i64 l[k].kind, .int .i64 l[k].ttl,aE l[k].data[j]]]) (by simp [Value.cells]) fun v8 w8 x8 s8 sl8 _=>?_;refine aB ?_;refine_lift cL ?_;refine gK (B:=w.heap.size) (e:=37) (k:=4) (bytes:=48) rfl (hoq.ext (x7.trans x8)) rfl sl8 zDk (by simp [Value.cells,aE,Value.oneCell']) (by have:=hxq.size;have:=x7.size;omega) (by rw [hcl];simp;omega) (by rw [hcl];simp;omega) ?_;intro v9 w9 o9 m9 k9;have hb8:=(x7.trans x8).at hbq;have hb9:=m9.at hb8 (fun e=>hne e.symm);have x9:Ext w w9:=(hoq.ext (x7.trans x8)).mvx m9 (hxq.trans (x7.trans x8)) (Nat.le_refl _);refine_lift cL ?_;refine ⟨⟨j+1,aC,rfl,x9,?_,hb9,?_,?_⟩,by simp [intOf];omega⟩
     ·have:=x7.size;have:=x8.size;have:=m9.size;omega
     ·rcases k9 with h|h
      ·rw [h];exact hne
      ·rw [h];intro e;have:=Option.some.inj e;have:=x7.size;omega
     ·rw [iD hlt2,← List.append_assoc]
      simpa [aF,uH,Rec.cells,Value.cells]using o9
    ·have hj2:j=l[k].data.length:=aC;subst hj2;refine_lift yL fun _=>?_;exact ⟨⟨k+1,aC,rfl,hxq,by rw [zZ hlt];rw [List.take_length]at hoq;exact hoq⟩,by simp [intOf];omega⟩
  ·have hk2:k=l.length:=aC;subst hk2;refine_lift yL fun _=>?_;go_ret;refine ⟨_,rfl,hx,?_⟩;rw [NO]at ho;exact ho
def DD (r:Rec):Bool:=decide (bI r=0)
def oK (s:RSet):RSet:=⟨s.name,s.kind,s.ttl,Lib.compact (s.data.mergeSort fun x y=>decide (x≤y))⟩
theorem jD {n:List UInt8} {r:Rec} (h:bI r=0):(aM r.name).isSome=true∧1≤r.kind∧r.kind≤65535:=by
 unfold bI at h;split at h
 ·omega
 ·split at h
  ·omega
  ·split at h
   ·rename_i h1;exact ⟨h1,aC,aC⟩
   ·omega
theorem jE (n:List UInt8) (h:(aM n).isSome=true):(fold n).length≤254:=by
 unfold fold;cases hl:aM n with
 | none=>rw [hl]at h;cases h
 | some ls =>
  simp only;cases hj:mV (ls.map low) with
  | none=>simp
  | some m =>
   unfold mV at hj;split at hj
   ·rename_i hh;cases hj;simpa using hh.2
   ·cases hj
theorem mJ {t t':Nat} {x y:Array Value} {f f':Nat×Nat} (ha:w.heap[a]? = some (.cells x t f)) (hb:w.heap[b]? = some (.cells y t' f')) (h:t≠t'):a≠b:=by
 rintro rfl;rw [ha]at hb;simp only [Option.some.injEq,Obj.cells.injEq]at hb;exact h hb.2.1
theorem mL {gcs:List GC} {c c':GC} (hi:gcs[i]? = some c) (h:c'.key=c.key):(gcs.set i c').map GC.key=gcs.map GC.key:=by
 rw [List.map_set,h];apply List.ext_getElem?;intro j;by_cases e:i=j
 ·subst e;rw [List.getElem?_set_self (by simpa using (List.getElem?_eq_some_iff.1 hi).1),List.getElem?_map,hi];rfl
 ·rw [List.getElem?_set_ne e]
theorem pK {gcs:List GC} {c c':GC} (hi:gcs[i]? = some c) (h:c'.kcells=c.kcells):(gcs.set i c').map GC.kcells=gcs.map GC.kcells:=by
 rw [List.map_set,h];apply List.ext_getElem?;intro j;by_cases e:i=j
 ·subst e;rw [List.getElem?_set_self (by simpa using (List.getElem?_eq_some_iff.1 hi).1),List.getElem?_map,hi];rfl
 ·rw [List.getElem?_set_ne e]
theorem AA (l:List Rec):∀ (l2:List Rec) (gs:List RSet),(∀ s:RSet,s∈gs→∃ r∈l,s.name=fold r.name∧s.kind=r.kind)→(∀ r∈l2,r∈l)→∀ s:RSet,s∈l2.foldl eD gs→∃ r∈l,s.name=fold r.name∧s.kind=r.kind
 | [],gs,h,_=>h
 | r::l2,gs,h,hsub=>by
   refine AA l l2 _ (fun s hs=>?_) (fun r hr=>hsub r (by simp [hr]));rcases sV hs with ⟨t,ht,e1,e2⟩|⟨e1,e2⟩
   ·obtain ⟨r,hr,f1,f2⟩:=h t ht;exact ⟨r,hr,by rw [← e1,f1],by rw [← e2,f2]⟩
   ·exact ⟨r,hsub r aX,e1,e2⟩
theorem DE {l:List Rec} {s:RSet} (h:s∈dC l):∃ r∈l,s.name=fold r.name∧s.kind=r.kind :=
 AA l l [] aX (fun _ h=>h) s h
theorem NP (r:Rec):bI r=0∨bI r=1:=by
 unfold bI;split
 ·exact .inr rfl
 ·split
  ·exact .inr rfl
  ·split
   ·exact .inl rfl
   ·exact .inr rfl
def fE (l:List Rec):List RSet:=(dC l).map oK
def QL (s:RSet):Bool:=decide (20<s.data.length)
def jF (l:List Rec):Int:=if l.all DD=false then 1 else if (fE l).any QL=true then 4 else if 200<(fE l).length then 4 else 0
def sY (l:List RSet):Prop:=∀ (i j:Nat) (s t:RSet),i<j→l[i]? = some s→l[j]? = some t→0≤eT t.name s.name t.kind s.kind
def KF (l:List Rec) (r:Value) (w':World):Prop :=
 if jF l=0 then ∃ out v,r=.tuple #[v, .int .i64 0]∧out.Perm (fE l)∧sY out∧SetsAt w' v out else r=.tuple #[.slice none 0 0, .int .i64 (jF l)]
def GroupO (B:Nat) (l:List Rec) (r:Value) (w':World):Prop :=
 if jF l=0 then ∃ out v,r=.tuple #[v, .int .i64 0]∧out.Perm (fE l)∧sY out∧SetsO B w' v out else r=.tuple #[.slice none 0 0, .int .i64 (jF l)]
theorem GroupO.group {l:List Rec} (h:GroupO B l r w'):KF l r w':=by
 unfold GroupO at h;unfold KF;split at h
 ·rename_i h0;rw [if_pos h0];obtain ⟨out,v,h1,h2,h3,h4⟩:=h;exact ⟨out,v,h1,h2,h3,h4.sets⟩
 ·rename_i h0;rw [if_neg h0];exact h
def vA:Value→Option Addr | .slice a _ _=>a|_=>none
def vN:Value→Nat | .slice _ n _=>n|_=>0
def vC:Value→Nat | .slice _ _ c=>c|_=>0
def GC.toC (c:GC):SetC:=⟨c.s.name,c.s.kind,c.s.ttl,vA c.v,vN c.v,vC c.v,c.s.data⟩
def SetC.toS (s:SetC):RSet:=⟨s.name,s.kind,s.ttl,s.d⟩
theorem Sl.isSlice (h:Sl k w v es):v=.slice (vA v) (vN v) (vC v):=by
 obtain ⟨a,cap,rfl,_⟩:=h;rfl
theorem GC.toC_cells {c:GC} (h:GOK w B c):c.toC.cells=c.cells:=by
 simp only [SetC.cells,GC.toC,GC.cells,SetC.v,← h.own.sl.isSlice]
theorem L1.mvOut {kv out:Value} {gcs:List GC} (h:L1 w0 w kv gcs) (m:Mv out.ownBlock w w') (ho:Own (w0.heap.size+1) 4 136 w out es) (hob:∀ c∈gcs,out.ownBlock≠some c.b):L1 w0 w' kv gcs:=by
 obtain ⟨es',ck,hm1,_⟩:=h.map.out;refine ⟨h.ext.move m (fun k hk=>by have:=(ho.block k hk).1;omega),h.map.at (fun o hh=>m.at hh (fun e=>ho.neMap hm1 e.symm)),h.keys.mv m (h.keys.ne ho aC),h.sets.mv m fun c hc=>⟨fun e=>hob c hc e.symm,(h.sets.each c hc).own.ne ho aC⟩⟩
theorem En (v:Value) (l:List Rec) (w:World) (hv:Sl 4 w v (aF l)) (hl:l.length≤10000):Calls Tryz.prog 57 #[v] w (kZ w (GroupO w.heap.size l)):=by
 have hle:=aJ l;go_enter Tryz.func57,Tryz.ntmps57
 refine_lift mT fun _ _=>?_;refine_lift fN fun _ _=>?_;refine nD (kt:=216) rfl ?_;intro w1 x1 s1 h1;refine aB ?_;refine_lift fN fun _ _=>?_;go_loopw [5,7,8,9,10,11,19] (fun kv _ _ _ _ _ i wr=>∃ (k:Nat) (gcs:List GC),k≤l.length∧i=.int .i64 k∧L1 w wr kv gcs∧(l.take k).all DD=true∧gcs.map GC.s=dC (l.take k)) (fun _ _ _ _ _ _ i _=>l.length - (intOf i).toNat)
 case atStart=>exact ⟨0,[],Nat.zero_le _,rfl,⟨x1,h1,Own.nil _ _ _ _,⟨aX,aX⟩⟩,rfl,rfl⟩
 case round =>
  obtain ⟨k,gcs,hk,rfl,hL,hall,hgs⟩:=hrel;have hx:=hL.ext;have hv2:=hv.ext hx;by_cases hlt:k<l.length
  ·have hp:=hv2.elem (eX hlt);refine_lift JS ?_;intro _ _ _ _ _ _;refine dX (z:=[aE [], .int .i64 0, .int .i64 0,aE []]) fun w5 x5 s5 h5=>?_;refine_lift cL ?_;refine dL (v:=.agg #[aE l[k].name, .int .i64 l[k].kind, .int .i64 l[k].ttl,aE l[k].data]) h5 (gE rfl rfl rfl rfl) fun w6 p6=>?_;have x6:=cJ x5 p6;have hp6:=aA (cs:=[aE l[k].name, .int .i64 l[k].kind, .int .i64 l[k].ttl,aE l[k].data]) p6.this;have z6:w6.heap.size=wr.heap.size+1:=p6.size.trans s5;have b6:w6.heap[wr.heap.size]? = some (.cells [aE l[k].name, .int .i64 l[k].kind, .int .i64 l[k].ttl,aE l[k].data].toArray 37 (0,0)):=p6.this;have hL6:=hL.grow x6;clear p6 h5 x5;refine_lift BW fun _ _ _ _=>?_;refine cB (Cf l[k] _) fun w7 x7=>?_;refine_lift PY (fun _ _ _=>?_) (fun _=>?_)
   ·have hbad:=‹(!decide (bI l[k]=0))=true›;have hne:bI l[k]≠0:=by simpa using hbad
    have h1:bI l[k]=1:=(NP _).resolve_left hne;go_ret2;refine ⟨_,rfl,hx.trans (x6.trans x7),?_⟩;have hE:jF l=1:=by rw [jF,if_pos (zX hlt (by simp [DD,hne]))]
    unfold GroupO;rw [hE,if_neg aC,← h1];rfl
   ·have hc0:bI l[k]=0:=by have:=‹(!decide (bI l[k]=0))=false›;simpa using this
    obtain ⟨hlab,hk1,hk2⟩:=jD (n:=[]) hc0;have hL7:=hL6.grow x7;apply LW (F:=fun (kb:Nat) w'=>Ext w7 w'∧w7.heap.size≤kb∧w'.heap[kb]? = some (.cells [aE (fold l[k].name), .int .i64 l[k].kind].toArray 216 (0,0)))
    ·intro hK;refine cQ (S:=Ext w7) zDk ?_;intro w8 x8 _;refine tk 0 ?_;refine aB ?_;refine tk 1 ?_;refine aB ?_;refine tk 3 ?_;refine aB ?_;refine tk 4 ?_;refine aB ?_;refine tT (i:=2) (j:=6) zDk rfl rfl rfl ?_ ?_
     ·refine cB (vQ _ _) fun w9 x9=>?_;refine aD ⟨by exact fP,?_⟩;refine dJ (i:=5) (v:=.agg #[aE (fold l[k].name), .int .i64 l[k].kind]) rfl rfl zDk zDk zDk rfl (by exact fP) (fun w' _=>Runs.build rfl (by kernel_rfl)) (fun _ _ _ h=>h) ?_;refine aB ?_;refine bZ (i:=6) zDk rfl rfl ?_;refine dX (z:=[aE [], .int .i64 0]) fun w10 x10 s10 h10=>?_;refine aB ?_;refine aD ⟨by exact fP,?_⟩;refine bZ (i:=7) zDk rfl rfl ?_;refine dL (v:=.agg #[aE (fold l[k].name), .int .i64 l[k].kind]) h10 (by simp [Value.cells,aE,Value.oneCell']) fun w11 p11=>?_;have x11:Ext w7 w11:=((x8.trans x9).trans x10).move p11.mv (by rintro k ⟨⟩;have:=x8.size;have:=x9.size;omega);refine aD ⟨x11,?_⟩;refine cO zDk ?_;have b11:=p11.this;clear p11 h10;have z11:w7.heap.size≤w9.heap.size:=Nat.le_trans x8.size x9.size;generalize w9.heap.size=kb at b11 z11 ⊢;exact hK kb w11 ⟨x11,z11,b11⟩
     ·refine dX (z:=[aE [], .int .i64 0]) fun w9 x9 s9 h9=>?_;refine aB ?_;refine aD ⟨by exact fP,?_⟩;refine bZ (i:=2) zDk rfl rfl ?_;refine cB (vQ _ _) fun w10 x10=>?_;refine aD ⟨by exact fP,?_⟩;refine dJ (i:=5) (v:=.agg #[aE (fold l[k].name), .int .i64 l[k].kind]) rfl rfl zDk zDk zDk rfl (by exact fP) (fun w' _=>Runs.build rfl (by kernel_rfl)) (fun _ _ _ h=>h) ?_;refine aB ?_;refine bZ (i:=7) zDk rfl rfl ?_;refine dL (v:=.agg #[aE (fold l[k].name), .int .i64 l[k].kind]) (x10.at h9) (by simp [Value.cells,aE,Value.oneCell']) fun w11 p11=>?_;have x11:Ext w7 w11:=((x8.trans x9).trans x10).move p11.mv (by rintro k ⟨⟩;have:=x8.size;omega);refine aD ⟨x11,?_⟩;refine cO zDk ?_;have b11:=p11.this;clear p11 h9;have z11:w7.heap.size≤w8.heap.size:=x8.size;generalize w8.heap.size=kb at b11 z11 ⊢;exact hK kb w11 ⟨x11,z11,b11⟩
    ·rintro kb w8 ⟨x8,zkb,hkb⟩;have hpk:=aA hkb;refine_lift fN fun _ _=>?_;have hL8:=hL7.grow x8;have hr8:=(x7.trans x8).at b6;have hfl:=jE _ hlab;obtain ⟨lx,hlx⟩:=MB (fold l[k].name) l[k].kind aC aC;have hzv:∀ w,(zeroValue 217).run Tryz.prog w=.ok (.pointer none) w:=fun w=>by kernel_rfl
     obtain ⟨u,bb,hrl,hcase⟩:=gM QI (zDk:eI Tryz.prog 212 216 217=true) hzv hL8.map hlx true;refine cG rfl (Runs.lookup rfl rfl hrl) ?_;refine aB ?_;rcases hcase with ⟨i,hie,rfl⟩|⟨hno,rfl,rfl⟩
     ·rw [List.getElem?_map]at hie;cases hi:gcs[i]? with
      | none=>rw [hi]at hie;cases hie
      | some c =>
      rw [hi,Option.map_some]at hie;simp only [GC.key,Option.some.injEq,Prod.mk.injEq,Value.agg.injEq]at hie;obtain ⟨hie1,rfl⟩:=hie;have hcn:c.s.name=fold l[k].name∧c.s.kind=l[k].kind:=by
       have:=congrArg Array.toList hie1;simp only [List.cons.injEq,aE,Value.string.injEq,Value.int.injEq,true_and,and_true,ByteArray.mk.injEq]at this;exact ⟨by simpa using this.1,this.2⟩
      have hgi:(dC (l.take k))[i]? = some c.s:=by rw [← hgs,List.getElem?_map,hi];rfl
      refine_lift fN fun _ _=>?_;have hdl:(aH c.s.data).length≤20000:=by
       have h1:=HQ (List.mem_of_getElem? hgi);rw [uF,List.length_take]at h1;rw [bH];omega
      have hfin:List.set (gcs.map GC.s) i (lD c.s l[k])=dC (l.take (k+1)):=by
       rw [hgs,qN hlt];exact (DA hgi (by simp [bJ,hcn.1,hcn.2]) (lR _)).symm
      have hM:=hL8;have hr9:=hr8;obtain ⟨w9,hw9⟩:∃ w9,w9=w8:=⟨_,rfl⟩;rw [← hw9]at hM hr9 ⊢;obtain ⟨gcs1,hg1⟩:∃ g,g=gcs:=⟨_,rfl⟩;obtain ⟨kv,hkv⟩:∃ g,g=u5:=⟨_,rfl⟩;rw [← hg1]at hM hi hfin;rw [← hkv]at hM ⊢
      have hc:=hM.sets.each c (List.mem_of_getElem? hi);have hpc:=aA (cs:=c.cells) hc.blk;have hpr:=aA hr9;refine aO 10 (Ext w9) zDk ?_;intro w10 x10 _;refine ⟨x10,?_⟩
      ((with_reducible apply bT (i:=0));(rfl);(rfl);(rfl);(decide +kernel);(decide +kernel);(decide +kernel);(decide +kernel);(rfl);(intro _ _;exact rn);(exact fun _ _ _ h=>h);(refine aB ?_));((with_reducible apply bT (i:=1));(rfl);(rfl);(rfl);(decide +kernel);(decide +kernel);(decide +kernel);(decide +kernel);(rfl);(intro _ _;exact rn);(exact fun _ _ _ h=>h);(refine aB ?_));((with_reducible apply bT (i:=2));(rfl);(rfl);(rfl);(decide +kernel);(decide +kernel);(decide +kernel);(decide +kernel);(rfl);(intro _ _;exact rn);(exact fun _ _ _ h=>h);(refine aB ?_));((with_reducible apply bT (i:=3));(rfl);(rfl);(rfl);(decide +kernel);(decide +kernel);(decide +kernel);(decide +kernel);(rfl);(intro _ _;exact rn);(exact fun _ _ _ h=>h);(refine aB ?_));((with_reducible apply bT (i:=4));(rfl);(rfl);(rfl);(decide +kernel);(decide +kernel);(decide +kernel);(decide +kernel);(rfl);(intro _ _;exact rn);(exact fun _ _ _ h=>h);(refine aB ?_));((with_reducible apply bT (i:=5));(rfl);(rfl);(rfl);(decide +kernel);(decide +kernel);(decide +kernel);(decide +kernel);(rfl);(intro _ _;exact rn);(exact fun _ _ _ h=>h);(refine aB ?_));((with_reducible apply bT (i:=6));(rfl);(rfl);(rfl);(decide +kernel);(decide +kernel);(decide +kernel);(decide +kernel);(rfl);(intro _ _;exact rn);(exact fun _ _ _ h=>h);(refine aB ?_));((with_reducible apply bT (i:=7));(rfl);(rfl);(rfl);(decide +kernel);(decide +kernel);(decide +kernel);(decide +kernel);(rfl);(intro _ _;exact rn);(exact fun _ _ _ h=>h);(refine aB ?_));((with_reducible apply bT (i:=8));(rfl);(rfl);(rfl);(decide +kernel);(decide +kernel);(decide +kernel);(decide +kernel);(rfl);(intro _ _;exact rn);(exact fun _ _ _ h=>h);(refine aB ?_));((with_reducible apply bT (i:=9));(rfl);(rfl);(rfl);(decide +kernel);(decide +kernel);(decide +kernel);(decide +kernel);(rfl);(intro _ _;exact rn);(exact fun _ _ _ h=>h);(refine aB ?_))
      refine dH 10 ?_;refine iJ (cs:=c.cells) (x10.at hc.blk) rfl rfl rfl (show 2<4 by omega) zDk rfl ?_;intro w11 p11;refine aD ⟨aN rfl,?_⟩;refine jP ?_;have hr11:=p11.at (x10.at hr9) (mJ hr9 hc.blk aC);have hM11:L1 w w11 kv (gcs1.set i ⟨c.b,c.v,⟨c.s.name,c.s.kind,min c.s.ttl l[k].ttl,c.s.data⟩⟩):=by
       have hg:=(hM.sets.ext x10).turn (c':=⟨c.b,c.v,⟨c.s.name,c.s.kind,min c.s.ttl l[k].ttl,c.s.data⟩⟩) hi rfl (Mv.refl _ _) (hc.own.ext x10) (.inl rfl) p11;have hM10:=hM.grow x10;obtain ⟨es,ck,hm1,hm2,hm3⟩:=hM10.map.out;refine ⟨hM10.ext.move p11.mv (by rintro k ⟨⟩;have:=hc.ge;omega),?_,?_,hg⟩
       ·rw [mL (c':=⟨c.b,c.v,⟨c.s.name,c.s.kind,min c.s.ttl l[k].ttl,c.s.data⟩⟩) hi rfl];refine hM10.map.at (fun o ho=>p11.at ho (fun e=>?_));rw [e,x10.at hc.blk]at hm1;cases hm1
       ·rw [pK (c':=⟨c.b,c.v,⟨c.s.name,c.s.kind,min c.s.ttl l[k].ttl,c.s.data⟩⟩) hi rfl];exact hM10.keys.mv p11.mv (.inr (hM10.keys.neBlock (x10.at hc.blk) aC))
      clear hpc hpr p11 x10;have hi1:(gcs1.set i ⟨c.b,c.v,⟨c.s.name,c.s.kind,min c.s.ttl l[k].ttl,c.s.data⟩⟩)[i]? = some ⟨c.b,c.v,⟨c.s.name,c.s.kind,min c.s.ttl l[k].ttl,c.s.data⟩⟩:=List.getElem?_set_self (List.getElem?_eq_some_iff.1 hi).1;have hc1:=hM11.sets.each _ (List.mem_of_getElem? hi1);have hpc:=aA (cs:=[aE c.s.name, .int .i64 c.s.kind, .int .i64 (min c.s.ttl l[k].ttl),c.v]) hc1.blk;have hpr:=aA hr11;refine_lift cL ?_;refine aO 8 (Ext w11) zDk ?_;intro w12 x12 _;refine ⟨x12,?_⟩
      ((with_reducible apply bT (i:=1));(rfl);(rfl);(rfl);(decide +kernel);(decide +kernel);(decide +kernel);(decide +kernel);(rfl);(intro _ _;exact rn);(exact fun _ _ _ h=>h);(refine aB ?_));((with_reducible apply bT (i:=2));(rfl);(rfl);(rfl);(decide +kernel);(decide +kernel);(decide +kernel);(decide +kernel);(rfl);(intro _ _;exact rn);(exact fun _ _ _ h=>h);(refine aB ?_));((with_reducible apply bT (i:=3));(rfl);(rfl);(rfl);(decide +kernel);(decide +kernel);(decide +kernel);(decide +kernel);(rfl);(intro _ _;exact rn);(exact fun _ _ _ h=>h);(refine aB ?_));((with_reducible apply bT (i:=4));(rfl);(rfl);(rfl);(decide +kernel);(decide +kernel);(decide +kernel);(decide +kernel);(rfl);(intro _ _;exact rn);(exact fun _ _ _ h=>h);(refine aB ?_));((with_reducible apply bT (i:=5));(rfl);(rfl);(rfl);(decide +kernel);(decide +kernel);(decide +kernel);(decide +kernel);(rfl);(intro _ _;exact rn);(exact fun _ _ _ h=>h);(refine aB ?_));((with_reducible apply bT (i:=6));(rfl);(rfl);(rfl);(decide +kernel);(decide +kernel);(decide +kernel);(decide +kernel);(rfl);(intro _ _;exact rn);(exact fun _ _ _ h=>h);(refine aB ?_))
      ((with_reducible apply jA (i:=0));(rfl);(rfl);(rfl);(decide +kernel);(decide +kernel);(decide +kernel);(rfl);(intro _;exact rn);(exact fun _ _ _ h=>h);(refine aB ?_))
      refine dH 7 ?_;refine oD (e:=9) (k:=1) (bytes:=16) (xs:=[aE l[k].data]) (by simp [Value.cells,aE]) fun v13 w13 x13 s13 sl13 _=>?_;refine aB ?_;refine aD ⟨aR (x12.trans x13),?_⟩;refine dH 8 ?_;have x113:=x12.trans x13;refine gK (B:=w.heap.size+1) (e:=9) (k:=1) (bytes:=16) rfl (hc1.own.ext x113) rfl sl13 zDk (by simp [Value.cells,aE,Value.oneCell']) (by have:=(hM11.grow x113).map.lt;omega) (by simp only [List.length_map,List.length_cons,List.length_nil];omega) (by simp only [List.length_map,List.length_cons,List.length_nil];omega) ?_;intro v14 w14 o14 m14 k14;refine aB ?_;refine aD ⟨aN rfl,?_⟩
      ((with_reducible apply jA (i:=9));(rfl);(rfl);(rfl);(decide +kernel);(decide +kernel);(decide +kernel);(rfl);(intro _;exact rn);(exact fun _ _ _ h=>h);(refine aB ?_));((with_reducible apply jA (i:=10));(rfl);(rfl);(rfl);(decide +kernel);(decide +kernel);(decide +kernel);(rfl);(intro _;exact rn);(exact fun _ _ _ h=>h);(refine aB ?_))
      refine dH 11 ?_;have hM13:=hM11.grow x113;have hc13:=hM13.sets.each _ (List.mem_of_getElem? hi1);have b14:=m14.at hc13.blk (fun e=>(hc13.own.neBlock hc13.blk aC) e.symm);refine iJ (cs:=[aE c.s.name, .int .i64 c.s.kind, .int .i64 (min c.s.ttl l[k].ttl),c.v]) b14 rfl rfl rfl (show 3<4 by omega) zDk o14.one ?_;intro w15 p15;refine aD ⟨aN rfl,?_⟩;refine jP ?_;have e14:aH c.s.data++List.map (fun x=>x.cells.toList) [aE l[k].data]=aH (lD c.s l[k]).data:=by simp [aH,lD,Value.cells,aE]
      rw [e14]at o14;have hM16:L1 w w15 kv (gcs1.set i ⟨c.b,v14,lD c.s l[k]⟩):=by
       have hg:=hM13.sets.turn (c':=⟨c.b,v14,lD c.s l[k]⟩) hi1 rfl m14 o14 k14 p15;rw [List.set_set]at hg;obtain ⟨es,ck,hm1,hm2,hm3⟩:=hM13.map.out;have hnm:c.v.ownBlock≠some w.heap.size:=hc13.own.neMap hm1;have hm14:=m14.at hm1 (fun e=>hnm e.symm);refine ⟨?_,?_,?_,hg⟩
       ·refine (hM13.ext.move m14 (fun k hk=>by have:=(hc13.own.block k hk).1;omega)).move p15.mv (by rintro k ⟨⟩;have:=hc13.ge;omega)
       ·have hm:=hM13.map.at (w':=w15) (fun o ho=>by
         rw [hm1]at ho;cases ho;exact p15.at hm14 (fun e=>by have b:=b14;have h:=hm14;rw [e]at h;rw [b]at h;cases h))
        rw [mL (c':=⟨c.b,c.v,⟨c.s.name,c.s.kind,min c.s.ttl l[k].ttl,c.s.data⟩⟩) hi rfl]at hm;rw [mL (c':=⟨c.b,v14,lD c.s l[k]⟩) hi rfl];exact hm
       ·have hk13:=hM13.keys;rw [pK (c':=⟨c.b,c.v,⟨c.s.name,c.s.kind,min c.s.ttl l[k].ttl,c.s.data⟩⟩) hi rfl]at hk13;rw [pK (c':=⟨c.b,v14,lD c.s l[k]⟩) hi rfl];have hk14:=hk13.mv m14 (hk13.ne hc13.own aC);exact hk14.mv p15.mv (.inr (hk14.neBlock b14 aC))
      clear hpc hpr p15 m14 x12 x13 x113;refine_lift cL ?_;refine ⟨⟨k+1,_,aC,rfl,hM16,uG hlt hall (by simp [DD,hc0]),?_⟩,by simp [intOf];omega⟩;rw [List.map_set];exact hfin
     ·have hmiss:∀ s∈dC (l.take k),bJ s l[k]=false:=by
       intro s hs;rw [← hgs]at hs;obtain ⟨c,hc,rfl⟩:=List.mem_map.1 hs;obtain ⟨i,hi⟩:=List.mem_iff_getElem?.1 hc;have:=hno i c.key (by rw [List.getElem?_map,hi];rfl);cases hm:bJ c.s l[k] with
       | false=>rfl
       | true =>
        exfalso
        simp only [bJ,Bool.and_eq_true,decide_eq_true_eq]at hm;exact this (by simp only [GC.key];rw [hm.1,hm.2])
      refine_lift BW fun _ _ _ _=>?_;refine cG (v:=.agg #[aE (fold l[k].name), .int .i64 l[k].kind, .int .i64 l[k].ttl, .slice none 0 0]) rfl (Runs.build rfl (by kernel_rfl)) ?_;refine aB ?_;refine jO (vs:=[aE (fold l[k].name), .int .i64 l[k].kind, .int .i64 l[k].ttl, .slice none 0 0]) fun w9 x9 s9 hb9=>?_;refine aB ?_;refine_lift cL ?_;have hL9:=hL8.grow x9;have hkb9:=x9.at hkb;have hrb9:=x9.at hr8;refine cQ (S:=fun w'=>w'.heap[kb]? = some (.cells [aE (fold l[k].name), .int .i64 l[k].kind].toArray 216 (0,0))) zDk ?_;intro w10 x10 _;have hS:=x10.at hkb9
      ((with_reducible apply dJ (i:=0));(rfl);(rfl);(decide +kernel);(decide +kernel);(decide +kernel);(rfl);(exact hS);(intro w9 hS9;(have hpk9:=aA hS9);exact rn);(exact fun _ _ _ h=>h);(refine aB ?_));((with_reducible apply dJ (i:=1));(rfl);(rfl);(decide +kernel);(decide +kernel);(decide +kernel);(rfl);(exact hS);(intro w9 hS9;(have hpk9:=aA hS9);exact rn);(exact fun _ _ _ h=>h);(refine aB ?_));((with_reducible apply dJ (i:=2));(rfl);(rfl);(decide +kernel);(decide +kernel);(decide +kernel);(rfl);(exact hS);(intro w9 hS9;(have hpk9:=aA hS9);exact rn);(exact fun _ _ _ h=>h);(refine aB ?_));((with_reducible apply dJ (i:=3));(rfl);(rfl);(decide +kernel);(decide +kernel);(decide +kernel);(rfl);(exact hS);(intro w9 hS9;(have hpk9:=aA hS9);exact rn);(exact fun _ _ _ h=>h);(refine aB ?_));((with_reducible apply dJ (i:=4));(rfl);(rfl);(decide +kernel);(decide +kernel);(decide +kernel);(rfl);(exact hS);(intro w9 hS9;(have hpk9:=aA hS9);exact rn);(exact fun _ _ _ h=>h);(refine aB ?_))
      refine bZ (i:=5) zDk rfl rfl ?_;refine oD (e:=216) (k:=2) (bytes:=24) (xs:=[.agg #[aE (fold l[k].name), .int .i64 l[k].kind]]) (by simp [Value.cells]) fun v11 w11 x11 s11 sl11 _=>?_;refine aB ?_;refine aD ⟨x11.at hS,?_⟩;have x911:=x10.trans x11;have hL11:=hL9.grow x911;have hb11:=x911.at hb9;have hrb11:=x911.at hrb9;have hkb11:=x911.at hkb9;refine bZ (i:=6) zDk rfl rfl ?_;have hgl:gcs.length≤10000:=by
       have h1:=zU (l.take k);rw [← hgs,List.length_map,List.length_take]at h1;omega
      refine gK (B:=w.heap.size+1) (e:=216) (k:=2) (bytes:=24) rfl hL11.keys rfl sl11 zDk (by simp [Value.cells,aE,Value.oneCell']) (by have:=hL11.map.lt;omega) (by simp only [List.length_map,List.length_cons,List.length_nil];omega) (by simp only [List.length_map,List.length_cons,List.length_nil];omega) ?_;intro v12 w12 o12 m12 k12;refine aB ?_;have hnk:some kb≠u5.ownBlock:=fun e=>by have:=(hL7.keys.block kb e.symm).2;omega
      have hkb12:=m12.at hkb11 hnk;refine aD ⟨hkb12,?_⟩;refine bZ (i:=7) zDk rfl rfl ?_;obtain ⟨es,ck,hm1,hm2,hm3⟩:=hL11.map.out;have hnm:u5.ownBlock≠some w.heap.size:=hL11.keys.neMap hm1;have hm12:=hL11.map.at (w':=w12) (fun o ho=>m12.at ho (fun e=>hnm e.symm));obtain ⟨w13,o13,hr13,p13,hm13⟩:=iZ QI (zDk:eI Tryz.prog 212 216 217=true) hm12 hlx (v:=.pointer (some ⟨w8.heap.size,0,none⟩)) hno;refine eQ rfl rfl rfl rfl hr13 ?_;have hkb13:=p13.at hkb12 (fun e=>by rw [← e]at hm1;rw [hkb11]at hm1;cases hm1);refine aD ⟨hkb13,?_⟩;refine dJ (i:=8) (v:=v12) rfl rfl zDk zDk zDk rfl hkb13 (fun w' _=>Runs.assignT _) (fun _ _ _ h=>h) ?_;refine aB ?_;refine cO zDk ?_;have hnb:u5.ownBlock≠some w8.heap.size:=hL11.keys.neBlock hb11 aC;have hb13:=p13.at (m12.at hb11 (fun e=>hnb e.symm)) (fun e=>by rw [← e]at hm1;rw [hb11]at hm1;cases hm1);have hnr:u5.ownBlock≠some wr.heap.size:=hL11.keys.neBlock hrb11 aC;have hr9:=p13.at (m12.at hrb11 (fun e=>hnr e.symm)) (fun e=>by rw [← e]at hm1;rw [hrb11]at hm1;cases hm1);have hM:L1 w w13 v12 (gcs ++ [⟨w8.heap.size, .slice none 0 0,⟨fold l[k].name,l[k].kind,l[k].ttl,[]⟩⟩]):=by
       have hne:∀ c∈gcs,c.b≠w8.heap.size:=fun c hc e=>by
        have:=(hL8.sets.each c hc).blk;rw [e,Array.getElem?_eq_none (Nat.le_refl _)]at this;cases this
       have hs12:GS w12 (w.heap.size+1) gcs:=hL11.sets.mv m12 fun c hc=>⟨fun e=>hL11.keys.neBlock (hL11.sets.each c hc).blk aC e.symm,((hL11.sets.each c hc).own.ne hL11.keys aC)⟩;have hm12':=hm12.out;obtain ⟨es2,ck2,hm21,_,_⟩:=hm12';have hs13:GS w13 (w.heap.size+1) gcs:=hs12.mv p13.mv fun c hc=>⟨(fun e=>by
        have hb:=(hs12.each c hc).blk;rw [Option.some.inj e]at hb;rw [hb]at hm21;cases hm21), .inr ((hs12.each c hc).own.neMap hm21)⟩
       refine ⟨(hL11.ext.move m12 (fun k hk=>by have:=(hL11.keys.block k hk).1;omega)).move p13.mv (by rintro k ⟨⟩;exact Nat.le_refl _),by simpa [GC.key]using hm13,?_,hs13.push ⟨hb13,(show w.heap.size+1≤w8.heap.size by have:=hL8.map.lt;omega),Own.nil _ _ _ _⟩ hne rfl⟩;have:List.map GC.kcells gcs++List.map (fun x=>x.cells.toList) [Value.agg #[aE (fold l[k].name),Value.int IntKind.i64 l[k].kind]]=List.map GC.kcells (gcs ++ [⟨w8.heap.size, .slice none 0 0,⟨fold l[k].name,l[k].kind,l[k].ttl,[]⟩⟩]):=by simp [GC.kcells,Value.cells]
       rw [this]at o12;exact o12.mv p13.mv (.inr (o12.neMap hm21))
      clear hL9 hL11 x10 x11 x911 hb11 hrb11 hkb11 m12 p13 hr13 hkb12 hkb13 hm12;refine_lift fN fun _ _=>?_;obtain ⟨c,hcd⟩:∃ c:GC,c=⟨w8.heap.size, .slice none 0 0,⟨fold l[k].name,l[k].kind,l[k].ttl,[]⟩⟩:=⟨_,rfl⟩;obtain ⟨gcs1,hg1⟩:∃ g,g=gcs ++ [c]:=⟨_,rfl⟩;obtain ⟨i,hil⟩:∃ i,i=gcs.length:=⟨_,rfl⟩;have hi:gcs1[i]? = some c:=by rw [hg1,hil];simp
      rw [← hcd,← hg1]at hM;have ecb:w8.heap.size=c.b:=by rw [hcd]
      have hdl:(aH c.s.data).length≤20000:=by rw [hcd];simp [aH]
      have hfin:List.set (gcs1.map GC.s) i (lD c.s l[k])=dC (l.take (k+1)):=by
       rw [qN hlt,zT hmiss,← hgs,hg1,hil,hcd];simp [lD]
      rw [ecb];obtain ⟨w9,hw9⟩:∃ w9,w9=w13:=⟨_,rfl⟩;rw [← hw9]at hM hr9 ⊢;obtain ⟨kv,hkv⟩:∃ g,g=v12:=⟨_,rfl⟩;rw [← hkv]at hM ⊢
      have hc:=hM.sets.each c (List.mem_of_getElem? hi);have hpc:=aA (cs:=c.cells) hc.blk;have hpr:=aA hr9;refine aO 10 (Ext w9) zDk ?_;intro w10 x10 _;refine ⟨x10,?_⟩
      ((with_reducible apply bT (i:=0));(rfl);(rfl);(rfl);(decide +kernel);(decide +kernel);(decide +kernel);(decide +kernel);(rfl);(intro _ _;exact rn);(exact fun _ _ _ h=>h);(refine aB ?_));((with_reducible apply bT (i:=1));(rfl);(rfl);(rfl);(decide +kernel);(decide +kernel);(decide +kernel);(decide +kernel);(rfl);(intro _ _;exact rn);(exact fun _ _ _ h=>h);(refine aB ?_));((with_reducible apply bT (i:=2));(rfl);(rfl);(rfl);(decide +kernel);(decide +kernel);(decide +kernel);(decide +kernel);(rfl);(intro _ _;exact rn);(exact fun _ _ _ h=>h);(refine aB ?_));((with_reducible apply bT (i:=3));(rfl);(rfl);(rfl);(decide +kernel);(decide +kernel);(decide +kernel);(decide +kernel);(rfl);(intro _ _;exact rn);(exact fun _ _ _ h=>h);(refine aB ?_));((with_reducible apply bT (i:=4));(rfl);(rfl);(rfl);(decide +kernel);(decide +kernel);(decide +kernel);(decide +kernel);(rfl);(intro _ _;exact rn);(exact fun _ _ _ h=>h);(refine aB ?_));((with_reducible apply bT (i:=5));(rfl);(rfl);(rfl);(decide +kernel);(decide +kernel);(decide +kernel);(decide +kernel);(rfl);(intro _ _;exact rn);(exact fun _ _ _ h=>h);(refine aB ?_));((with_reducible apply bT (i:=6));(rfl);(rfl);(rfl);(decide +kernel);(decide +kernel);(decide +kernel);(decide +kernel);(rfl);(intro _ _;exact rn);(exact fun _ _ _ h=>h);(refine aB ?_));((with_reducible apply bT (i:=7));(rfl);(rfl);(rfl);(decide +kernel);(decide +kernel);(decide +kernel);(decide +kernel);(rfl);(intro _ _;exact rn);(exact fun _ _ _ h=>h);(refine aB ?_));((with_reducible apply bT (i:=8));(rfl);(rfl);(rfl);(decide +kernel);(decide +kernel);(decide +kernel);(decide +kernel);(rfl);(intro _ _;exact rn);(exact fun _ _ _ h=>h);(refine aB ?_));((with_reducible apply bT (i:=9));(rfl);(rfl);(rfl);(decide +kernel);(decide +kernel);(decide +kernel);(decide +kernel);(rfl);(intro _ _;exact rn);(exact fun _ _ _ h=>h);(refine aB ?_))
      refine dH 10 ?_;refine iJ (cs:=c.cells) (x10.at hc.blk) rfl rfl rfl (show 2<4 by omega) zDk rfl ?_;intro w11 p11;refine aD ⟨aN rfl,?_⟩;refine jP ?_;have hr11:=p11.at (x10.at hr9) (mJ hr9 hc.blk aC);have hM11:L1 w w11 kv (gcs1.set i ⟨c.b,c.v,⟨c.s.name,c.s.kind,min c.s.ttl l[k].ttl,c.s.data⟩⟩):=by
       have hg:=(hM.sets.ext x10).turn (c':=⟨c.b,c.v,⟨c.s.name,c.s.kind,min c.s.ttl l[k].ttl,c.s.data⟩⟩) hi rfl (Mv.refl _ _) (hc.own.ext x10) (.inl rfl) p11;have hM10:=hM.grow x10;obtain ⟨es,ck,hm1,hm2,hm3⟩:=hM10.map.out;refine ⟨hM10.ext.move p11.mv (by rintro k ⟨⟩;have:=hc.ge;omega),?_,?_,hg⟩
       ·rw [mL (c':=⟨c.b,c.v,⟨c.s.name,c.s.kind,min c.s.ttl l[k].ttl,c.s.data⟩⟩) hi rfl];refine hM10.map.at (fun o ho=>p11.at ho (fun e=>?_));rw [e,x10.at hc.blk]at hm1;cases hm1
       ·rw [pK (c':=⟨c.b,c.v,⟨c.s.name,c.s.kind,min c.s.ttl l[k].ttl,c.s.data⟩⟩) hi rfl];exact hM10.keys.mv p11.mv (.inr (hM10.keys.neBlock (x10.at hc.blk) aC))
      clear hpc hpr p11 x10;have hi1:(gcs1.set i ⟨c.b,c.v,⟨c.s.name,c.s.kind,min c.s.ttl l[k].ttl,c.s.data⟩⟩)[i]? = some ⟨c.b,c.v,⟨c.s.name,c.s.kind,min c.s.ttl l[k].ttl,c.s.data⟩⟩:=List.getElem?_set_self (List.getElem?_eq_some_iff.1 hi).1;have hc1:=hM11.sets.each _ (List.mem_of_getElem? hi1);have hpc:=aA (cs:=[aE c.s.name, .int .i64 c.s.kind, .int .i64 (min c.s.ttl l[k].ttl),c.v]) hc1.blk;have hpr:=aA hr11;refine_lift cL ?_;refine aO 8 (Ext w11) zDk ?_;intro w12 x12 _;refine ⟨x12,?_⟩
      ((with_reducible apply bT (i:=1));(rfl);(rfl);(rfl);(decide +kernel);(decide +kernel);(decide +kernel);(decide +kernel);(rfl);(intro _ _;exact rn);(exact fun _ _ _ h=>h);(refine aB ?_));((with_reducible apply bT (i:=2));(rfl);(rfl);(rfl);(decide +kernel);(decide +kernel);(decide +kernel);(decide +kernel);(rfl);(intro _ _;exact rn);(exact fun _ _ _ h=>h);(refine aB ?_));((with_reducible apply bT (i:=3));(rfl);(rfl);(rfl);(decide +kernel);(decide +kernel);(decide +kernel);(decide +kernel);(rfl);(intro _ _;exact rn);(exact fun _ _ _ h=>h);(refine aB ?_));((with_reducible apply bT (i:=4));(rfl);(rfl);(rfl);(decide +kernel);(decide +kernel);(decide +kernel);(decide +kernel);(rfl);(intro _ _;exact rn);(exact fun _ _ _ h=>h);(refine aB ?_));((with_reducible apply bT (i:=5));(rfl);(rfl);(rfl);(decide +kernel);(decide +kernel);(decide +kernel);(decide +kernel);(rfl);(intro _ _;exact rn);(exact fun _ _ _ h=>h);(refine aB ?_));((with_reducible apply bT (i:=6));(rfl);(rfl);(rfl);(decide +kernel);(decide +kernel);(decide +kernel);(decide +kernel);(rfl);(intro _ _;exact rn);(exact fun _ _ _ h=>h);(refine aB ?_))
      ((with_reducible apply jA (i:=0));(rfl);(rfl);(rfl);(decide +kernel);(decide +kernel);(decide +kernel);(rfl);(intro _;exact rn);(exact fun _ _ _ h=>h);(refine aB ?_))
      refine dH 7 ?_;refine oD (e:=9) (k:=1) (bytes:=16) (xs:=[aE l[k].data]) (by simp [Value.cells,aE]) fun v13 w13 x13 s13 sl13 _=>?_;refine aB ?_;refine aD ⟨aR (x12.trans x13),?_⟩;refine dH 8 ?_;have x113:=x12.trans x13;refine gK (B:=w.heap.size+1) (e:=9) (k:=1) (bytes:=16) rfl (hc1.own.ext x113) rfl sl13 zDk (by simp [Value.cells,aE,Value.oneCell']) (by have:=(hM11.grow x113).map.lt;omega) (by simp only [List.length_map,List.length_cons,List.length_nil];omega) (by simp only [List.length_map,List.length_cons,List.length_nil];omega) ?_;intro v14 w14 o14 m14 k14;refine aB ?_;refine aD ⟨aN rfl,?_⟩
      ((with_reducible apply jA (i:=9));(rfl);(rfl);(rfl);(decide +kernel);(decide +kernel);(decide +kernel);(rfl);(intro _;exact rn);(exact fun _ _ _ h=>h);(refine aB ?_));((with_reducible apply jA (i:=10));(rfl);(rfl);(rfl);(decide +kernel);(decide +kernel);(decide +kernel);(rfl);(intro _;exact rn);(exact fun _ _ _ h=>h);(refine aB ?_))
      refine dH 11 ?_;have hM13:=hM11.grow x113;have hc13:=hM13.sets.each _ (List.mem_of_getElem? hi1);have b14:=m14.at hc13.blk (fun e=>(hc13.own.neBlock hc13.blk aC) e.symm);refine iJ (cs:=[aE c.s.name, .int .i64 c.s.kind, .int .i64 (min c.s.ttl l[k].ttl),c.v]) b14 rfl rfl rfl (show 3<4 by omega) zDk o14.one ?_;intro w15 p15;refine aD ⟨aN rfl,?_⟩;refine jP ?_;have e14:aH c.s.data++List.map (fun x=>x.cells.toList) [aE l[k].data]=aH (lD c.s l[k]).data:=by simp [aH,lD,Value.cells,aE]
      rw [e14]at o14;have hM16:L1 w w15 kv (gcs1.set i ⟨c.b,v14,lD c.s l[k]⟩):=by
       have hg:=hM13.sets.turn (c':=⟨c.b,v14,lD c.s l[k]⟩) hi1 rfl m14 o14 k14 p15;rw [List.set_set]at hg;obtain ⟨es,ck,hm1,hm2,hm3⟩:=hM13.map.out;have hnm:c.v.ownBlock≠some w.heap.size:=hc13.own.neMap hm1;have hm14:=m14.at hm1 (fun e=>hnm e.symm);refine ⟨?_,?_,?_,hg⟩
       ·refine (hM13.ext.move m14 (fun k hk=>by have:=(hc13.own.block k hk).1;omega)).move p15.mv (by rintro k ⟨⟩;have:=hc13.ge;omega)
       ·have hm:=hM13.map.at (w':=w15) (fun o ho=>by
         rw [hm1]at ho;cases ho;exact p15.at hm14 (fun e=>by have b:=b14;have h:=hm14;rw [e]at h;rw [b]at h;cases h))
        rw [mL (c':=⟨c.b,c.v,⟨c.s.name,c.s.kind,min c.s.ttl l[k].ttl,c.s.data⟩⟩) hi rfl]at hm;rw [mL (c':=⟨c.b,v14,lD c.s l[k]⟩) hi rfl];exact hm
       ·have hk13:=hM13.keys;rw [pK (c':=⟨c.b,c.v,⟨c.s.name,c.s.kind,min c.s.ttl l[k].ttl,c.s.data⟩⟩) hi rfl]at hk13;rw [pK (c':=⟨c.b,v14,lD c.s l[k]⟩) hi rfl];have hk14:=hk13.mv m14 (hk13.ne hc13.own aC);exact hk14.mv p15.mv (.inr (hk14.neBlock b14 aC))
      clear hpc hpr p15 m14 x12 x13 x113;refine_lift cL ?_;refine ⟨⟨k+1,_,aC,rfl,hM16,uG hlt hall (by simp [DD,hc0]),?_⟩,by simp [intOf];omega⟩;rw [List.map_set];exact hfin
  ·have hk2:k=l.length:=aC;subst hk2;refine_lift Ec fun _ _ _ _ _=>?_;rw [List.take_length]at hall hgs;have hks:=hL.keys.sl;refine_lift cL ?_;clear hks;have hgsl:(dC l).length=gcs.length:=by rw [← hgs,List.length_map]
   have hkl:(gcs.map GC.kcells).length=(dC l).length:=by rw [List.length_map,hgsl]
   have hgl:=zU l;have hx0:=hL.ext;rw [← hgsl];clear hkl hv2 hx;go_loopw [12,14,15,81] (fun out _ _ i wq=>∃ (j:Nat) (gcs2:List GC),j≤(dC l).length∧i=.int .i64 j∧L1 w wq u5 gcs2∧gcs2.map GC.s=((dC l).take j).map oK++(dC l).drop j∧(((dC l).take j).map oK).any QL=false∧Own (w.heap.size+1) 4 136 wq out ((gcs2.take j).map GC.cells)∧∀ c∈gcs2,out.ownBlock≠some c.b) (fun _ _ _ i _=>(dC l).length - (intOf i).toNat)
   case atStart=>exact ⟨0,gcs,Nat.zero_le _,rfl,hL,by simpa using hgs,rfl,Own.nil _ _ _ _,fun c _=>by simp [Value.ownBlock]⟩
   case round =>
    obtain ⟨j,gcs2,hj,rfl,hM,hs2,hbig,hout,hob⟩:=hrel;have hl2:gcs2.length=(dC l).length:=by
     have:=congrArg List.length hs2;simp only [List.length_map,List.length_append,List.length_take,List.length_drop]at this;omega
    have hkeys:=hM.keys.sl;by_cases hlt2:j<(dC l).length
    ·have hjl:j<gcs2.length:=aC;have hcj:gcs2[j].s=(dC l)[j]:=by
      have h1:(gcs2.map GC.s)[j]? = some gcs2[j].s:=by rw [List.getElem?_map,List.getElem?_eq_getElem hjl];rfl
      rw [hs2,List.getElem?_append_right (by simp;omega)]at h1;simp only [List.length_map,List.length_take,List.getElem?_drop]at h1;rw [show j+(j - min j (dC l).length)=j by omega,List.getElem?_eq_getElem hlt2]at h1;exact (Option.some.inj h1).symm
     have hi:gcs2[j]? = some gcs2[j]:=List.getElem?_eq_getElem hjl;obtain ⟨c,hcd⟩:∃ c,c=gcs2[j]:=⟨_,rfl⟩;rw [← hcd]at hi hcj;have hkp:=hkeys.elem (i:=j) (e:=[aE c.s.name, .int .i64 c.s.kind]) (by rw [List.getElem?_map,hi];rfl);have hkll:(gcs2.map GC.kcells).length=(dC l).length:=by rw [List.length_map,hl2]
     refine_lift JS ?_;intro _ _ _ _ _ _;refine dX (z:=[aE [], .int .i64 0]) fun w5 x5 s5 h5=>?_;refine_lift cL ?_;refine dL (v:=.agg #[aE c.s.name, .int .i64 c.s.kind]) h5 (by simp [Value.cells,aE,Value.oneCell']) fun w6 p6=>?_;have x6:=cJ x5 p6;have hp6:=aA (cs:=[aE c.s.name, .int .i64 c.s.kind]) p6.this;have hM6:=hM.grow x6;have hout6:=hout.ext x6;clear p6 h5 x5;refine_lift fN fun _ _=>?_;obtain ⟨r,hrl0,hrn,hrk⟩:=DE (List.getElem_mem hlt2);have hrc:bI r=0:=by simpa [DD]using List.all_eq_true.1 hall r hrl0
     obtain ⟨hlab,hk1,hk2⟩:=jD (n:=[]) hrc;have hfl:=jE _ hlab;rw [← hcj]at hrn hrk;obtain ⟨lx,hlx⟩:=MB c.s.name c.s.kind (by rw [hrn];omega) (by rw [hrk];omega);have hzv:∀ w,(zeroValue 217).run Tryz.prog w=.ok (.pointer none) w:=fun w=>by kernel_rfl
     obtain ⟨u,bb,hrl,hcase⟩:=gM QI (zDk:eI Tryz.prog 212 216 217=true) hzv hM6.map hlx false;have hu:u=.pointer (some ⟨c.b,0,none⟩):=by
      rcases hcase with ⟨i,hie,_⟩|⟨hno,_,_⟩
      ·rw [List.getElem?_map]at hie;cases hi2:gcs2[i]? with
       | none=>rw [hi2]at hie;cases hie
       | some c2 =>
        rw [hi2,Option.map_some]at hie;simp only [GC.key,Option.some.injEq,Prod.mk.injEq,Value.agg.injEq]at hie;obtain ⟨hie1,hie2⟩:=hie;have hkk:=congrArg Array.toList hie1;simp only [List.cons.injEq,aE,Value.string.injEq,Value.int.injEq,true_and,and_true,ByteArray.mk.injEq]at hkk;have hn2:c2.s.name=c.s.name:=by simpa using hkk.1
        have hij:i=j:=by
         by_cases e:i=j
         ·exact e
         ·exfalso
          have hap:(gcs2.map GC.s).Pairwise fun s t=>¬ (s.name=t.name∧s.kind=t.kind):=by
           have:=iC.1 (lR l);rw [hs2];have e2:(dC l).take j++(dC l).drop j=dC l:=List.take_append_drop _ _;rw [← e2]at this;rw [List.pairwise_append]at this ⊢;refine ⟨List.pairwise_map.2 this.1,this.2.1,fun x hx y hy=>?_⟩;obtain ⟨x',hx',rfl⟩:=List.mem_map.1 hx;exact this.2.2 x' hx' y hy
          have h3:=iC.2 hap i j c2.s c.s (by rw [List.getElem?_map,hi2];rfl) (by rw [List.getElem?_map,hi];rfl) e;exact h3 ⟨hn2,hkk.2⟩
        subst hij;rw [hi]at hi2;cases hi2
        exact hie2.symm
      ·exact absurd rfl (hno j c.key (by rw [List.getElem?_map,hi];rfl))
     subst hu;refine cG (v:=.pointer (some ⟨c.b,0,none⟩)) rfl (Runs.lookup rfl rfl (by simp only [Bool.false_eq_true,if_false]at hrl;exact hrl)) ?_;refine aB ?_;have hc:=hM6.sets.each c (List.mem_of_getElem? hi);have hpc:=aA (cs:=c.cells) hc.blk;refine_lift fN fun _ _=>?_;have hdl:c.s.data.length≤10000:=by
      have h1:=HQ (List.getElem_mem hlt2);rw [uF,← hcj]at h1;omega
     refine gS (Fy hc.own aC) ?_;rintro e w7 ⟨rfl,o7,m7⟩;refine ⟨_,rfl,?_⟩;refine aB ?_;have b7:=m7.at hc.blk (fun e=>(hc.own.neBlock hc.blk aC) e.symm);clear hpc;have hpc:=aA (cs:=c.cells) b7;refine_lift fN fun _ _=>?_;refine gS (Fz o7) ?_;rintro e w8 ⟨v8,rfl,o8,m8,k8⟩;refine ⟨_,rfl,?_⟩;refine aB ?_;have b8:=m8.at b7 (fun e=>(o7.neBlock b7 aC) e.symm);clear hpc;have hpc:=aA (cs:=c.cells) b8;refine_lift cL ?_;refine iJ (cs:=c.cells) b8 rfl rfl rfl (show 3<4 by omega) zDk o8.one ?_;intro w9 p9;have hM9:L1 w w9 u5 (gcs2.set j ⟨c.b,v8,oK c.s⟩):=by
      have m78:Mv c.v.ownBlock w6 w8:=m7.trans m8;have hg:=hM6.sets.turn (c':=⟨c.b,v8,oK c.s⟩) hi rfl m78 o8 (.inl k8) p9;obtain ⟨es,ck,hm1,hm2,hm3⟩:=hM6.map.out;have hnm:c.v.ownBlock≠some w.heap.size:=hc.own.neMap hm1;have hm8:=m78.at hm1 (fun e=>hnm e.symm);refine ⟨?_,?_,?_,hg⟩
      ·refine (hM6.ext.move m78 (fun k hk=>by have:=(hc.own.block k hk).1;omega)).move p9.mv (by rintro k ⟨⟩;have:=hc.ge;omega)
      ·have hm:=hM6.map.at (w':=w9) (fun o ho=>by
        rw [hm1]at ho;cases ho;exact p9.at hm8 (fun e=>by have b:=b8;have h:=hm8;rw [e]at h;rw [b]at h;cases h))
       rw [mL (c':=⟨c.b,v8,oK c.s⟩) hi rfl];exact hm
      ·have hk13:=hM6.keys;rw [pK (c':=⟨c.b,v8,oK c.s⟩) hi rfl];have hk14:=hk13.mv m78 (hk13.ne hc.own aC);exact hk14.mv p9.mv (.inr (hk14.neBlock b8 aC))
     have hout9:Own (w.heap.size+1) 4 136 w9 u12 ((gcs2.take j).map GC.cells):=by
      have h1:=hout6.mv (m7.trans m8) (hout6.ne hc.own aC);exact h1.mv p9.mv (.inr (hob c (List.mem_of_getElem? hi)))
     have b9:w9.heap[c.b]? = some (.cells [aE c.s.name, .int .i64 c.s.kind, .int .i64 c.s.ttl,v8].toArray 136 (0,0)):=p9.this;have o9:Own (w.heap.size+1) 1 9 w9 v8 (aH (oK c.s).data):=(hM9.sets.each ⟨c.b,v8,oK c.s⟩ (List.mem_of_getElem? (List.getElem?_set_self hjl))).own;have hnl:(aH (oK c.s).data).length=(oK c.s).data.length:=bH _;clear hpc m7 m8 p9 x6 hp6 b7 b8 o7 o8;have hpc:=aA b9;have hsl9:=o9.sl;refine_lift KB (fun _=>?_) (fun _=>?_)
     ·have hlong:=‹20<((aH (oK c.s).data).length:Int)›;go_ret2;refine ⟨_,rfl,hM9.ext,?_⟩;have hE:jF l=4:=by
       have h1:(fE l).any QL=true:=by
        rw [List.any_eq_true];refine ⟨oK c.s,?_,by simp [QL];omega⟩;rw [hcj,fE];exact List.mem_map.2 ⟨_,List.getElem_mem hlt2,rfl⟩
       rw [jF,if_neg (by rw [hall];simp),if_pos h1]
      unfold GroupO;rw [hE,if_neg aC];rfl
     ·have hshort:=‹((aH (oK c.s).data).length:Int)≤20›;refine_lift cL ?_;refine oD (e:=136) (k:=4) (bytes:=56) (xs:=[.agg #[aE c.s.name, .int .i64 c.s.kind, .int .i64 c.s.ttl,v8]]) (by simp [Value.cells]) fun v10 w10 x10 s10 sl10 _=>?_;refine aB ?_;refine_lift cL ?_;have hM10:=hM9.grow x10;have hol:((gcs2.take j).map GC.cells).length=j:=by rw [List.length_map,List.length_take];omega
      refine gK (B:=w.heap.size+1) (e:=136) (k:=4) (bytes:=56) rfl (hout9.ext x10) rfl sl10 zDk (by intro f hf u hu;simp only [List.map_cons,List.map_nil,List.mem_singleton]at hf;subst hf;simp only [Value.cells,List.mem_cons,List.not_mem_nil,or_false]at hu;rcases hu with rfl|rfl|rfl|rfl;rfl;rfl;rfl;exact o9.one) (by have:=hM10.map.lt;omega) (by rw [hol];simp;omega) (by rw [hol];simp;omega) ?_;intro v11 w11 o11 m11 k11;have hob2:∀ x∈gcs2.set j ⟨c.b,v8,oK c.s⟩,u12.ownBlock≠some x.b:=by
       intro x hx;rcases zV hx with rfl|⟨i,_,hx⟩
       ·exact hob c (List.mem_of_getElem? hi)
       ·exact hob x (List.mem_of_getElem? hx)
      have hM11:L1 w w11 u5 (gcs2.set j ⟨c.b,v8,oK c.s⟩):=hM10.mvOut m11 (hout9.ext x10) hob2;refine_lift cL ?_;refine ⟨⟨j+1,_,aC,rfl,hM11,?_,?_,?_,?_⟩,by simp [intOf];omega⟩
      ·rw [List.map_set,hs2,iD hlt2];have hA:(((dC l).take j).map oK).length=j:=by rw [List.length_map,List.length_take];omega
       rw [List.set_append_right _ _ aC,hA,Nat.sub_self,List.drop_eq_getElem_cons hlt2,List.set_cons_zero,List.append_assoc,hcj];rfl
      ·rw [iD hlt2,List.any_append,hbig,← hcj];simp [QL];omega
      ·have e1:((gcs2.set j ⟨c.b,v8,oK c.s⟩).take (j+1)).map GC.cells=(gcs2.take j).map GC.cells ++ [[aE c.s.name, .int .i64 c.s.kind, .int .i64 c.s.ttl,v8]]:=by
        rw [iD (by rw [List.length_set];exact hjl)]
        congr 1
        ·rw [List.take_set_of_le (Nat.le_refl _)]
        ·rw [List.getElem_set_self];rfl
       rw [e1]
       simpa [Value.cells]using o11
      ·intro x hx;have hxb:x.b<w9.heap.size:=(Array.getElem?_eq_some_iff.1 (hM9.sets.each x hx).blk).1;rcases k11 with h|h
       ·rw [h];exact hob2 x hx
       ·rw [h];intro e;have:=Option.some.inj e;omega
    ·have hj2:j=(dC l).length:=aC;subst hj2;rw [List.take_length,List.drop_length,List.append_nil]at hs2;rw [List.take_length]at hbig;rw [← hl2,List.take_length]at hout;have hosl:=hout.sl;have hol:(gcs2.map GC.cells).length=(dC l).length:=by rw [List.length_map,hl2]
     have hbig2:(fE l).any QL=false:=hbig;have hgl2:(fE l).length=(dC l).length:=by rw [fE,List.length_map]
     (repeat' first|((with_reducible refine aZ ?_);go_step)|((with_reducible refine aS ?_);first|refine dU ?_|(refine bG ?_ ?_<;>intro hc))|fail)
     ·have h200:=‹200<(gcs2.length:Int)›;go_ret2;refine ⟨_,rfl,hM.ext,?_⟩;have hE:jF l=4:=by rw [jF,if_neg (by rw [hall];simp),if_neg (by rw [hbig2];simp),if_pos aC]
      unfold GroupO;rw [hE,if_neg aC];rfl
     ·have h200:=‹(gcs2.length:Int)≤200›;have hE:jF l=0:=by rw [jF,if_neg (by rw [hall];simp),if_neg (by rw [hbig2];simp),if_neg aC]
      rcases hout.form with ⟨rfl,h0⟩|⟨g,cap,hform,hgs3,hgB,hgc,hg63⟩
      ·have hg0:gcs2=[]:=by simpa using h0
       subst hg0;refine gS (ZG _ _) ?_;rintro e w7 ⟨rfl,rfl⟩;refine ⟨_,rfl,?_⟩;refine aB ?_;refine_lift cL ?_;go_ret2;refine ⟨_,rfl,hM.ext,?_⟩;unfold GroupO;rw [hE,if_pos rfl];refine ⟨[], .slice none 0 0,rfl,?_,?_,SetsO.nil _ _⟩
       ·have:fE l=[]:=by rw [fE,← hs2];rfl
        rw [this]
       ·intro i j s t _ hs;simp at hs
      ·have hcells:(gcs2.map GC.toC).map SetC.cells=gcs2.map GC.cells:=by
        rw [List.map_map];apply List.map_congr_left;intro c hc;exact GC.toC_cells (hM.sets.each c hc)
       have hlen:(gcs2.map GC.cells).length=(gcs2.map GC.toC).length:=aX;rw [hlen]at hform;have hout2:=hout;rw [← hcells,hform]at hout2;rw [hform];refine gS (Gi _ _ hout2 (by rw [List.length_map];omega)) ?_;rintro e w7 ⟨rfl,l',hperm,hsort,o7,m7⟩;refine ⟨_,rfl,?_⟩;refine aB ?_;refine_lift cL ?_;have hob7:∀ c∈gcs2,(Value.slice (some ⟨g,0,none⟩) (gcs2.map GC.toC).length cap).ownBlock≠some c.b:=by
        intro c hc;rw [← hform];exact hob c hc
       have hM7:L1 w w7 u5 gcs2:=hM.mvOut (out:=.slice (some ⟨g,0,none⟩) (gcs2.map GC.toC).length cap) m7 hout2 hob7;go_ret2;refine ⟨_,rfl,hM7.ext,?_⟩;unfold GroupO;rw [hE,if_pos rfl];have hll:l'.length=(gcs2.map GC.toC).length:=hperm.length_eq;refine ⟨l'.map SetC.toS, .slice (some ⟨g,0,none⟩) gcs2.length cap,rfl,?_,?_,⟨l'.map SetC.cells,by rw [hll,List.length_map]at o7;exact o7.sl,by rw [hll,List.length_map]at o7;exact o7.from' (Nat.le_succ _),⟨aX,?_⟩,?_⟩⟩
       ·have h1:=hperm.map SetC.toS;have h2:(gcs2.map GC.toC).map SetC.toS=fE l:=by
         rw [fE,← hs2,List.map_map];apply List.map_congr_left;intro c hc;rfl
        rw [h2]at h1;exact h1
       ·intro i j s t hij hs ht;rw [List.getElem?_map]at hs ht;cases hi:l'[i]? with
        | none=>rw [hi]at hs;cases hs
        | some a =>
         cases hj3:l'[j]? with
         | none=>rw [hj3]at ht;cases ht
         | some b =>
          rw [hi]at hs;rw [hj3]at ht;cases hs;cases ht
          obtain ⟨hi1,rfl⟩:=List.getElem?_eq_some_iff.1 hi;obtain ⟨hj1,rfl⟩:=List.getElem?_eq_some_iff.1 hj3;exact hsort i j hij hj1
       ·intro i s hs;rw [List.getElem?_map]at hs;cases hi:l'[i]? with
        | none=>rw [hi]at hs;cases hs
        | some a =>
         rw [hi]at hs;cases hs
         have hmem:=hperm.mem_iff.1 (List.mem_of_getElem? hi);obtain ⟨c,hc,rfl⟩:=List.mem_map.1 hmem;have hck:=hM7.sets.each c hc;refine ⟨c.v,by rw [List.getElem?_map,hi,Option.map_some,GC.toC_cells hck];rfl,hck.own.sl⟩
       ·intro f hf u hu;obtain ⟨a,ha,rfl⟩:=List.mem_map.1 hf;obtain ⟨c,hc,rfl⟩:=List.mem_map.1 (hperm.mem_iff.1 ha);have hck:=hM7.sets.each c hc;rw [GC.toC_cells hck]at hu;simp only [GC.cells,List.mem_cons,List.not_mem_nil,or_false]at hu;rcases hu with rfl|rfl|rfl|rfl
        ·intro b o s n c e;cases e
        ·intro b o s n c e;cases e
        ·intro b o s n c e;cases e
        ·exact hck.own.from' (Nat.le_succ _)
theorem t9 (v:Value) (l:List Rec) (w:World) (hv:Sl 4 w v (aF l)) (hl:l.length≤10000):Calls Tryz.prog 57 #[v] w (kZ w (KF l)):=by
 refine (En v l w hv hl).mono ?_;rintro e w' ⟨r,h1,h2,h3⟩;exact ⟨r,h1,h2,h3.group⟩
theorem AB (d:Array (List UInt8)) (x:List UInt8):∀ m,x∈Lib.compactUpTo d m↔∃ j,j<m∧d[j]! = x
 | 0=>by simp [Lib.compactUpTo]
 | m+1=>by
   have ih:=AB d x m;rw [Lib.compactUpTo_succ,List.mem_append,ih];constructor
   ·rintro (⟨j,h1,h2⟩|h)
    ·exact ⟨j,aC,h2⟩
    ·split at h
     ·exact ⟨m,aC,(List.mem_singleton.1 h).symm⟩
     ·cases h
   ·rintro ⟨j,h1,h2⟩;by_cases hj:j<m
    ·exact .inl ⟨j,hj,h2⟩
    ·have:j=m:=aC;subst this;by_cases hk:Lib.keeps d j=true
     ·right;rw [if_pos hk];simp [h2]
     ·left;simp only [Lib.keeps,decide_eq_true_eq,not_or,ne_eq,Classical.not_not]at hk;exact ⟨j - 1,aC,by rw [← hk.2];exact h2⟩
theorem xD {a b:List UInt8} (h:a≤b) (hn:a≠b):a<b:=by
 rcases Std.lt_trichotomy a b with h1|h1|h1
 ·exact h1
 ·exact absurd h1 hn
 ·exact absurd h (List.not_le.2 h1)
theorem xE (d:Array (List UInt8)) (hd:∀ i j,i<j→j<d.size→d[i]! ≤ d[j]!):∀ m,m≤d.size→(Lib.compactUpTo d m).Pairwise (· < ·)
 | 0,_=>by simp [Lib.compactUpTo]
 | m+1,hm=>by
   have ih:=xE d hd m aC;rw [Lib.compactUpTo_succ,List.pairwise_append];refine ⟨ih,by split<;>simp,fun x hx y hy=>?_⟩;split at hy
   ·rename_i hk;have hy:=List.mem_singleton.1 hy;subst hy;obtain ⟨j,hj,rfl⟩:=(AB d x m).1 hx;simp only [Lib.keeps,decide_eq_true_eq]at hk;have hne:d[m]! ≠ d[m - 1]! := hk.resolve_left aC;have h1:d[j]! ≤ d[m - 1]! := by
     by_cases e:j=m - 1
     ·rw [e];exact List.le_refl _
     ·exact hd j (m - 1) aC aC
    have h2:=xD (hd (m - 1) m aC aC) (Ne.symm hne);exact Std.lt_of_le_of_lt h1 h2
   ·cases hy
def Cg (l:List (List UInt8)):List (List UInt8):=Lib.compact (l.mergeSort fun x y=>decide (x≤y))
theorem UY {l:List (List UInt8)}:x∈Cg l↔x∈l:=by
 unfold Cg Lib.compact;rw [AB];rw [← List.mem_mergeSort (le:=fun x y:List UInt8=>decide (x≤y)) (l:=l)];generalize l.mergeSort (fun x y=>decide (x≤y))=s;constructor
 ·rintro ⟨j,hj,h⟩;rw [getElem!_pos s.toArray j (by simpa using hj)]at h;rw [← h];simp
 ·intro h;obtain ⟨j,hj⟩:=List.mem_iff_getElem?.1 h;obtain ⟨hj1,hj2⟩:=List.getElem?_eq_some_iff.1 hj;exact ⟨j,hj1,by rw [getElem!_pos s.toArray j (by simpa using hj1)];simpa using hj2⟩
theorem KG (l:List (List UInt8)):(Cg l).Pairwise (· < ·):=by
 unfold Cg Lib.compact;have hs:=List.pairwise_mergeSort (le:=fun x y:List UInt8=>decide (x≤y)) (fun a b c h1 h2=>by simp at *;exact Std.le_trans h1 h2) (fun a b=>by simp;exact Std.le_total) l;generalize l.mergeSort (fun x y=>decide (x≤y))=s at hs ⊢;refine xE _ (fun i j hij hj=>?_) _ aX;have hj':j<s.length:=by simpa using hj
 rw [getElem!_pos s.toArray j hj,getElem!_pos s.toArray i (by simp;omega)];have:=List.pairwise_iff_getElem.1 hs i j aC hj' hij
 simpa using this
theorem NQ:∀ {a b:List (List UInt8)},a.Pairwise (· < ·)→b.Pairwise (· < ·)→(∀ x,x∈a↔x∈b)→a=b:=by
 intro a b ha hb h;have na:a.Nodup:=ha.imp (fun h e=>by subst e;exact Std.lt_irrefl h);have nb:b.Nodup:=hb.imp (fun h e=>by subst e;exact Std.lt_irrefl h);have hp:a.Perm b:=(List.perm_ext_iff_of_nodup na nb).2 h;exact hp.eq_of_pairwise (le:=(· < ·)) (fun x y _ _ h1 h2=>absurd (Std.lt_trans h1 h2) (Std.lt_irrefl)) ha hb
def ZK (gs:List RSet) (r:Rec):Prop:=∃ s∈gs,bJ s r=true∧s.ttl≤r.ttl∧r.data∈s.data
theorem xF {s:RSet} {r q:Rec}:bJ (lD s r) q=bJ s q:=rfl
theorem sH:∀ {gs:List RSet} {r:Rec},ZK (eD gs r) r
 | [],r=>⟨⟨fold r.name,r.kind,r.ttl,[r.data]⟩,by simp [eD],by simp [bJ],Int.le_refl _,aX⟩
 | a::l,r=>by
   by_cases h:bJ a r=true
   ·exact ⟨lD a r,by simp [eD,h],by rw [xF];exact h,Int.min_le_right _ _,by simp [lD]⟩
   ·obtain ⟨s,h1,h2⟩:=sH (gs:=l) (r:=r);exact ⟨s,by simp [eD,h,h1],h2⟩
theorem DF:∀ {gs:List RSet} {r q:Rec},ZK gs q→ZK (eD gs r) q
 | [],r,q,⟨s,h,_⟩=>by simp at h
 | a::l,r,q,⟨s,h1,h2,h3,h4⟩=>by
   by_cases h:bJ a r=true
   ·rcases List.mem_cons.1 h1 with rfl|h1
    ·exact ⟨lD s r,by simp [eD,h],by rw [xF];exact h2,Int.le_trans (Int.min_le_left _ _) h3,by simp [lD,h4]⟩
    ·exact ⟨s,by simp [eD,h,h1],h2,h3,h4⟩
   ·rcases List.mem_cons.1 h1 with rfl|h1
    ·exact ⟨s,by simp [eD,h],h2,h3,h4⟩
    ·obtain ⟨t,g1,g2⟩:=DF (gs:=l) (r:=r) ⟨s,h1,h2,h3,h4⟩;exact ⟨t,by simp [eD,h,g1],g2⟩
theorem AC (l:List Rec):∀ gs,(∀ q,ZK gs q→ZK (l.foldl eD gs) q)∧∀ q∈l,ZK (l.foldl eD gs) q:=by
 induction l with
 | nil=>intro gs;exact ⟨fun _ h=>h,aX⟩
 | cons r l ih =>
  intro gs;obtain ⟨h1,h2⟩:=ih (eD gs r);refine ⟨fun q h=>h1 q (DF h),fun q hq=>?_⟩;rcases List.mem_cons.1 hq with rfl|hq
  ·exact h1 q sH
  ·exact h2 q hq
theorem AD {l:List Rec} {q:Rec} (h:q∈l):ZK (dC l) q:=(AC l []).2 q h
theorem DG:∀ {ls:List (List UInt8)},ls.all jB=true→hY (enc ls)=some ls
 | [],_=>rfl
 | x::ls,h=>by
   simp only [List.all_cons,Bool.and_eq_true]at h;obtain ⟨hx,hl⟩:=h;have e:enc (x::ls)=UInt8.ofNat x.length::(x++enc ls):=by simp [enc]
   simp only [jB,Bool.and_eq_true,decide_eq_true_eq]at hx;have hn:(UInt8.ofNat x.length).toNat=x.length:=by rw [UInt8.toNat_ofNat'];exact Nat.mod_eq_of_lt aC
   rw [e,mG,hn,if_neg (by rw [List.length_append];omega),List.drop_left,List.take_left,DG hl];rfl
theorem sZ (h:ls.all jB=true) (hl:(enc ls).length≤254):aM (enc ls)=some ls:=by
 rw [aM,if_neg aC,DG h]
theorem NR (b:UInt8):vJ (vJ b)=vJ b:=by
 unfold vJ;by_cases h:65≤b.toNat∧b.toNat≤90
 ·rw [if_pos h,if_neg];have:(b+32).toNat=b.toNat+32:=by rw [UInt8.toNat_add];have:(32:UInt8).toNat=32:=rfl;rw [this];omega
  omega
 ·rw [if_neg h,if_neg h]
theorem QM (l:List UInt8):low (low l)=low l:=by simp [low,NR]
theorem UZ (h:ls.all jB=true):(ls.map low).all jB=true:=by
 simp only [List.all_map,List.all_eq_true]at *;intro x hx;have:=h x hx
 simpa [jB,zI]using this
theorem mM (h:aM n=some ls):fold n=enc (ls.map low)∧aM (fold n)=some (ls.map low)∧fold (fold n)=fold n:=by
 obtain ⟨h1,h2,h3⟩:=fM h;have hf:=UZ h1;have hl:(enc (ls.map low)).length≤254:=by rw [zJ,h2];exact h3
 have e1:fold n=enc (ls.map low):=by
  unfold fold;rw [h];simp only [mV];rw [if_pos ⟨hf,hl⟩];rfl
 have e2:aM (fold n)=some (ls.map low):=by rw [e1];exact sZ hf hl
 refine ⟨e1,e2,?_⟩;have hmm:(ls.map low).map low=ls.map low:=by simp [List.map_map,Function.comp_def,QM]
 show (match aM (fold n)with|none=>fold n|some ls=>(mV (ls.map low)).getD [])=fold n;rw [e2];simp only [hmm,mV];rw [if_pos ⟨hf,hl⟩,e1];rfl
def Small (n:List UInt8):Prop:=∃ m ls,aM m=some ls∧n=fold m
theorem Small.turned (h:Small n):∃ ls,dO n=some ls.reverse∧n=enc ls:=by
 obtain ⟨m,ls,h1,rfl⟩:=h;obtain ⟨e1,e2,e3⟩:=mM h1;exact ⟨ls.map low,by rw [X.dO,e3,e2];rfl,e1⟩
theorem NS {a b:List UInt8} (h:qK a b=0):a=b:=by
 rw [oJ]at h;split at h
 ·omega
 ·split at h
  ·assumption
  ·omega
theorem DH:∀ {a b:List (List UInt8)},iV a b=0→a=b
 | [],[],_=>rfl
 | [],_::_,h=>by simp [iV]at h
 | _::_,[],h=>by simp [iV]at h
 | x::xs,y::ys,h=>by
   simp only [iV]at h;split at h
   ·rename_i hn;exact absurd h hn
   ·rename_i hn;have hz:qK x y=0:=aC;rw [NS hz,DH h]
theorem NT {a b:List UInt8} (ha:Small a) (hb:Small b) (h:pF a b=0):a=b:=by
 obtain ⟨x,hx,rfl⟩:=ha.turned;obtain ⟨y,hy,rfl⟩:=hb.turned;unfold pF at h;rw [hx,hy]at h;have:=DH h;rw [List.reverse_inj.1 this]
theorem nE {a b:List UInt8} {j k:Int} (ha:Small a) (hb:Small b) (h:eT a b j k=0):a=b∧j=k:=by
 unfold eT at h;split at h
 ·rename_i hn;exact absurd h hn
 ·rename_i hn;refine ⟨NT ha hb aC,?_⟩;unfold NL at h;split at h
  ·omega
  ·split at h<;>omega
theorem uI {l:List Rec} (h:l.all DD=true) {s:RSet} (hs:s∈fE l):Small s.name:=by
 obtain ⟨t,ht,rfl⟩:=List.mem_map.1 hs;obtain ⟨r,hr,e1,_⟩:=DE ht;have hrc:bI r=0:=by simpa [DD]using List.all_eq_true.1 h r hr
 obtain ⟨hlab,_⟩:=jD (n:=[]) hrc;obtain ⟨ls,hls⟩:=Option.isSome_iff_exists.1 hlab;exact ⟨r.name,ls,hls,e1⟩
theorem uJ (l:List Rec):(fE l).Pairwise fun s t=>¬ (s.name=t.name∧s.kind=t.kind):=List.pairwise_map.2 (iC.1 (lR l))
def Eo (s t:RSet):Prop:=0≤eT t.name s.name t.kind s.kind
theorem DI {l:List RSet} (h:sY l):l.Pairwise Eo:=by
 rw [List.pairwise_iff_getElem];intro i j hi hj hij;exact h i j _ _ hij (List.getElem?_eq_getElem hi) (List.getElem?_eq_getElem hj)
theorem KH {l:List Rec} (hok:l.all DD=true) {a b:List RSet} (ha:a.Perm (fE l)) (hb:b.Perm (fE l)) (sa:sY a) (sb:sY b):a=b:=by
 have key:∀ s t,s∈a→t∈b→Eo s t→Eo t s→s=t:=by
  intro s t hs ht h1 h2;have hs':=ha.mem_iff.1 hs;have ht':=hb.mem_iff.1 ht;have an:eT t.name s.name t.kind s.kind=- eT s.name t.name s.kind t.kind:=mI.anti (s.name,s.kind) (t.name,t.kind);have h1':0≤eT t.name s.name t.kind s.kind:=h1;have h2':0≤eT s.name t.name s.kind t.kind:=h2;clear h1 h2;have hz:eT s.name t.name s.kind t.kind=0:=by
   generalize eT s.name t.name s.kind t.kind=p at *;generalize eT t.name s.name t.kind s.kind=q at *;omega
  obtain ⟨e1,e2⟩:=nE (uI hok hs') (uI hok ht') hz;by_cases e:s=t
  ·exact e
  ·exfalso
   obtain ⟨i,hi⟩:=List.mem_iff_getElem?.1 hs';obtain ⟨j,hj⟩:=List.mem_iff_getElem?.1 ht';have hij:i≠j:=by
    rintro rfl;rw [hi]at hj;exact e (Option.some.inj hj)
   exact iC.2 (uJ l) i j s t hi hj hij ⟨e1,e2⟩
 exact List.Perm.eq_of_pairwise key (DI sa) (DI sb) (ha.trans hb.symm)
theorem DJ (n:List UInt8):dO n=(aM n).map fun ls=>(ls.map low).reverse:=by
 cases h:aM n with
 | none=>simp [dO,fold,h]
 | some ls=>simp [dO,(mM h).2.1]
theorem VA (nm:List UInt8) (w:World):Calls Tryz.prog 11 #[aE nm] w (bC w (aE (fold nm))):=by
 go_enter Tryz.func11,Tryz.ntmps11
 (repeat' first|((with_reducible refine aZ ?_);go_step)|((with_reducible refine aS ?_);first|refine dU ?_|(refine bG ?_ ?_<;>intro hc))|fail)
 refine fV (enters_of Tryz.func28 rfl rfl) rfl rfl (ZD nm _) ?_;intro v w1 x1 hv;cases hl:aM nm with
 | none =>
  rw [hl]at hv;subst hv
  (repeat' first|((with_reducible refine aZ ?_);go_step)|((with_reducible refine aS ?_);first|refine dU ?_|(refine bG ?_ ?_<;>intro hc))|fail)
  go_ret;exact ⟨by simp [fold,hl],x1⟩
 | some ls =>
  rw [hl]at hv;obtain ⟨s,rfl,hs⟩:=hv;have hfit:=fM hl;have hlen:=kG ls;rw [hfit.2.1]at hlen
  (repeat' first|((with_reducible refine aZ ?_);go_step)|((with_reducible refine aS ?_);first|refine dU ?_|(refine bG ?_ ?_<;>intro hc))|fail)
  go_loopw [5] (fun i wr=>∃ k:Nat,k≤ls.length∧i=.int .i64 k∧Ext w wr∧Own w.heap.size 1 9 wr s (aH (sQ low ls k))) (fun i _=>ls.length - (intOf i).toNat)
  case atStart=>exact ⟨0,Nat.zero_le _,rfl,x1,by simpa [CU]using hs⟩
  case round =>
   obtain ⟨k,hk,rfl,hx,ho⟩:=hrel;have hsl:=ho.sl;have hlen2:(aH (sQ low ls k)).length=ls.length:=by rw [bH,wU]
   by_cases hlt:k<ls.length
   ·have hp:=hsl.elem (pI _ _ _ (HJ low ls k hlt));have h254:ls[k].length≤254:=by have:=sR (List.getElem_mem hlt);rw [hfit.2.1]at this;omega
    (repeat' first|((with_reducible refine aZ ?_);go_step)|((with_reducible refine aS ?_);first|refine dU ?_|(refine bG ?_ ?_<;>intro hc))|fail)
    refine bK (enters_of Tryz.func29 rfl rfl) rfl rfl (QE _ _ aC) ?_;intro w2 x2;refine aB ?_;have hsl:=hsl.ext x2;have ho:=ho.ext x2;have hx:=hx.trans x2;clear hp
    (repeat' first|((with_reducible refine aZ ?_);go_step)|((with_reducible refine aS ?_);first|refine dU ?_|(refine bG ?_ ?_<;>intro hc))|fail)
    refine fZ (c:=aE (low ls[k])) (i:=k) rfl rfl rfl ho aC zDk rfl ?_;intro w3 o3 m3;have hx3:=ho.mvx m3 hx (Nat.le_refl _);rw [zS,← CV low ls k hlt]at o3;clear hx ho hsl
    (repeat' first|((with_reducible refine aZ ?_);go_step)|((with_reducible refine aS ?_);first|refine dU ?_|(refine bG ?_ ?_<;>intro hc))|fail)
    exact ⟨⟨k+1,aC,by go_num,hx3,o3⟩,by simp [intOf];omega⟩
   ·have:k=ls.length:=aC;subst this;rw [HI]at hsl hlen2
    (repeat' first|((with_reducible refine aZ ?_);go_step)|((with_reducible refine aS ?_);first|refine dU ?_|(refine bG ?_ ?_<;>intro hc))|fail)
    refine bK (enters_of Tryz.func30 rfl rfl) rfl rfl (UX _ _ _ hsl) ?_;intro w2 x2;refine aB ?_;cases hj:mV (ls.map low) with
    | none =>
     (repeat' first|((with_reducible refine aZ ?_);go_step)|((with_reducible refine aS ?_);first|refine dU ?_|(refine bG ?_ ?_<;>intro hc))|fail)
     go_ret;exact ⟨by simp [fold,hl,hj],hx.trans x2⟩
    | some n =>
     (repeat' first|((with_reducible refine aZ ?_);go_step)|((with_reducible refine aS ?_);first|refine dU ?_|(refine bG ?_ ?_<;>intro hc))|fail)
     go_ret;exact ⟨by simp [fold,hl,hj],hx.trans x2⟩
def bW (n t:List UInt8):Bool:=match dO n with
 | none=>false
 | some a=>match dO t with
   | none=>false
   | some b=>decide (a.take b.length=b)
theorem DK:∀ (k:Nat) (a b:List (List UInt8)),a.take k=b.take k→k≤a.length→k≤b.length→iV a b=iV (a.drop k) (b.drop k)
 | 0,a,b,_,_,_=>by simp
 | k+1,x::a,y::b,h,h1,h2=>by
   simp only [List.take_succ_cons,List.cons.injEq]at h;obtain ⟨rfl,h⟩:=h;have e:qK x x=0:=iA.refl x;rw [iV,e];simp only [ne_eq,not_true_eq_false,if_false,List.drop_succ_cons];exact DK k a b h (by simpa using h1) (by simpa using h2)
 | k+1,[],_,_,h1,_=>by simp at h1
 | k+1,_::_,[],_,_,h2=>by simp at h2
theorem HS {a b:List (List UInt8)} (h:a.take k=b.take k) (h1:k≤a.length) (h2:k≤b.length) (he:k=a.length∨k=b.length):iV a b=if a.length<b.length then -1 else if b.length<a.length then 1 else 0:=by
 rw [DK k a b h h1 h2];rcases he with rfl|rfl
 ·rw [List.drop_length];cases hd:b.drop a.length with
  | nil =>
   have:=List.drop_eq_nil_iff.1 hd;rw [iV,if_neg aC,if_neg aC]
  | cons y l =>
   have:a.length<b.length:=by
    rcases Nat.lt_or_ge a.length b.length with h|h
    ·exact h
    ·rw [List.drop_eq_nil_iff.2 h]at hd;cases hd
   rw [iV,if_pos this]
 ·rw [List.drop_length];cases hd:a.drop b.length with
  | nil =>
   have:=List.drop_eq_nil_iff.1 hd;rw [iV,if_neg aC,if_neg aC]
  | cons y l =>
   have:b.length<a.length:=by
    rcases Nat.lt_or_ge b.length a.length with h|h
    ·exact h
    ·rw [List.drop_eq_nil_iff.2 h]at hd;cases hd
   rw [iV,if_neg aC,if_pos this]
theorem oL {α:Type} {p:α→Bool} {l:List α} (hk:k<l.length) (h:(l.take k).any p=false) (hp:p l[k]=false):(l.take (k+1)).any p=false:=by
 rw [List.take_succ_eq_append_getElem hk,List.any_append,h];simp [hp]
theorem ZL {α:Type} {p:α→Bool} {l:List α} (hk:k<l.length) (hp:p l[k]=true):l.any p=true :=
 List.any_eq_true.mpr ⟨_,List.getElem_mem hk,hp⟩
def bO (l:List Int):List (List Value):=l.map fun n=>[.int .i64 n]
theorem NU {l:List Int} (h:k<l.length):(bO l)[k]? = some [.int .i64 l[k]]:=by simp [bO,h]
theorem NV {r q:Rec}:(Op.equalIn 10000 37 (.agg #[aE r.name, .int .i64 r.kind, .int .i64 r.ttl,aE r.data]) (.agg #[aE q.name, .int .i64 q.kind, .int .i64 q.ttl,aE q.data])).run Tryz.prog w=.ok (decide (r=q)) w:=by
 have hS:Tryz.prog.underlying 37=some (.struct (Tryz.prog.fieldsOf 37)):=by kernel_rfl
 rw [show (10000:Nat)=9999+1 from rfl,run_equalIn_agg w 9999 37 _ _ hS (by kernel_rfl)];simp only [Program.fieldsOf,Tryz.underlying37];have u3:=Tryz.underlying3;have u9:=Tryz.underlying9;have u31:=Tryz.underlying23;have a3:=Tryz.isAgg3;have a9:=Tryz.isAgg9;have a31:=Tryz.isAgg23;have z3:=Tryz.sizeOf3;have z9:=Tryz.sizeOf9;have z31:=Tryz.sizeOf23;unfold aE
 go_simp
 obtain ⟨a1,a2,a3,a4⟩:=r;obtain ⟨b1,b2,b3,b4⟩:=q;simp only [Rec.mk.injEq];by_cases h1:a1=b1<;>by_cases h2:a2=b2<;>by_cases h3:a3=b3<;>by_cases h4:a4=b4<;>simp [h1,h2,h3,h4]
theorem Runs.neqRec {r q:Rec} {x y:Operand} {a:Act} {d:Option Nat} {u ty:TypeId} {ps:String} {af:Array Edge} {g:Option (Nat×Bool)}
 (hx:a.eval x=.agg #[aE r.name, .int .i64 r.kind, .int .i64 r.ttl,aE r.data]) (hy:a.eval y=.agg #[aE q.name, .int .i64 q.kind, .int .i64 q.ttl,aE q.data]) :
 Runs Tryz.prog (Oper.mk d (.binOp .neq 37 x y u) ty ps af g) a w (.bool (!decide (r=q))):=by
 constructor;have hg:=run_eqGuard_agg (P:=Tryz.prog) w .neq 37 x y #[aE r.name, .int .i64 r.kind, .int .i64 r.ttl,aE r.data] #[aE q.name, .int .i64 q.kind, .int .i64 q.ttl,aE q.data] (by kernel_rfl);simp only [execOp,hx,hy,Sem.run_bind,hg,Result.andThen_ok,run_neq_struct,NV,Sem.run_pure]
theorem MD (u v:Value) (a b:List Rec) (w:World) (hu:Sl 4 w u (aF a)) (hv:Sl 4 w v (aF b)):Calls Tryz.prog 12 #[u,v] w (bC w (.bool (decide (a=b)))):=by
 have la:=aJ a;have lb:=aJ b;have hla:=hu.le;have hlb:=hv.le;by_cases hl:a.length=b.length
 ·go_enter Tryz.func12,Tryz.ntmps12
  (repeat' first|((with_reducible refine aZ ?_);go_step)|((with_reducible refine aS ?_);first|refine dU ?_|(refine bG ?_ ?_<;>intro hc))|fail)
  ·have hbad:=‹(!decide (((aF a).length:Int)=((aF b).length:Int)))=true›;exfalso;simp at hbad;omega
  go_loopw [5] (fun i wr=>∃ k:Nat,k≤a.length∧i=.int .i64 k∧Ext w wr∧a.take k=b.take k) (fun i _=>a.length - (intOf i).toNat)
  case atStart=>exact ⟨0,Nat.zero_le _,rfl,Ext.refl _,rfl⟩
  case round =>
   obtain ⟨k,hk,rfl,hx,hall⟩:=hrel;by_cases hlt:k<a.length
   ·have hlt2:k<b.length:=aC;have hpa:=(hu.ext hx).elem (eX hlt);have hpb:=(hv.ext hx).elem (eX hlt2);have hua:=hu.ext hx;have hvb:=hv.ext hx
    (repeat' first|((with_reducible refine aZ ?_);go_step)|((with_reducible refine aS ?_);first|refine dU ?_|(refine bG ?_ ?_<;>intro hc))|fail)
    refine dA zDk zDk ?_
    (try ((with_reducible refine EW ?_);refine UH ?_))
    refine ER (v:=.bool (!decide (a[k]=b[k]))) rfl (fun w' _=>Runs.neqRec rfl rfl) ?_;refine aB ?_
    (try ((with_reducible refine EW ?_);refine UH ?_))
    intro w3 x3
    (repeat' first|((with_reducible refine aZ ?_);go_step)|((with_reducible refine aS ?_);first|refine dU ?_|(refine bG ?_ ?_<;>intro hc))|fail)
    ·have hne:=‹(!decide (a[k]=b[k]))=true›;have hab:a≠b:=HP hlt hlt2 (by simpa using hne);go_ret;exact ⟨by rw [decide_eq_false hab];rfl,hx.trans x3⟩
    ·have heq:=‹(!decide (a[k]=b[k]))=false›;exact ⟨⟨k+1,aC,by go_num,hx.trans x3,uE hall hlt hlt2 (by simpa using heq)⟩,by simp [intOf];omega⟩
   ·have:k=a.length:=aC;subst this;have hab:a=b:=by rw [List.take_length,hl,List.take_length]at hall;exact hall
    (repeat' first|((with_reducible refine aZ ?_);go_step)|((with_reducible refine aS ?_);first|refine dU ?_|(refine bG ?_ ?_<;>intro hc))|fail)
    go_ret;exact ⟨by rw [decide_eq_true hab];rfl,hx⟩
 ·have hab:a≠b:=fun h=>hl (by rw [h]);go_enter Tryz.func12,Tryz.ntmps12
  (repeat' first|((with_reducible refine aZ ?_);go_step)|((with_reducible refine aS ?_);first|refine dU ?_|(refine bG ?_ ?_<;>intro hc))|fail)
  ·go_ret;exact ⟨by rw [decide_eq_false hab];rfl,Ext.refl _⟩
  ·have hbad:=‹(!decide (((aF a).length:Int)=((aF b).length:Int)))=false›;exfalso;simp at hbad;omega
def qP (n:List UInt8):Nat:=((aM n).getD []).length
def nF (o n:List UInt8) (b:List UInt8×Bool) (s:RSet):List UInt8×Bool :=
 if s.kind=2∧s.name≠o∧bW n s.name=true∧(b.2=false∨qP s.name<qP b.1)then (s.name,true)else b
def FD (o:List UInt8) (l:List RSet) (n:List UInt8):List UInt8×Bool:=l.foldl (nF o n) ([],false)
end Go.Proofs.X
