/- Laws and walks that the proof of the statement is made of (part 9). -/
import Derived.Test.YtfkckeaadnoeiaaGreatP8
set_option linter.unusedSimpArgs false
set_option linter.unusedVariables false
set_option maxRecDepth 100000
set_option maxHeartbeats 20000000
namespace Go.Proofs.X
open Go.RowKit
variable {cs:Array Value} {held:Bool} {qt:Int} {ps rs:List (List UInt8 × Nat)} {ls:List (List UInt8)} {css css0 es:List (List Value)} {d l m n o qn s t x y z:List UInt8} {B a b base c e fuel i j k p q:Nat} {fz:Nat × Nat} {row:Option Nat} {r u v:Value} {w w' w0 w1 w2:World}
theorem NS {j:JudR} (h:k < j.au.length):(j.au.take (k + 1)).foldl j.step ([],-1) =
 if j.au[k].kind=2∧bY j.qn (fold j.au[k].name)=true∧oI (fold j.au[k].name) j.zone=false∧((j.au.take k).foldl j.step ([],-1)).2 < QZ (fold j.au[k].name) then (fold j.au[k].name,QZ (fold j.au[k].name)) else (j.au.take k).foldl j.step ([],-1):=by
 rw [List.take_succ_eq_append_getElem h,List.foldl_append];rfl
theorem JY (j:JudR) (an au:Value) (w:World) (ha:Sl 4 w an (aF j.an)) (hu:Sl 4 w au (aF j.au)):Calls Tryz.prog 237 #[.agg (mL j an au).toArray] w (aY w (.tuple #[.int .i64 j.referral.1,aE j.referral.2])):=by
 have hlen:=aK j.au;have hle:=hu.le;go_enter Tryz.func237,Tryz.ntmps237
 refine_lift mO fun _ _ => ?_;refine jP (vs:=mL j an au) fun w1 x1 s1 h1 => ?_;refine aB ?_;have hp:=aA (cs:=mL j an au) h1;have hj0:Pts w1 (aT (.pointer (some ⟨w.heap.size,0,none⟩)) 0) [aE j.qn, .int .i64 j.qt]:=(hp.part 0).front 2;have hj2:Pts w1 (aT (.pointer (some ⟨w.heap.size,0,none⟩)) 2) [aE j.zone]:=(hp.part 2).front 1;have hj3:Pts w1 (aT (.pointer (some ⟨w.heap.size,0,none⟩)) 3) [.int .i64 j.code]:=(hp.part 3).front 1;have hj5:Pts w1 (aT (.pointer (some ⟨w.heap.size,0,none⟩)) 5) [au]:=hp.part 5;have hu1:=hu.ext x1;refine_lift bK fun _ _ => ?_;go_loopw [4,5,13] (fun b m i wr=>∃ k:Nat,k≤j.au.length∧i=.int .i64 k∧Ext w1 wr∧b=aE ((j.au.take k).foldl j.step ([],-1)).1∧m=.int .i64 ((j.au.take k).foldl j.step ([],-1)).2) (fun _ _ i _=>j.au.length - (intOf i).toNat)
 case atStart=>exact ⟨0,Nat.zero_le _,rfl,Ext.refl _,rfl,rfl⟩
 case round =>
  obtain ⟨k,hk,rfl,hx,rfl,rfl⟩:=hrel;have hx0:=x1.trans hx;have hu2:=hu1.ext hx;have hz2:=hj0.ext hx;have hz3:=hj2.ext hx;by_cases hlt:k < j.au.length
  ·have hpe:=hu2.elem (eU hlt);have hst:=NS hlt;generalize (j.au.take k).foldl j.step ([],-1)=S at *;refine_lift rS ?_;intro _ _ _ _ _ _;refine dT (z:=iQ) fun w2 x2 s2 h2 => ?_;refine aB ?_;refine dH (v:=.agg #[aE j.au[k].name, .int .i64 j.au[k].kind, .int .i64 j.au[k].ttl,aE j.au[k].data]) h2 (gB rfl rfl rfl rfl) fun w3 p3 => ?_;have x3:=cB x2 p3;have hp3:=aA (cs:=[aE j.au[k].name, .int .i64 j.au[k].kind, .int .i64 j.au[k].ttl,aE j.au[k].data]) p3.this;have hz23:=hz2.ext x3;have hz33:=hz3.ext x3;have hx3:=hx.trans x3;clear p3 h2 x2;refine_lift bK fun _ _ => ?_;refine bZ (uX j.au[k].name _) fun w4 x4 => ?_;refine_lift bK fun _ _ => ?_;refine rP (uD (fold j.au[k].name) _) fun lv w5 x5 o5 => ?_;have hsl5:=o5.sl;have htl:=bU ((aM (fold j.au[k].name)).getD []);have hL:QZ (fold j.au[k].name)=((aH ((aM (fold j.au[k].name)).getD [])).length:Int):=by rw [htl];rfl
   have x45:=x4.trans x5;have hp5:=hp3.ext x45;have hy5:=hz23.ext x45;have hz5:=hz33.ext x45;have hx5:=hx3.trans x45;clear hp3 hz23 hz33 hz2 hz3 hpe hu2;rw [hL] at hst;clear htl;generalize aH ((aM (fold j.au[k].name)).getD [])=T at *;generalize fold j.au[k].name=N at *;by_cases c1:j.au[k].kind=2
   ·refine_lift GG (fun hc => ?_) (fun _ _ hc => ?_)
    all_goals first
     | exact absurd c1 ‹_›
     | skip
    refine bZ (jI j.qn N _) fun w6 x6 => ?_;have hp6:=hp5.ext x6;have hz6:=hz5.ext x6;have hx6:=hx5.trans x6;cases c2:bY j.qn N with
    | false =>
     rw [if_neg (by rw [c2];rintro ⟨_,h,_⟩;cases h)] at hst;refine_lift aR ?_;exact ⟨⟨k + 1,aC,by go_num,hx6,by rw [hst],by rw [hst]⟩,by simp [intOf];omega⟩
    | true =>
     refine_lift aR ?_;refine bZ (xT N j.zone _) fun w7 x7 => ?_;have hx7:=hx6.trans x7;cases c3:oI N j.zone with
     | true =>
      rw [if_neg (by rw [c3];rintro ⟨_,_,h,_⟩;cases h)] at hst;refine_lift aR ?_;exact ⟨⟨k + 1,aC,by go_num,hx7,by rw [hst],by rw [hst]⟩,by simp [intOf];omega⟩
     | false =>
      by_cases c4:S.2 < (T.length:Int)
      ·rw [if_pos ⟨c1,c2,c3,c4⟩] at hst;refine_lift iX fun _ => ?_
       all_goals first
        | (exfalso;omega)
        | skip
       exact ⟨⟨k + 1,aC,by go_num,hx7,by rw [hst],by rw [hst]⟩,by simp [intOf];omega⟩
      ·rw [if_neg (by rintro ⟨_,_,_,h⟩;exact c4 h)] at hst;refine_lift iX fun _ => ?_
       all_goals first
        | (exfalso;omega)
        | skip
       exact ⟨⟨k + 1,aC,by go_num,hx7,by rw [hst],by rw [hst]⟩,by simp [intOf];omega⟩
   ·rw [if_neg (by rintro ⟨h,_⟩;exact c1 h)] at hst;refine_lift GG (fun hc => ?_) (fun _ _ hc => ?_)
    all_goals first
     | exact absurd ‹j.au[k].kind=2› c1
     | skip
    exact ⟨⟨k + 1,aC,by go_num,hx5,by rw [hst],by rw [hst]⟩,by simp [intOf];omega⟩
  ·have:k=j.au.length:=aC;subst this;rw [List.take_length];have hz4:=hj3.ext hx;have hB:j.best=j.au.foldl j.step ([],-1):=rfl;rw [← hB];by_cases c1:j.best.2 < 0
   ·have hE:j.referral=(6,[]):=by rw [JudR.referral,if_pos (.inl c1)]
    refine_lift mP fun _ _ _ hc => ?_
    all_goals first
     | (exfalso;omega)
     | skip
    go_ret2;exact ⟨by rw [hE];rfl,hx0⟩
   ·by_cases c2:j.code=0
    ·have hE:j.referral=(4,j.best.1):=by rw [JudR.referral,if_neg (by rintro (h | h);exact c1 h;exact h c2)]
     (repeat' first | ((with_reducible refine bH ?_);go_step) | ((with_reducible refine aV ?_);first | refine dR ?_ | (refine bO ?_ ?_ <;> intro hc)) | fail)
     all_goals first
      | (exfalso;omega)
      | (exfalso;have hh:=‹(!decide (j.code=0))=true›;simp [c2] at hh;done)
      | skip
     go_ret2;exact ⟨by rw [hE];rfl,hx0⟩
    ·have hE:j.referral=(6,[]):=by rw [JudR.referral,if_pos (.inr c2)]
     (repeat' first | ((with_reducible refine bH ?_);go_step) | ((with_reducible refine aV ?_);first | refine dR ?_ | (refine bO ?_ ?_ <;> intro hc)) | fail)
     all_goals first
      | (exfalso;omega)
      | (exfalso;have hh:=‹(!decide (j.code=0))=false›;simp [c2] at hh;done)
      | skip
     go_ret2;exact ⟨by rw [hE];rfl,hx0⟩
theorem UV {r:Rec} (h:bF r=0):r.data.length≤4000:=by
 unfold bF at h;split at h
 ·cases h
 ·split at h
  ·cases h
  ·omega
theorem NT {l:List Rec} {r:Rec} (h:r ∈ bV l z):bF r=0:=by
 have:=(List.mem_filter.1 h).2;simp at this;exact this.1
theorem JudR.referral_ne (j:JudR):¬ j.referral.1=0:=by
 unfold JudR.referral;split <;> simp
theorem UW {j:JudR} {v1 v2:Value} (h1:v1.oneCell'=true) (h2:v2.oneCell'=true):(Value.agg (mL j v1 v2).toArray).cells.all (·.oneCell')=true:=by
 have k1:∀ s,(aE s).oneCell'=true:=fun _=>rfl;have k2:∀ n,(Value.int .i64 n).oneCell'=true:=fun _=>rfl;simp [mL,Value.cells,h1,h2,k1,k2]
def XH:List Value:=[aE [], .int .i64 0,aE [], .int .i64 0, .slice none 0 0, .slice none 0 0]
theorem UX (qn:List UInt8) (qt:Int) (m:MsgR) (q a u e:Value) (z:List UInt8) (w:World) (hm:MsgV w m q a u e) (hl:m.an.length≤100000) (hl2:m.au.length≤100000) :
 Calls Tryz.prog 183 #[.agg #[aE qn, .int .i64 qt], .agg (aO m q a u e).toArray,aE z] w (aY w (.tuple #[.int .i64 (fF qn qt m z).1,aE (fF qn qt m z).2])):=by
 go_enter Tryz.func183,Tryz.ntmps183
 refine_lift mO fun _ _ => ?_;refine mW (vs:=[aE qn, .int .i64 qt]) fun pq w1 x1 hq => ?_;refine aB ?_;refine mW (vs:=aO m q a u e) fun pm w2 x2 hp => ?_;refine aB ?_;have hx2:=x1.trans x2;have hq2:=hq.ext x2;have hm2:=hm.ext hx2;refine_lift mP fun _ _ _ _ => ?_;refine bZ (jI qn z _) fun w3 x3 => ?_;have hx3:=hx2.trans x3;have hp3:=hp.ext x3;have hq3:=hq2.ext x3;have hm3:=hm2.ext x3;clear hp hq2 hm2 hq;cases c1:bY qn z with
 | false =>
  have hE:fF qn qt m z=(0,[]):=by rw [fF,if_pos (.inl c1)]
  refine_lift aR ?_;go_ret2;exact ⟨by rw [hE];rfl,hx3⟩
 | true =>
  cases c2:m.trunc with
  | true =>
   have hE:fF qn qt m z=(0,[]):=by rw [fF,if_pos (.inr (.inl c2))]
   have hp4:Pts w3 pm [.int .i64 m.id, .bool m.resp, .int .i64 m.op, .bool m.auth, .bool true, .bool m.want, .bool m.avail, .int .i64 m.rcode,q,a,u,e, .int .i64 m.size]:=by rw [← c2];exact hp3
   clear hp3;refine_lift aR ?_;go_ret2;exact ⟨by rw [hE];rfl,hx3⟩
  | false =>
   have hp4:Pts w3 pm [.int .i64 m.id, .bool m.resp, .int .i64 m.op, .bool m.auth, .bool false, .bool m.want, .bool m.avail, .int .i64 m.rcode,q,a,u,e, .int .i64 m.size]:=by rw [← c2];exact hp3
   clear hp3;by_cases hok:m.rcode=0∨m.rcode=3
   ·(repeat' first | ((with_reducible refine bH ?_);go_step) | ((with_reducible refine aV ?_);first | refine dR ?_ | (refine bO ?_ ?_ <;> intro hc)) | fail)
    all_goals first
     | (exfalso;have h1:=‹(!decide (m.rcode=0))=true›;have h2:=‹(!decide (m.rcode=3))=true›;simp at h1 h2;rcases hok with h | h;exact h1 h;exact h2 h;done)
     | skip
    all_goals (
     have hE:fF qn qt m z=(if (⟨qn,qt,z,m.rcode,bV m.an z,bV m.au z⟩:JudR).answer.1≠0 then (⟨qn,qt,z,m.rcode,bV m.an z,bV m.au z⟩:JudR).answer else if (⟨qn,qt,z,m.rcode,bV m.an z,bV m.au z⟩:JudR).alias.1≠0 then (⟨qn,qt,z,m.rcode,bV m.an z,bV m.au z⟩:JudR).alias else if (⟨qn,qt,z,m.rcode,bV m.an z,bV m.au z⟩:JudR).denial.1≠0 then (⟨qn,qt,z,m.rcode,bV m.an z,bV m.au z⟩:JudR).denial else (⟨qn,qt,z,m.rcode,bV m.an z,bV m.au z⟩:JudR).referral):=by rw [fF,if_neg (by rintro (h | h | ⟨h1,h2⟩);rw [c1] at h;cases h;rw [c2] at h;cases h;rcases hok with h | h;exact h1 h;exact h2 h)]
     generalize hJ:(⟨qn,qt,z,m.rcode,bV m.an z,bV m.au z⟩:JudR)=J at *;have hJ1:J.an=bV m.an z:=by rw [← hJ]
     have hJ2:J.au=bV m.au z:=by rw [← hJ]
     have hJd:∀ r ∈ J.an,r.data.length≤4000:=fun r hr=>by
      rw [hJ1] at hr;exact UV (NT hr)
     have hJc:∀ v1 v2,mL J v1 v2=[aE qn, .int .i64 qt,aE z, .int .i64 m.rcode,v1,v2]:=fun v1 v2=>by rw [← hJ];rfl
     refine dA (S:=fun w'=>Ext w3 w') zDk ?_;intro w21 x21 hh21;refine dL 0 ?_;refine aB ?_;refine dL 1 ?_;refine aB ?_;refine dL 2 ?_;refine aB ?_;refine dL 3 ?_;refine aB ?_;refine dL 4 ?_;refine aB ?_;refine dL 5 ?_;refine aB ?_;refine dL 6 ?_;refine aB ?_;refine dL 8 ?_;refine aB ?_;refine dL 9 ?_;refine aB ?_;refine dL 10 ?_;refine aB ?_;refine TT 7 11 12 13 14 39 43 44 8 (fun b1 b2 b3 b4 b5=>(!b2 || b1) && (!b3 || b1) && (!b3 || b2) && (!b5 || b3) && (!b5 || b4)) (fun b1 b2 b3 b4 b5 => !b2 && !b3) (fun b1 b2 b3 b4 b5=>b1 && !b3) (fun b1 b2 b3 b4 b5=>b1 && b2 && !b5) (fun b1 b2 b3 b4 b5 => !b5) (fun b1 b2 b3 b4 b5=>b3 && b4) (fun b1 b2 b3 b4 b5 v1 v2 v3 v4 w'=>∃ zk,Ext w3 w'∧(b1=true→Own w3.heap.size 4 37 w' v1 (aF J.an))∧(b2=true→Own w3.heap.size 4 37 w' v2 (aF J.au))∧(b3=true→v3=.agg (mL J v1 v2).toArray)∧(b4=true→v4=.pointer (some ⟨zk,0,none⟩)∧w3.heap.size≤zk∧w'.heap[zk]? = some (.cells (bif b5 then mL J v1 v2 else XH).toArray 365 (0,0)))) ?_ ?_ ?_ ?_ ?_ ?_ ?_
     ·exact ⟨0,x21,aX,aX,aX,aX⟩
     ·rintro b1 b2 b3 b4 b5 v1 v2 v3 v4 w4 hq ⟨zk,x4,f1,f2,f3,f4⟩;have hb2:b2=false:=by revert hq;cases b2 <;> simp
      have hb3:b3=false:=by revert hq;subst hb2;cases b3 <;> simp
      have hb5:b5=false:=by revert hq;subst hb3;cases b5 <;> simp
      subst hb2 hb3 hb5;refine aB ?_;refine rP (AG a m.an z _ (hm3.an.ext x4) hl) fun v5 w5 x5 o5 => ?_;refine aD ⟨x4.trans x5,_,rfl,zk,x4.trans x5,fun _=>by rw [hJ1];exact o5.weaken x4.size,aX,aX,fun e => ?_⟩;obtain ⟨g1,g2,g3⟩:=f4 e;exact ⟨g1,g2,x5.at g3⟩
     ·rintro b1 b2 b3 b4 b5 v1 v2 v3 v4 w4 hq ⟨zk,x4,f1,f2,f3,f4⟩;have hb1:b1=true:=by revert hq;cases b1 <;> simp
      have hb3:b3=false:=by revert hq;cases b3 <;> simp
      have hb5:b5=false:=by revert hq;subst hb3;cases b5 <;> simp
      subst hb1 hb3 hb5;refine aB ?_;refine rP (AG u m.au z _ (hm3.au.ext x4) hl2) fun v5 w5 x5 o5 => ?_;refine aD ⟨x4.trans x5,_,rfl,zk,x4.trans x5,fun _=>(f1 rfl).ext x5,fun _=>by rw [hJ2];exact o5.weaken x4.size,aX,fun e => ?_⟩;obtain ⟨g1,g2,g3⟩:=f4 e;exact ⟨g1,g2,x5.at g3⟩
     ·rintro b1 b2 b3 b4 b5 v1 v2 v3 v4 w4 hq ⟨zk,x4,f1,f2,f3,f4⟩;have hb1:b1=true:=by revert hq;cases b1 <;> simp
      have hb2:b2=true:=by revert hq;cases b2 <;> simp
      have hb5:b5=false:=by revert hq;cases b5 <;> simp
      subst hb1 hb2 hb5;refine aB ?_;have q1:=(f1 rfl).sl.slf;have q2:=(f2 rfl).sl.slf;refine cE (v:=.agg (mL J v1 v2).toArray) rfl (Runs.build (vals:=[(0, .agg #[aE qn, .int .i64 qt]),(1,aE z),(2, .int .i64 m.rcode),(3,v1),(4,v2)]) rfl (by rw [hJc];obtain ⟨_,_,_,rfl⟩:=q1;obtain ⟨_,_,_,rfl⟩:=q2;kernel_rfl)) ?_;refine aB ?_;refine aD ⟨x4,_,rfl,zk,x4,fun _=>f1 rfl,fun _=>f2 rfl,fun _=>rfl,f4⟩
     ·rintro b1 b2 b3 b4 b5 v1 v2 v3 v4 w4 hq ⟨zk,x4,f1,f2,f3,f4⟩;have hb5:b5=false:=by revert hq;cases b5 <;> simp
      subst hb5;refine aB ?_;refine dT (z:=XH) fun w5 x5 s5 h5 => ?_;refine aB ?_;refine aD ⟨x4.trans x5,_,rfl,_,x4.trans x5,fun e=>(f1 e).ext x5,fun e=>(f2 e).ext x5,f3,fun _=>⟨rfl,x4.size,h5⟩⟩
     ·rintro b1 b2 b3 b4 b5 v1 v2 v3 v4 w4 hq ⟨zk,x4,f1,f2,f3,f4⟩;have hb3:b3=true:=by revert hq;cases b3 <;> simp
      have hb4:b4=true:=by revert hq;cases b4 <;> simp
      subst hb3 hb4;have g3:=f3 rfl;subst g3;obtain ⟨rfl,g5,g6⟩:=f4 rfl;have hb2:b2=true:=by revert hq;cases b2 <;> simp
      have hb1:b1=true:=by revert hq;subst hb2;cases b1 <;> simp
      subst hb1 hb2;have q1:=(f1 rfl).sl.one;have q2:=(f2 rfl).sl.one;have n1:=(f1 rfl).neBlock g6 aJ;have n2:=(f2 rfl).neBlock g6 aJ;refine aB ?_;refine dH (v:=.agg (mL J v1 v2).toArray) g6 (UW q1 q2) fun w5 p5 => ?_;have x5:=cB x4 p5;refine aD ⟨x5,rfl,zk,x5,fun _=>(f1 rfl).mv p5.mv (.inr n1),fun _=>(f2 rfl).mv p5.mv (.inr n2),aX,fun _=>⟨rfl,g5,p5.this⟩⟩
     ·rintro v1 v2 v3 v4 w9 ⟨zk,x9,f1,f2,f3,f4⟩;have o1:=(f1 rfl).sl;have o2:=(f2 rfl).sl;have k3:=f3 rfl;obtain ⟨k5,k6,k7⟩:=f4 rfl;clear f1 f2 f3 f4;subst k3 k5;refine aB ?_;refine cP zDk ?_;have k7':w9.heap[zk]? = some (.cells (mL J v1 v2).toArray 365 (0,0)):=k7;have hpz:=aA (cs:=mL J v1 v2) k7';refine_lift mP fun _ _ _ _ => ?_;refine aG (v:=.agg #[.func (.func 234) #[] #[], .func (.func 235) #[] #[], .func (.func 236) #[] #[], .func (.func 237) #[] #[]]) (Runs.build rfl (by kernel_rfl)) ?_;refine aB ?_;refine_lift aR ?_;have hx9:=hx3.trans x9;go_loopw [46] (fun i wr=>∃ k:Nat,k≤4∧i=.int .i64 k∧Ext w9 wr∧(0 < k→J.answer.1=0)∧(1 < k→J.alias.1=0)∧(2 < k→J.denial.1=0)∧(3 < k→J.referral.1=0)) (fun i _=>4 - (intOf i).toNat)
      case atStart=>exact ⟨0,aC,rfl,Ext.refl _,aC,aC,aC,aC⟩
      case round =>
       obtain ⟨k,hk,rfl,hx,g0,g1,g2,g3⟩:=hrel;have hpz2:=hpz.ext hx;rcases (by omega:k=0∨k=1∨k=2∨k=3∨k=4) with rfl | rfl | rfl | rfl | rfl
       ·refine_lift rS ?_;intro _ _ _ _ _ _;refine aG (v:=.func (.func 234) #[] #[]) (Runs.idxA (i:=0) rfl rfl rfl aJ (zDk:yI Tryz.prog 368 4=true)) ?_;refine aB ?_;refine_lift bK fun _ _ => ?_;refine aG (Runs.loadN hpz2 rfl (zDk:eE Tryz.prog 365 6=true)) ?_;refine aB ?_;refine dV (enters_of Tryz.func234 rfl rfl) rfl rfl rfl (RB J v1 v2 _ (o1.ext hx) (o2.ext hx)) ?_;rintro e w10 ⟨rfl,x10⟩;refine ⟨_,rfl,?_⟩;refine aB ?_;by_cases ck:J.answer.1=0
        ·refine_lift jD (fun _ => ?_) (fun _ => ?_)
         all_goals first
          | (exfalso;have hh:=‹(!decide (J.answer.1=0))=true›;simp [ck] at hh;done)
          | skip
         exact ⟨⟨1,aC,by go_num,hx.trans x10,fun _=>ck,aC,aC,aC⟩,by simp [intOf]⟩
        ·refine_lift jD (fun _ => ?_) (fun _ => ?_)
         all_goals first
          | (exfalso;have hh:=‹(!decide (J.answer.1=0))=false›;simp [ck] at hh;done)
          | skip
         go_ret2;exact ⟨by rw [hE,if_pos ck];rfl,(hx9.trans hx).trans x10⟩
       ·refine_lift rS ?_;intro _ _ _ _ _ _;refine aG (v:=.func (.func 235) #[] #[]) (Runs.idxA (i:=1) rfl rfl rfl aJ (zDk:yI Tryz.prog 368 4=true)) ?_;refine aB ?_;refine_lift bK fun _ _ => ?_;refine aG (Runs.loadN hpz2 rfl (zDk:eE Tryz.prog 365 6=true)) ?_;refine aB ?_;refine dV (enters_of Tryz.func235 rfl rfl) rfl rfl rfl (UQ J v1 v2 _ (o1.ext hx) (o2.ext hx) hJd) ?_;rintro e w10 ⟨rfl,x10⟩;refine ⟨_,rfl,?_⟩;refine aB ?_;by_cases ck:J.alias.1=0
        ·refine_lift jD (fun _ => ?_) (fun _ => ?_)
         all_goals first
          | (exfalso;have hh:=‹(!decide (J.alias.1=0))=true›;simp [ck] at hh;done)
          | skip
         exact ⟨⟨2,aC,by go_num,hx.trans x10,fun _=>g0 aC,fun _=>ck,aC,aC⟩,by simp [intOf]⟩
        ·refine_lift jD (fun _ => ?_) (fun _ => ?_)
         all_goals first
          | (exfalso;have hh:=‹(!decide (J.alias.1=0))=false›;simp [ck] at hh;done)
          | skip
         go_ret2;exact ⟨by rw [hE,if_neg (by rw [g0 aC];decide),if_pos ck];rfl,(hx9.trans hx).trans x10⟩
       ·refine_lift rS ?_;intro _ _ _ _ _ _;refine aG (v:=.func (.func 236) #[] #[]) (Runs.idxA (i:=2) rfl rfl rfl aJ (zDk:yI Tryz.prog 368 4=true)) ?_;refine aB ?_;refine_lift bK fun _ _ => ?_;refine aG (Runs.loadN hpz2 rfl (zDk:eE Tryz.prog 365 6=true)) ?_;refine aB ?_;refine dV (enters_of Tryz.func236 rfl rfl) rfl rfl rfl (RC J v1 v2 _ (o1.ext hx) (o2.ext hx)) ?_;rintro e w10 ⟨rfl,x10⟩;refine ⟨_,rfl,?_⟩;refine aB ?_;by_cases ck:J.denial.1=0
        ·refine_lift jD (fun _ => ?_) (fun _ => ?_)
         all_goals first
          | (exfalso;have hh:=‹(!decide (J.denial.1=0))=true›;simp [ck] at hh;done)
          | skip
         exact ⟨⟨3,aC,by go_num,hx.trans x10,fun _=>g0 aC,fun _=>g1 aC,fun _=>ck,aC⟩,by simp [intOf]⟩
        ·refine_lift jD (fun _ => ?_) (fun _ => ?_)
         all_goals first
          | (exfalso;have hh:=‹(!decide (J.denial.1=0))=false›;simp [ck] at hh;done)
          | skip
         go_ret2;exact ⟨by rw [hE,if_neg (by rw [g0 aC];decide),if_neg (by rw [g1 aC];decide),if_pos ck];rfl,(hx9.trans hx).trans x10⟩
       ·refine_lift rS ?_;intro _ _ _ _ _ _;refine aG (v:=.func (.func 237) #[] #[]) (Runs.idxA (i:=3) rfl rfl rfl aJ (zDk:yI Tryz.prog 368 4=true)) ?_;refine aB ?_;refine_lift bK fun _ _ => ?_;refine aG (Runs.loadN hpz2 rfl (zDk:eE Tryz.prog 365 6=true)) ?_;refine aB ?_;refine dV (enters_of Tryz.func237 rfl rfl) rfl rfl rfl (JY J v1 v2 _ (o1.ext hx) (o2.ext hx)) ?_;rintro e w10 ⟨rfl,x10⟩;refine ⟨_,rfl,?_⟩;refine aB ?_;by_cases ck:J.referral.1=0
        ·refine_lift jD (fun _ => ?_) (fun _ => ?_)
         all_goals first
          | (exfalso;have hh:=‹(!decide (J.referral.1=0))=true›;simp [ck] at hh;done)
          | skip
         exact ⟨⟨4,aC,by go_num,hx.trans x10,fun _=>g0 aC,fun _=>g1 aC,fun _=>g2 aC,fun _=>ck⟩,by simp [intOf]⟩
        ·refine_lift jD (fun _ => ?_) (fun _ => ?_)
         all_goals first
          | (exfalso;have hh:=‹(!decide (J.referral.1=0))=false›;simp [ck] at hh;done)
          | skip
         go_ret2;exact ⟨by rw [hE,if_neg (by rw [g0 aC];decide),if_neg (by rw [g1 aC];decide),if_neg (by rw [g2 aC];decide)];rfl,(hx9.trans hx).trans x10⟩
       ·exact absurd (g3 aC) J.referral_ne)
   ·have hE:fF qn qt m z=(0,[]):=by rw [fF,if_pos (.inr (.inr ⟨fun h=>hok (.inl h),fun h=>hok (.inr h)⟩))]
    (repeat' first | ((with_reducible refine bH ?_);go_step) | ((with_reducible refine aV ?_);first | refine dR ?_ | (refine bO ?_ ?_ <;> intro hc)) | fail)
    all_goals first
     | (exfalso;apply hok;left;simpa using ‹(!decide (m.rcode=0))=false›;done)
     | (exfalso;apply hok;right;simpa using ‹(!decide (m.rcode=3))=false›;done)
     | skip
    go_ret2;exact ⟨by rw [hE];rfl,hx3⟩
structure Fr (b:Nat) (gv:Value) (w w':World):Prop where
 size:w.heap.size≤w'.heap.size
 block:∀ j,j < w.heap.size→j≠b→gv.ownBlock≠some j→w'.heap[j]? = w.heap[j]?
theorem Fr.mv {gv:Value} (h:Fr b gv w w1) (hm:Mv row w1 w2) (hr:∀ c,row=some c→c=b∨gv.ownBlock=some c∨w.heap.size≤c):Fr b gv w w2 :=
 ⟨Nat.le_trans h.size hm.size,fun j hj hb hg=>by
  rw [hm.block j (Nat.lt_of_lt_of_le hj h.size) (by
   intro e;rcases hr j e.symm with e1 | e1 | e1
   ·exact hb e1
   ·exact hg e1
   ·omega),h.block j hj hb hg]⟩
theorem Fr.ext {gv:Value} (h:Fr b gv w w1) (hx:Ext w1 w2):Fr b gv w w2:=h.mv (hx.mv none) (by intro c e;cases e)
theorem Fr.of {gv:Value} (hx:Ext w w1):Fr b gv w w1:=⟨hx.size,fun j hj _ _=>hx.block j hj⟩
def RRet (w0 w:World) (b:Nat) (gv:Value) (r:TaskR × ActR × List LrnR) (e:Ending) (w':World):Prop :=
 ∃ u l,e=.returned (.tuple #[u,l])∧ActRet w0 b (r.1,r.2.1) u w'∧LrnsV w.heap.size w' l r.2.2∧Fr b gv w w'
theorem ActRet.ext {r:TaskR × ActR} (h:ActRet w0 b r u w) (hx:Ext w w'):ActRet w0 b r u w':=⟨h.1.ext hx,h.2.grow hx⟩
theorem RRet.box {r:TaskR × ActR} {lr:List LrnR} {gv l:Value} (hu:ActRet w0 b r u w1) (hf:Fr b gv w w1) (hc:w1.heap[c]? = some (.cells eV.toArray 201 (0,0))) (hg:w.heap.size≤c) (h0:w0.heap.size≤w.heap.size)
 (hl:LrnsV B w1 l lr) (hB:c < B) (hp:Put w1 w2 c (.cells u.cells 201 (0,0))):∃ u1 u2,u=.agg (dU r.2 u1 u2).toArray∧RRet w0 w b gv (r.1,r.2,lr) (.returned (.tuple #[.agg (dU r.2 u1 u2).toArray,l])) w2:=by
 obtain ⟨u1,u2,e,q1,q2⟩:=(hu.1.put hp hc aJ).out;obtain ⟨rv,sv,gv,ev,hT⟩:=hu.2;exact ⟨u1,u2,e,_,_,rfl,⟨⟨u1,u2,rfl,q1,q2⟩,rv,sv,gv,ev,hT.other hp hc (Nat.le_trans h0 hg)⟩,(hl.mvb hp.mv hB).weaken aC,hf.mv hp.mv (by rintro k ⟨⟩;exact .inr (.inr hg))⟩
theorem AH (a b:List Rec):aF (a ++ b)=aF a ++ aF b:=List.map_append
theorem TRet.tup {r:TaskR × ActR} {gv:Value} (h:TRet w0 w b r (.returned u) w'):RRet w0 w b gv (r.1,r.2,[]) (.returned (.tuple #[u, .slice none 0 0])) w':=by
 obtain ⟨u',e,h1,h2⟩:=h;cases e
 exact ⟨u,_,rfl,h1,LrnsV.nil _ _,h2.size,fun j hj hb _=>h2.block j hj (by intro e;exact hb (Option.some.inj e))⟩
theorem Own.cut1 (h:Own B k e w v es) (h1:1≤es.length):Own B k e w (dD v k 0 1) (es.take 1):=by
 rcases h.form with ⟨_,rfl⟩ | ⟨g,cap,rfl,_⟩
 ·simp at h1
 ·have:=h.short h1
  simpa [dD,Addr.add] using this
theorem TaskV.gotp {t:TaskR} {rv sv gv gv' ev:Value} {l:List Rec} (h:TaskV w0 w b t rv sv gv ev) (hs:t.stop=none) (hm:Mv gv.ownBlock w w1) (o1:Own w0.heap.size 4 37 w1 gv' (aF l))
 (hp:Put w1 w2 b (.cells (fP { t with got:=l } rv sv gv' ev).toArray 273 (0,0))):TaskV w0 w2 b { t with got:=l } rv sv gv' ev:=by
 have b1:=hm.at h.blk (fun e=>h.gs.neBlock h.blk aJ e.symm);have r1:=h.rs.mv hm (h.rs.ne h.gs aJ);have s1:OwnOff w0.heap.size 1 3 w1 sv (bI t.servers):=h.ss.mv hm (by
  rcases h.ss.neOwn h.gs aJ with e | e
  ·cases hv:sv.ownBlock with
   | none=>exact .inl rfl
   | some r=>exact .inr (by rw [e];simp)
  ·exact .inr fun e'=>e e'.symm)
 refine ⟨h.ge,(h.ext.move hm (fun k hk=>(h.gs.block k hk).1)).move hp.mv (by rintro k ⟨⟩;exact h.ge),hp.this,r1.mv hp.mv (.inr (r1.neBlock b1 aJ)),s1.mv hp.mv (.inr (s1.neBlock b1 aJ)),o1.mv hp.mv (.inr (o1.neBlock b1 aJ)),?_⟩;have he:=h.es;rw [hs] at he;show StopV w0.heap.size w2 ev t.stop;rw [hs];exact he
theorem UY {n:Nat} {t:TaskR} {rv sv gv ev:Value} (h:TaskV w0 w b t rv sv gv ev) (hB:TaskB t n) (hn:n≤100000) (m:MsgR) (q a u e:Value) (hm:∀ w',Mv (some b) w w'→MsgV w' m q a u e) (h1:m.an.length≤300) (h2:m.au.length≤300) (h3:m.ex.length≤300) (hd1:∀ z,∀ r ∈ t.of m.au z 2,r.data.length≤9223372036854775807) (hd2:∀ n,∀ r ∈ t.of m.ex n 1,r.data.length≤9223372036854775807) :
 Calls Tryz.prog 137 #[.pointer (some ⟨b,0,none⟩), .agg (aO m q a u e).toArray] w (RRet w0 w b gv (t.reply m)):=by
 have hp:=aA (cs:=fP t rv sv gv ev) h.blk;go_enter Tryz.func137,Tryz.ntmps137
 refine_lift mO fun _ _ => ?_;refine jP (vs:=aO m q a u e) fun w1 x1 s1 hb1 => ?_;refine aB ?_;have hp1:=aA (cs:=aO m q a u e) hb1;have hpt1:=hp.ext x1;refine_lift aR ?_;refine dT (z:=eV) fun w2 x2 s2 hb2 => ?_;refine aB ?_;have hp2:=hp1.ext x2;have hpt2:=hpt1.ext x2;have he:=h.es;have hh2:=h.grow (x1.trans x2);cases hst:t.stop with
 | some a' =>
  rw [hst] at he;obtain ⟨c,v1,v2,rfl,hc,hcb,o1,o2,-⟩:=he;have hE:t.reply m=(t,a',[]):=by rw [TaskR.reply,hst]
  have hst':=hB.stop a' hst;refine_lift mP fun _ _ _ _ => ?_;refine rP (LG ⟨_,_,_,_,hh2⟩ hst aC aC) fun u' w4 x4 hu => ?_;have h14:=x4.at hb2;refine cZ (v:=u') rfl rfl rfl h14 (by rw [hu.1.size];exact (zDk:dG Tryz.prog 201 7=true)) (by rw [hu.1.size];rfl) hu.1.one ?_;intro w5 p5;obtain ⟨u1,u2,rfl,hr⟩:=TRet.box hu (((x1.trans x2).trans x4).mv (some b)) h14 x1.size h.ext.size p5;refine_lift aR ?_;refine tN (cs:=dU a' u1 u2) p5.this ?_;rw [hE];exact hr.tup
 | none =>
  rw [hst] at he;have hev:ev=.pointer none:=he;subst hev;have hfr:∀ w',Mv (some b) w w'→MsgV w' m q a u e:=hm;refine_lift DZ (fun _ _ _ => ?_) (fun _ _ _ => ?_)
  all_goals (
   have hR:HR m=if m.auth=true then 4 else 3:=rfl
   simp only [‹m.auth=_›,if_true,if_false,Bool.false_eq_true] at hR;refine aG (v:=.agg #[aE t.qn, .int .i64 t.qt]) (Runs.loadN ((hpt2.part 0).front 2) rfl (zDk:eE Tryz.prog 25 2=true)) ?_;refine aB ?_;refine dT (z:=[aE [], .int .i64 0]) fun w3 x3 s3 h3' => ?_;refine aB ?_;refine dH (v:=.agg #[aE t.qn, .int .i64 t.qt]) h3' (by simp [Value.cells,show ∀ s,(aE s).oneCell'=true from fun _=>rfl,show ∀ n,(Value.int .i64 n).oneCell'=true from fun _=>rfl]) fun w4 p4 => ?_;have x4:=cB x3 p4;have hbq:w4.heap[w2.heap.size]? = some (.cells [aE t.qn, .int .i64 t.qt].toArray 25 (0,0)):=p4.this;have hpq:=aA hbq;have hp4:=hp2.ext x4;have hpt4:=hpt2.ext x4;have hh4:=hh2.grow x4;have hm4:=hm _ (((x1.trans x2).trans x4).mv _);clear p4 h3' x3 hp hp1 hpt1 hp2 hpt2;refine_lift bK fun _ _ => ?_;have hJ:=fun w (h:MsgV w m q a u e)=>UX t.qn t.qt m q a u e t.zone w h aC aC;generalize hjj:fF t.qn t.qt m t.zone=jj at *;refine dA (S:=fun w'=>Ext w4 w') zDk ?_;intro w5 x5 _;refine dJ (i:=0) (v:=.agg #[aE t.qn, .int .i64 t.qt]) rfl rfl zDk zDk zDk rfl x5 (fun w' c=>Runs.loadN (hpq.ext c) rfl (zDk:eE Tryz.prog 25 2=true)) (fun _ _ _ h=>h) ?_;refine aB ?_;refine dJ (i:=1) (v:=.agg (aO m q a u e).toArray) rfl rfl zDk zDk zDk rfl x5 (fun w' c=>Runs.loadN (hp4.ext c) rfl (zDk:eE Tryz.prog 54 13=true)) (fun _ _ _ h=>h) ?_;refine aB ?_;refine dL 2 ?_;refine aB ?_;refine dL 3 ?_;refine aB ?_;refine dL 4 ?_;refine aB ?_;refine dL 5 ?_;refine aB ?_;refine cK (i:=6) zDk rfl rfl ?_;refine bZ (hJ _ (hm4.ext x5)) fun w6 x6 => ?_;have x46:=x5.trans x6;refine aD ⟨x46,?_⟩;refine dL 7 ?_;refine aB ?_;refine dL 8 ?_;refine aB ?_;refine dL 9 ?_;refine aB ?_;refine dL 10 ?_;refine aB ?_;refine dL 11 ?_;refine aB ?_;refine cP zDk ?_;have hp6:=hp4.ext x46;have hpt6:=hpt4.ext x46;have hpq6:=hpq.ext x46;have hh6:=hh4.grow x46;have hb6:=(x4.trans x46).at hb2;have x06:=x1.trans (x2.trans (x4.trans x46));clear hp4 hpt4 hpq hh4 hm4 hbq;have hm6:=hm _ (x06.mv _);by_cases k1:jj.1=1
   ·have hE:t.reply m=(({ t with got:=t.got ++ t.of m.an t.qn t.qt }.done 0 (t.got ++ t.of m.an t.qn t.qt) []).1,({ t with got:=t.got ++ t.of m.an t.qn t.qt }.done 0 (t.got ++ t.of m.an t.qn t.qt) []).2,fO (t.of m.an t.qn t.qt) (HR m)):=by
     unfold TaskR.reply;simp only [hst,hjj,k1,if_true]
    refine_lift EA fun _ _ _ _ _ => ?_;refine rP (NO ⟨_,_,_,_,hh6⟩ a m.an t.qn t.qt hm6.an aC) fun lv w7 x7 o7 => ?_;have hLl:=nH t m.an t.qn t.qt;generalize hL:t.of m.an t.qn t.qt=L at *;have hh7:=hh6.grow x7;have hpt7:=hpt6.ext x7;have hb7:=x7.at hb6;have hgb:∀ r,gv.ownBlock=some r→w0.heap.size≤r∧r < w.heap.size:=h.gs.block;have hgl:=hB.got;have sz06:=x06.size;refine_lift bK fun _ _ => ?_;refine bW (v0:=gv) (es:=aF t.got) (fs:=aF L) rfl hh7.gs rfl o7.sl gM hh7.ext.size (by rw [aK,aK];omega) ?_;intro gv8 w8 o8 m8 hk8;refine aB ?_;have o8':Own w0.heap.size 4 37 w8 gv8 (aF (t.got ++ L)):=by rw [AH];exact o8
    have b8:=m8.at hh7.blk (fun e=>hh7.gs.neBlock hh7.blk aJ e.symm);have lvb:lv.ownBlock=none∨lv.ownBlock≠gv.ownBlock:=by
     cases hv:lv.ownBlock with
     | none=>exact .inl rfl
     | some r =>
      refine .inr fun e => ?_;have q1:=(o7.block r hv).1;have q2:=(hgb r e.symm).2;omega
    have l8:=o7.mv m8 lvb;refine_lift aR ?_;refine eZ 5 gv8 b8 o8'.one fun w9 p9 => ?_;have hT9:=hh7.gotp hst m8 o8' p9;have hbn:=(Array.getElem?_eq_some_iff.1 h.blk).1;have sz1:=x1.size;have hn9:some w1.heap.size≠some b:=by intro e;have:=Option.some.inj e;omega
    have hb9:=p9.mv.at (m8.at hb7 (by intro e;have:=hgb _ e.symm;omega)) hn9;have l9:=eJ l8 p9 b8;have o9:=eJ o8' p9 b8;have hpt9:=aA (cs:=fP { t with got:=t.got ++ L } rv sv gv8 (.pointer none)) hT9.blk;have f9:Fr b gv w w9:=((Fr.of (x06.trans x7)).mv m8 (fun c hc=>.inr (.inl hc))).mv p9.mv (by rintro c ⟨⟩;exact .inl rfl);clear hpt6 hpt7 hp6 hpq6 o8 l8;refine_lift bK fun _ _ => ?_;refine gI (ER hT9 0 gv8 (.slice none 0 0) (t.got ++ L) [] o9 (Own.nil _ _ _ _) (by rw [List.length_append];omega) aJ) ?_;rintro e10 w10 ⟨u10,rfl,hu10,hm10⟩;refine ⟨_,rfl,?_⟩;refine aB ?_;have l10:=l9.mv hm10 (.inr (l9.neBlock hT9.blk aJ));have hb10:=hm10.at hb9 hn9;refine_lift aR ?_;refine rP (uG lv L _ _ l10.sl aC) fun ll w11 x11 l11 => ?_;have hu11:=hu10.ext x11;have hb11:=x11.at hb10;have f11:=(f9.mv hm10 (by rintro c ⟨⟩;exact .inl rfl)).ext x11;have szb:=(Array.getElem?_eq_some_iff.1 hb10).1;refine cZ (v:=u10) rfl rfl rfl hb11 (by rw [hu11.1.size];exact (zDk:dG Tryz.prog 201 7=true)) (by rw [hu11.1.size];rfl) hu11.1.one ?_;intro w12 p12;obtain ⟨u1,u2,rfl,hr⟩:=RRet.box hu11 f11 hb11 sz1 h.ext.size l11 szb p12;refine_lift aR ?_;refine tN (cs:=dU _ u1 u2) p12.this ?_;rw [hE,hR];exact hr
   ·by_cases k5:jj.1=5
    ·have hE:t.reply m=(({ t with got:=t.got ++ (t.of m.an t.qn 5).take 1 }.follow jj.2).1,({ t with got:=t.got ++ (t.of m.an t.qn 5).take 1 }.follow jj.2).2,fO ((t.of m.an t.qn 5).take 1) (HR m)):=by
      unfold TaskR.reply;simp only [hst,hjj,k5,if_true,if_neg (show ¬ (5:Int)=1 by decide)]
     have hne:=RH (t:=t) (m:=m) (by rw [hjj];exact k5);refine_lift rS fun _ _ _ _ _ _ => ?_;refine rP (NO ⟨_,_,_,_,hh6⟩ a m.an t.qn 5 hm6.an aC) fun lv w7 x7 o7 => ?_;have hLl:=nH t m.an t.qn 5;generalize hL:t.of m.an t.qn 5=L at *;have hh7:=hh6.grow x7;have hpt7:=hpt6.ext x7;have hb7:=x7.at hb6;have s7:=o7.sl;have hcL:=aK L;have hgb:∀ r,gv.ownBlock=some r→w0.heap.size≤r∧r < w.heap.size:=h.gs.block;have hgl:=hB.got;have sz06:=x06.size;have hcut:∀ {w:World},Sl 4 w lv (aF L)→Sl 4 w (dD lv 4 0 1) (aF (L.take 1)):=fun h=>by
      have:=h.cut (m:=0) (n:=1) aC aC;rw [List.drop_zero] at this;rw [aF,List.map_take];exact this
     refine_lift bK fun _ _ => ?_;refine bW (v0:=gv) (es:=aF t.got) (fs:=aF (L.take 1)) rfl hh7.gs rfl (hcut o7.sl) gM hh7.ext.size (by rw [aK,aK,List.length_take];omega) ?_;intro gv8 w8 o8 m8 hk8;refine aB ?_;have o8':Own w0.heap.size 4 37 w8 gv8 (aF (t.got ++ L.take 1)):=by rw [AH];exact o8
     have b8:=m8.at hh7.blk (fun e=>hh7.gs.neBlock hh7.blk aJ e.symm);have lvb:lv.ownBlock=none∨lv.ownBlock≠gv.ownBlock:=by
      cases hv:lv.ownBlock with
      | none=>exact .inl rfl
      | some r =>
       refine .inr fun e => ?_;have q1:=(o7.block r hv).1;have q2:=(hgb r e.symm).2;omega
     have l8:=o7.mv m8 lvb;refine_lift aR ?_;refine eZ 5 gv8 b8 o8'.one fun w9 p9 => ?_;have hT9:=hh7.gotp hst m8 o8' p9;have hbn:=(Array.getElem?_eq_some_iff.1 h.blk).1;have sz1:=x1.size;have hn9:some w1.heap.size≠some b:=by intro e;have:=Option.some.inj e;omega
     have hb9:=p9.mv.at (m8.at hb7 (by intro e;have:=hgb _ e.symm;omega)) hn9;have l9:=eJ l8 p9 b8;have o9:=eJ o8' p9 b8;have hpt9:=aA (cs:=fP { t with got:=t.got ++ L.take 1 } rv sv gv8 (.pointer none)) hT9.blk;have f9:Fr b gv w w9:=((Fr.of (x06.trans x7)).mv m8 (fun c hc=>.inr (.inl hc))).mv p9.mv (by rintro c ⟨⟩;exact .inl rfl);clear hpt6 hpt7 hp6 hpq6 o8 l8;refine_lift bK fun _ _ => ?_;refine gI (RJ ⟨_,_,_,_,hT9⟩ jj.2 hB.l0 (Int.le_trans hB.l1 aJ) hB.c0 hB.c1) ?_;rintro e10 w10 ⟨u10,rfl,hu10,hm10⟩;refine ⟨_,rfl,?_⟩;refine aB ?_;have l10:=l9.mv hm10 (.inr (l9.neBlock hT9.blk aJ));have hb10:=hm10.at hb9 hn9;refine_lift aR ?_;refine rP (uG (dD lv 4 0 1) (L.take 1) _ _ (hcut l10.sl) (by rw [List.length_take];omega)) fun ll w11 x11 l11 => ?_;have hu11:=hu10.ext x11;have hb11:=x11.at hb10;have f11:=(f9.mv hm10 (by rintro c ⟨⟩;exact .inl rfl)).ext x11;have szb:=(Array.getElem?_eq_some_iff.1 hb10).1;refine cZ (v:=u10) rfl rfl rfl hb11 (by rw [hu11.1.size];exact (zDk:dG Tryz.prog 201 7=true)) (by rw [hu11.1.size];rfl) hu11.1.one ?_;intro w12 p12;obtain ⟨u1,u2,rfl,hr⟩:=RRet.box hu11 f11 hb11 sz1 h.ext.size l11 szb p12;refine_lift aR ?_;refine tN (cs:=dU _ u1 u2) p12.this ?_;rw [hE,hR];exact hr
    ·have hm6':=hm6;by_cases k3:jj.1=3
     ·have hE:t.reply m=((t.done 3 t.got ((t.of m.au jj.2 6).take 1)).1,(t.done 3 t.got ((t.of m.au jj.2 6).take 1)).2,[]):=by
       unfold TaskR.reply;simp only [hst,hjj,k3,if_true,if_neg (show ¬ (3:Int)=1 by decide),if_neg (show ¬ (3:Int)=5 by decide)]
      have hne:=DI (t:=t) (m:=m) (by rw [hjj];exact .inr k3);rw [hjj] at hne;have hLl:=nH t m.au jj.2 6;have hof:=fun w (h:TaskV w0 w b t rv sv gv (.pointer none)) (hmm:MsgV w m q a u e)=>NO ⟨_,_,_,_,h⟩ u m.au jj.2 6 hmm.au aC;generalize hL:t.of m.au jj.2 6=L at *;have hcL:=aK L;have hgl:=hB.got;refine_lift Dq fun _ _ _ _ _ _ _ => ?_;refine aP 11 (Ext w6) zDk ?_;intro w7 x7 _;refine ⟨x7,?_⟩;refine bE 0 ?_;refine bE 1 ?_;refine bE 2 ?_;refine bE 3 ?_;refine bE 4 ?_;refine bE 5 ?_;refine bE 6 ?_;refine bE 7 ?_;refine bE 8 ?_;refine dM 9 ?_;refine rP (hof _ (hh6.grow x7) (hm6.ext x7)) fun lv w8 x8 o8 => ?_;have x68:=x7.trans x8;refine aD ⟨aS x68,?_⟩;have sL:=o8.sl;refine dM 10 ?_
      ((with_reducible refine aV ?_);(first | (refine gW ?_;refine eW ?_) | (refine mA ?_;refine nQ ?_;(with_reducible refine aV ?_);refine gW ?_;refine eW ?_)))
      refine aD ⟨aS x68,?_⟩;have hh8:=hh6.grow x68;have szx:=x68.size;have o8c:Own w0.heap.size 4 37 w8 (dD lv 4 0 1) (aF (L.take 1)):=by
       have:=o8.cut1 aC;rw [aF,List.map_take];exact this.weaken (by have:=h.ext.size;have:=x06.size;have:=x7.size;omega)
      refine dM 11 ?_;refine gI (ER hh8 3 gv (dD lv 4 0 1) t.got (L.take 1) hh8.gs o8c aC (by rw [List.length_take];omega)) ?_;rintro e9 w9 ⟨u9,rfl,hu9,hm9⟩;refine ⟨_,rfl,?_⟩;refine aB ?_;refine aD ⟨aN rfl,?_⟩;refine dM 12 ?_;have sz1:=x1.size;have hbn:=(Array.getElem?_eq_some_iff.1 h.blk).1;have hn9:some w1.heap.size≠some b:=by intro e;have:=Option.some.inj e;omega
      have hb9:=hm9.at (x68.at hb6) hn9;refine cZ (v:=u9) rfl rfl rfl hb9 (by rw [hu9.1.size];exact (zDk:dG Tryz.prog 201 7=true)) (by rw [hu9.1.size];rfl) hu9.1.one ?_;intro w10 p10;refine aD ⟨aN rfl,?_⟩;obtain ⟨u1,u2,rfl,hr⟩:=TRet.box hu9 (((x06.trans x68).mv (some b)).trans hm9) hb9 sz1 h.ext.size p10;refine dM 13 ?_
      ((with_reducible refine aV ?_);(first | (refine gW ?_;refine eW ?_) | (refine mA ?_;refine nQ ?_;(with_reducible refine aV ?_);refine gW ?_;refine eW ?_)))
      refine aD ⟨aN rfl,?_⟩;refine kK ?_;refine_lift aR ?_;refine tN (cs:=dU _ u1 u2) p10.this ?_;rw [hE];exact hr.tup
     ·by_cases k2:jj.1=2
      ·have hE:t.reply m=((t.done 0 t.got ((t.of m.au jj.2 6).take 1)).1,(t.done 0 t.got ((t.of m.au jj.2 6).take 1)).2,[]):=by
        unfold TaskR.reply;simp only [hst,hjj,k2,if_true,if_neg (show ¬ (2:Int)=1 by decide),if_neg (show ¬ (2:Int)=5 by decide),if_neg (show ¬ (2:Int)=3 by decide)]
       have hne:=DI (t:=t) (m:=m) (by rw [hjj];exact .inl k2);rw [hjj] at hne;have hLl:=nH t m.au jj.2 6;have hof:=fun w (h:TaskV w0 w b t rv sv gv (.pointer none)) (hmm:MsgV w m q a u e)=>NO ⟨_,_,_,_,h⟩ u m.au jj.2 6 hmm.au aC;generalize hL:t.of m.au jj.2 6=L at *;have hcL:=aK L;have hgl:=hB.got
       (repeat' first | ((with_reducible refine bH ?_);go_step) | ((with_reducible refine aV ?_);first | refine dR ?_ | (refine bO ?_ ?_ <;> intro hc)) | fail)
       refine aP 11 (Ext w6) zDk ?_;intro w7 x7 _;refine ⟨x7,?_⟩;refine bE 0 ?_;refine bE 1 ?_;refine bE 2 ?_;refine bE 3 ?_;refine bE 4 ?_;refine bE 5 ?_;refine bE 6 ?_;refine bE 7 ?_;refine bE 8 ?_;refine dM 9 ?_;refine rP (hof _ (hh6.grow x7) (hm6.ext x7)) fun lv w8 x8 o8 => ?_;have x68:=x7.trans x8;refine aD ⟨aS x68,?_⟩;have sL:=o8.sl;refine dM 10 ?_
       ((with_reducible refine aV ?_);(first | (refine gW ?_;refine eW ?_) | (refine mA ?_;refine nQ ?_;(with_reducible refine aV ?_);refine gW ?_;refine eW ?_)))
       refine aD ⟨aS x68,?_⟩;have hh8:=hh6.grow x68;have szx:=x68.size;have o8c:Own w0.heap.size 4 37 w8 (dD lv 4 0 1) (aF (L.take 1)):=by
        have:=o8.cut1 aC;rw [aF,List.map_take];exact this.weaken (by have:=h.ext.size;have:=x06.size;have:=x7.size;omega)
       refine dM 11 ?_;refine gI (ER hh8 0 gv (dD lv 4 0 1) t.got (L.take 1) hh8.gs o8c aC (by rw [List.length_take];omega)) ?_;rintro e9 w9 ⟨u9,rfl,hu9,hm9⟩;refine ⟨_,rfl,?_⟩;refine aB ?_;refine aD ⟨aN rfl,?_⟩;refine dM 12 ?_;have sz1:=x1.size;have hbn:=(Array.getElem?_eq_some_iff.1 h.blk).1;have hn9:some w1.heap.size≠some b:=by intro e;have:=Option.some.inj e;omega
       have hb9:=hm9.at (x68.at hb6) hn9;refine cZ (v:=u9) rfl rfl rfl hb9 (by rw [hu9.1.size];exact (zDk:dG Tryz.prog 201 7=true)) (by rw [hu9.1.size];rfl) hu9.1.one ?_;intro w10 p10;refine aD ⟨aN rfl,?_⟩;obtain ⟨u1,u2,rfl,hr⟩:=TRet.box hu9 (((x06.trans x68).mv (some b)).trans hm9) hb9 sz1 h.ext.size p10;refine dM 13 ?_
       ((with_reducible refine aV ?_);(first | (refine gW ?_;refine eW ?_) | (refine mA ?_;refine nQ ?_;(with_reducible refine aV ?_);refine gW ?_;refine eW ?_)))
       refine aD ⟨aN rfl,?_⟩;refine kK ?_;refine_lift aR ?_;refine tN (cs:=dU _ u1 u2) p10.this ?_;rw [hE];exact hr.tup
      ·by_cases k4:jj.1=4
       ·have hE:t.reply m=((t.refer m jj.2).1.on.1,(t.refer m jj.2).1.on.2,(t.refer m jj.2).2):=by
         unfold TaskR.reply;simp only [hst,hjj,k4,if_true,if_neg (show ¬ (4:Int)=1 by decide),if_neg (show ¬ (4:Int)=5 by decide),if_neg (show ¬ (4:Int)=3 by decide),if_neg (show ¬ (4:Int)=2 by decide)]
        (repeat' first | ((with_reducible refine bH ?_);go_step) | ((with_reducible refine aV ?_);first | refine dR ?_ | (refine bO ?_ ?_ <;> intro hc)) | fail)
        refine aG (v:=.agg (aO m q a u e).toArray) (Runs.loadN hp6 rfl (zDk:eE Tryz.prog 54 13=true)) ?_;refine aB ?_;refine_lift aR ?_;refine gI (UT ⟨_,_,_,_,hh6⟩ m q a u e jj.2 (fun w' h'=>hm w' ((x06.mv _).trans h')) hst aC aC (hd1 jj.2) (hd2)) ?_;rintro e7 w7 ⟨ll,rfl,l7,hT7,hm7⟩;refine ⟨_,rfl,?_⟩;refine aB ?_;have sz1:=x1.size;have hbn:=(Array.getElem?_eq_some_iff.1 h.blk).1;have hn9:some w1.heap.size≠some b:=by intro e;have:=Option.some.inj e;omega
        have hb7:=hm7.at hb6 hn9;refine_lift bK fun _ _ => ?_;refine gI (UU hT7 hB.l0 (Int.le_trans hB.l1 aJ)) ?_;rintro e8 w8 ⟨u8,rfl,hu8,hm8⟩;refine ⟨_,rfl,?_⟩;refine aB ?_;have szb6:=(Array.getElem?_eq_some_iff.1 hb6).1;have l8:=l7.mvb hm8 (by have:=x06.size;omega);have hb8:=hm8.at hb7 hn9;have f8:=((Fr.of x06).mv hm7 (gv:=gv) (b:=b) (by rintro c ⟨⟩;exact .inl rfl)).mv hm8 (by rintro c ⟨⟩;exact .inl rfl);refine_lift aR ?_;refine cZ (v:=u8) rfl rfl rfl hb8 (by rw [hu8.1.size];exact (zDk:dG Tryz.prog 201 7=true)) (by rw [hu8.1.size];rfl) hu8.1.one ?_;intro w12 p12;obtain ⟨u1,u2,rfl,hr⟩:=RRet.box hu8 f8 hb8 sz1 h.ext.size l8 szb6 p12;refine_lift aR ?_;refine tN (cs:=dU _ u1 u2) p12.this ?_;rw [hE];exact hr
       ·have hE:t.reply m=(t.on.1,t.on.2,[]):=by
         unfold TaskR.reply;simp only [hst,hjj,if_neg k1,if_neg k5,if_neg k3,if_neg k2,if_neg k4]
        refine_lift Dq fun _ _ _ _ _ _ _ => ?_;refine gI (UU ⟨_,_,_,_,hh6⟩ hB.l0 (Int.le_trans hB.l1 aJ)) ?_;rintro e8 w8 ⟨u8,rfl,hu8,hm8⟩;refine ⟨_,rfl,?_⟩;refine aB ?_;have sz1:=x1.size;have hbn:=(Array.getElem?_eq_some_iff.1 h.blk).1;have hn9:some w1.heap.size≠some b:=by intro e;have:=Option.some.inj e;omega
        have hb8:=hm8.at hb6 hn9;refine cZ (v:=u8) rfl rfl rfl hb8 (by rw [hu8.1.size];exact (zDk:dG Tryz.prog 201 7=true)) (by rw [hu8.1.size];rfl) hu8.1.one ?_;intro w10 p10;obtain ⟨u1,u2,rfl,hr⟩:=TRet.box hu8 ((x06.mv (some b)).trans hm8) hb8 sz1 h.ext.size p10;refine_lift aR ?_;refine tN (cs:=dU _ u1 u2) p10.this ?_;rw [hE];exact hr.tup)
section
variable {P:Program} {a:Act} {w:World} {d:Option Nat} {ty:TypeId} {ps:String} {af:Array Edge} {g:Option (Nat × Bool)}
end
section
variable {P:Program} {w:World} {ts:List Value} {df:List Deferred} {d:Option Nat} {ty:TypeId} {ps:String} {af:Array Edge} {g:Option (Nat × Bool)}
end
theorem ZF (n:Int) (w:World):Calls Tryz.prog 193 #[.int .i64 n] w (aY w (.bool (!(decide (0≤n) && decide (n≤99))))):=by
 go_enter Tryz.func193,Tryz.ntmps193
 refine_lift bK fun _ _ => ?_;refine bZ (XD n 0 99 _) fun w1 x1 => ?_;refine_lift aR ?_;go_ret;exact ⟨rfl,x1⟩
def XI (f:FuncId) (l:List Int) (p:Int→Bool):Prop:=∀ n ∈ l,∀ w',Calls Tryz.prog f #[.int .i64 n] w' (aY w' (.bool (p n)))
theorem ES (v:Value) (l:List Int) (f:FuncId) (p:Int→Bool) (w:World) (hv:Sl 1 w v (bI l)) (he:Enters Tryz.prog f) (hf:XI f l p):Calls Tryz.prog 126 #[v, .func (.func f) #[] #[]] w (aY w (.int .i64 (oF p l))):=by
 have hle:=hv.le;have hlen:(bI l).length=l.length:=List.length_map ..;go_enter Tryz.func126,Tryz.ntmps126
 refine_lift bK fun _ _ => ?_;go_loopw [5,8] (fun _ i wr=>∃ k:Nat,k≤l.length∧i=.int .i64 k∧Ext w wr∧(l.take k).any p=false) (fun _ i _=>l.length - (intOf i).toNat)
 case atStart=>exact ⟨0,Nat.zero_le _,rfl,Ext.refl _,rfl⟩
 case round =>
  obtain ⟨k,hk,rfl,hx,hall⟩:=hrel;have hv2:=hv.ext hx;by_cases hlt:k < l.length
  ·have hpe:=hv2.elem (MW hlt);refine_lift rS ?_;intro _ _ _ _ _ _;refine dV he rfl rfl rfl (hf _ (List.getElem_mem hlt) _) ?_;rintro e w2 ⟨rfl,x2⟩;refine ⟨_,rfl,?_⟩;refine aB ?_;cases hp:p l[k] with
   | true =>
    refine_lift aR ?_;go_ret;exact ⟨by rw [vB hlt hall hp];rfl,hx.trans x2⟩
   | false =>
    refine_lift aR ?_;exact ⟨⟨k + 1,aC,by go_num,hx.trans x2,nZ hlt hall hp⟩,by simp [intOf];omega⟩
  ·have:k=l.length:=aC;subst this;rw [List.take_length] at hall;refine_lift iX fun _ => ?_;go_ret;exact ⟨by rw [vD hall];rfl,hx⟩
theorem pU (v:Value) (l:List Int) (f:FuncId) (p:Int→Bool) (w:World) (hv:Sl 1 w v (bI l)) (he:Enters Tryz.prog f) (hf:XI f l p):Calls Tryz.prog 67 #[v, .func (.func f) #[] #[]] w (aY w (.bool (l.any p))):=by
 go_enter Tryz.func67,Tryz.ntmps67
 refine_lift bK fun _ _ => ?_;refine bZ (ES v l f p _ hv he hf) fun w1 x1 => ?_;refine_lift aR ?_;go_ret;exact ⟨by rw [← tW];rfl,x1⟩
theorem HW (v:Value) (l:List Int) (w:World) (hv:Sl 1 w v (bI l)) (hl:l.length≤1000000):Calls Tryz.prog 69 #[v] w (kX w fun v' w'=>Own w.heap.size 1 3 w' v' (bI l)):=by
 have hlen:(bI l).length=l.length:=List.length_map ..;go_enter Tryz.func69,Tryz.ntmps69
 (repeat' first | ((with_reducible refine bH ?_);go_step) | ((with_reducible refine aV ?_);first | refine dR ?_ | (refine bO ?_ ?_ <;> intro hc)) | fail)
 ·have hn:=‹vX v=true›;go_ret;have:bI l=[]:=hv.isNil hn;refine ⟨_,rfl,Ext.refl _,?_⟩;rw [this];exact Own.nil _ _ _ _
 ·refine jY (t:=44) (e:=3) (k:=1) (bytes:=8) zDk rfl ?_;intro v2 w2 x2 s2 o2;refine aB ?_;refine_lift aR ?_;refine jX (B:=w.heap.size) (e:=3) (k:=1) (bytes:=8) (es:=[]) (fs:=bI l) rfl o2 rfl (hv.ext x2) zDk (by intro f hf u hu;obtain ⟨r,_,rfl⟩:=List.mem_map.1 hf;simp only [List.mem_cons,List.not_mem_nil,or_false] at hu;rcases hu with rfl;rfl) aC (by simp;omega) (by simp;omega) ?_;intro v3 w3 o3 m3;have x3:=o2.mvx m3 x2 (Nat.le_refl _);refine aB ?_;refine_lift aR ?_;go_ret;exact ⟨_,rfl,x3,o3⟩
section
variable {P:Program} {w:World} {ts:List Value} {df:List Deferred}
theorem iR {fn:Func} {q p r:Tmp} {t:TypeId} (h:fn.results=#[.tmp q, .cell p t, .tmp r]) {cs:List Value} {ty0:TypeId} {fr:Nat × Nat} (hp:ts.getD p undef=.pointer (some ⟨b,0,none⟩)) (hb:w.heap[b]? = some (.cells cs.toArray ty0 fr)) (ht:eE P t cs.length=true) :
 (results fn ts.toArray).run P w=.ok (.tuple #[ts.getD q undef, .agg cs.toArray,ts.getD r undef]) w:=by
 obtain ⟨u,ie,hu,hn,hie,hz⟩:=jT ht;have hl:=run_loadCells_list (P:=P) w ⟨b,0,none⟩ cs (fun j v hv=>by rw [cX,Nat.zero_add,cell_of_row w b j _ _ _ hb];simpa using hv);have hp':ts[p]?.getD undef=.pointer (some ⟨b,0,none⟩):=by simpa using hp
 simp [results,h,hp',asAddr,loadVar,Sem.run_bind,jU hu hn,sizeOf,typeInfo,hie,hz,hl,Result.andThen]
end
theorem NU {n a b:Int} {c:Bool} (h:(decide (a≤n) && decide (n≤b))=c):Calls Tryz.prog 192 #[.int .i64 n, .int .i64 a, .int .i64 b] w (aY w (.bool c)):=h ▸ XD n a b w
def qU (w:World) (qn:List UInt8) (qt:Int) (rl:List Int) (budget:Int) (r:Value) (w':World):Prop :=
 if nF qn qt rl budget=0 then ∃ b u,r=.tuple #[.pointer (some ⟨b,0,none⟩),u, .int .i64 0]∧ActRet w b (eF qn qt rl budget).on u w'
 else r=.tuple #[.pointer none, .agg eV.toArray, .int .i64 1]
theorem Cb (qn:List UInt8) (qt:Int) (v:Value) (rl:List Int) (budget:Int) (w:World) (hv:Sl 1 w v (bI rl)) (hl:rl.length≤1000000):Calls Tryz.prog 142 #[.agg #[aE qn, .int .i64 qt],v, .int .i64 budget] w (kX w (qU w qn qt rl budget)):=by
 have hle:=hv.le;have hlen:(bI rl).length=rl.length:=List.length_map ..;go_enter Tryz.func142,Tryz.ntmps142
 refine_lift mO fun _ _ => ?_;refine mW (vs:=[aE qn, .int .i64 qt]) fun pq w1 x1 hq => ?_;refine aB ?_;have hv1:=hv.ext x1;refine_lift aR ?_;refine dT (z:=eV) fun w2 x2 s2 h2 => ?_;refine aB ?_;have hq2:=hq.ext x2;refine_lift bK fun _ _ => ?_;have h27:=fun w=>OR qn w;by_cases c1:eX qn=0
 ·have e1:(aM qn).isSome=true:=by
   unfold eX at c1;split at c1
   ·assumption
   ·cases c1
  rw [e1,if_pos rfl] at h27;refine bT (enters_of Tryz.func52 rfl rfl) rfl rfl (h27 _) ?_;intro w3 x3;refine aB ?_;have hq3:=hq2.ext x3;by_cases c2:1≤qt∧qt≤65535
  ·refine_lift aR ?_;refine bT (enters_of Tryz.func192 rfl rfl) rfl rfl (NU (c:=true) (by rw [decide_eq_true c2.1,decide_eq_true c2.2];rfl)) ?_;intro w4 x4;refine aB ?_;by_cases c3:1≤rl.length∧rl.length≤20
   ·refine_lift aR ?_;refine bT (enters_of Tryz.func192 rfl rfl) rfl rfl (NU (c:=true) (by rw [hlen,decide_eq_true aC,decide_eq_true aC];rfl)) ?_;intro w5 x5;refine aB ?_;by_cases c4:1≤budget∧budget≤100
    ·refine_lift aR ?_;refine bT (enters_of Tryz.func192 rfl rfl) rfl rfl (NU (c:=true) (by rw [decide_eq_true c4.1,decide_eq_true c4.2];rfl)) ?_;intro w6 x6;refine aB ?_;refine_lift mP fun _ _ _ _ => ?_;have hv6:=(((((hv1.ext x2).ext x3).ext x4).ext x5).ext x6);have hq6:=(((hq3.ext x4).ext x5).ext x6);have hx6:=x1.trans (x2.trans (x3.trans (x4.trans (x5.trans x6))));have h26:=((((x3.trans x4).trans x5).trans x6)).at h2;have hCF:=fun w9 (h9:Sl 1 w9 v (bI rl))=>pU v rl 193 (fun n => !(decide (0≤n) && decide (n≤99))) w9 h9 (enters_of Tryz.func193 rfl rfl) (fun n _ w'=>ZF n w');cases c5:rl.any (fun n => !(decide (0≤n) && decide (n≤99))) with
     | true =>
      have hE:¬ nF qn qt rl budget=0:=by
       unfold nF;rw [if_neg (by rintro ⟨_,_,_,_,h⟩;rw [c5] at h;cases h)]
       decide
      simp only [c5] at hCF;refine bT (enters_of Tryz.func67 rfl rfl) rfl rfl (hCF _ hv6) ?_;intro w7 x7;refine aB ?_;have h27':=x7.at h26;refine_lift bK fun _ _ => ?_;refine cE (v:=.agg eV.toArray) rfl (Runs.build0 (by kernel_rfl)) ?_;refine aB ?_;refine_lift aR ?_;refine dH (v:=.agg eV.toArray) h27' zDk fun w8 p8 => ?_;have hx8:=cB (hx6.trans x7) p8;refine_lift aR ?_;refine bodyPost_ret (iR (cs:=eV) rfl rfl p8.this (zDk:eE Tryz.prog 201 7=true)) rfl ⟨_,rfl,hx8,?_⟩;rw [qU,if_neg hE];rfl
     | false =>
      have hE:nF qn qt rl budget=0:=by
       unfold nF;exact if_pos ⟨c1,c2,c3,c4,c5⟩
      simp only [c5] at hCF;refine bT (enters_of Tryz.func67 rfl rfl) rfl rfl (hCF _ hv6) ?_;intro w7 x7;refine aB ?_;have h27':=x7.at h26;have hq7:=hq6.ext x7;have hv7:=hv6.ext x7;refine_lift bK fun _ _ => ?_;refine dA (S:=fun w'=>Ext w7 w') zDk ?_;intro w8 x8 _;refine dL 0 ?_;refine aB ?_;refine dL 1 ?_;refine aB ?_;refine dL 3 ?_;refine aB ?_;refine dL 4 ?_;refine aB ?_;refine dL 6 ?_;refine aB ?_;refine dL 8 ?_;refine aB ?_;refine cK (i:=2) zDk rfl rfl ?_;refine bT (enters_of Tryz.func53 rfl rfl) rfl rfl (uX qn _) ?_;intro w9 x9;refine aB ?_;have x79:=x8.trans x9;refine aD ⟨x79,?_⟩;refine dJ (i:=5) (v:=.agg #[aE (fold qn), .int .i64 qt]) rfl rfl zDk zDk zDk rfl x79 (fun w' _=>Runs.build rfl (by kernel_rfl)) (fun _ _ _ h=>h) ?_;refine aB ?_;refine cK (i:=7) zDk rfl rfl ?_;refine gE (enters_of Tryz.func69 rfl rfl) rfl rfl (HW v rl _ (hv7.ext x79) hl) ?_;intro rv w10 x10 o10;refine aB ?_;have x710:=x79.trans x10;refine aD ⟨x710,?_⟩;refine dJ (i:=9) (v:=.agg (fP ⟨fold qn,qt,rl,[],[],[],0,budget,none⟩ rv (.slice none 0 0) (.slice none 0 0) (.pointer none)).toArray) rfl rfl zDk zDk zDk rfl x710 (fun w' _=>Runs.build (vals:=[(0, .agg #[aE (fold qn), .int .i64 qt]),(1,rv),(6, .int .i64 budget)]) rfl (by obtain ⟨_,_,_,rfl⟩:=o10.sl.slf;kernel_rfl)) (fun _ _ _ h=>h) ?_;refine aB ?_;refine cK (i:=10) zDk rfl rfl ?_;refine jP (vs:=fP ⟨fold qn,qt,rl,[],[],[],0,budget,none⟩ rv (.slice none 0 0) (.slice none 0 0) (.pointer none)) fun w11 x11 s11 h11 => ?_;refine aB ?_;have x711:=x710.trans x11;refine aD ⟨x711,?_⟩;refine dL 11 ?_;refine aB ?_;refine cP zDk ?_;have hx11:Ext w w11:=(hx6.trans x7).trans x711;have hsz7:=(hx6.trans x7).size;have hT:TaskV w w11 w10.heap.size ⟨fold qn,qt,rl,[],[],[],0,budget,none⟩ rv (.slice none 0 0) (.slice none 0 0) (.pointer none) :=
       ⟨((hx6.trans x7).trans x710).size,hx11,h11,(o10.weaken (hx6.trans (x7.trans x79)).size).ext x11,OwnOff.nil _ _ _ _,Own.nil _ _ _ _,rfl⟩
      have hp11:=aA (cs:=fP ⟨fold qn,qt,rl,[],[],[],0,budget,none⟩ rv (.slice none 0 0) (.slice none 0 0) (.pointer none)) h11;have h27'':=x711.at h27';refine_lift bK fun _ _ => ?_;refine eZ 4 rv hT.blk o10.one fun w12 p12 => ?_;have p12':Put w11 w12 w10.heap.size (.cells (fP (eF qn qt rl budget) rv rv (.slice none 0 0) (.pointer none)).toArray 273 (0,0)):=p12;obtain ⟨k1,k2,k3,k4⟩:=hT.kept p12;have hT12:=hT.put p12' k1 k1.off k3 k4;clear p12' hp11;refine_lift bK fun _ _ => ?_;refine bD (vs:=[.pointer (some ⟨w10.heap.size,0,none⟩)]) (enters_of Tryz.func152 rfl rfl) rfl rfl (UU ⟨_,_,_,_,hT12⟩ (show 0≤budget by omega) (show budget≤1000000 by omega)) ?_;rintro e w13 ⟨u,rfl,hu,hm⟩;refine ⟨_,rfl,?_⟩;refine aB ?_;have szz:=(x2.trans (x3.trans (x4.trans (x5.trans (x6.trans (x7.trans x710)))))).size;have szl:=(Array.getElem?_eq_some_iff.1 h2).1;have szm:=(x3.trans (x4.trans (x5.trans (x6.trans (x7.trans x710))))).size;have hne:some w1.heap.size≠some w10.heap.size:=by
       intro e;have:=Option.some.inj e;omega
      have h14:=hm.at (p12.mv.at h27'' hne) hne;refine_lift aR ?_;refine cZ (v:=u) rfl rfl rfl h14 (by rw [hu.1.size];exact (zDk:dG Tryz.prog 201 7=true)) (by rw [hu.1.size];rfl) hu.1.one ?_;intro w14 p14;obtain ⟨u1,u2,rfl,q1,q2⟩:=(hu.1.put p14 h14 aJ).out;obtain ⟨rv',sv',gv',ev',hTT⟩:=hu.2;have hT14:=hTT.other p14 h14 x1.size;refine_lift aR ?_;refine bodyPost_ret (iR (cs:=dU (eF qn qt rl budget).on.2 u1 u2) rfl rfl p14.this (zDk:eE Tryz.prog 201 7=true)) rfl ⟨_,rfl,hT14.ext,?_⟩;rw [qU,if_pos hE];exact ⟨_,_,rfl,⟨u1,u2,rfl,q1,q2⟩,_,_,_,_,hT14⟩
    ·have hE:¬ nF qn qt rl budget=0:=by
      unfold nF;rw [if_neg (by rintro ⟨h1,h2,h3,h4,_⟩;exact c4 h4)]
      decide
     refine_lift aR ?_;refine bT (enters_of Tryz.func192 rfl rfl) rfl rfl (NU (c:=false) (by simp only [Bool.and_eq_false_iff,decide_eq_false_iff_not];omega)) ?_;intro w6 x6;refine aB ?_;have h26:=((((x3.trans x4).trans x5).trans x6)).at h2;refine_lift mP fun _ _ _ _ => ?_;refine cE (v:=.agg eV.toArray) rfl (Runs.build0 (by kernel_rfl)) ?_;refine aB ?_;refine_lift aR ?_;refine dH (v:=.agg eV.toArray) h26 zDk fun w8 p8 => ?_;have hx8:Ext w w8:=(x1.trans (x2.trans (x3.trans (x4.trans (x5.trans x6))))).move p8.mv (by rintro k ⟨⟩;exact x1.size);refine_lift aR ?_;refine bodyPost_ret (iR (cs:=eV) rfl rfl p8.this (zDk:eE Tryz.prog 201 7=true)) rfl ⟨_,rfl,hx8,?_⟩;rw [qU,if_neg hE];rfl
   ·have hE:¬ nF qn qt rl budget=0:=by
     unfold nF;rw [if_neg (by rintro ⟨h1,h2,h3,h4,_⟩;exact c3 h3)]
     decide
    refine_lift aR ?_;refine bT (enters_of Tryz.func192 rfl rfl) rfl rfl (NU (c:=false) (by simp only [Bool.and_eq_false_iff,decide_eq_false_iff_not];omega)) ?_;intro w5 x5;refine aB ?_;have h26:=(((x3.trans x4).trans x5)).at h2;refine_lift mP fun _ _ _ _ => ?_;refine cE (v:=.agg eV.toArray) rfl (Runs.build0 (by kernel_rfl)) ?_;refine aB ?_;refine_lift aR ?_;refine dH (v:=.agg eV.toArray) h26 zDk fun w8 p8 => ?_;have hx8:Ext w w8:=(x1.trans (x2.trans (x3.trans (x4.trans x5)))).move p8.mv (by rintro k ⟨⟩;exact x1.size);refine_lift aR ?_;refine bodyPost_ret (iR (cs:=eV) rfl rfl p8.this (zDk:eE Tryz.prog 201 7=true)) rfl ⟨_,rfl,hx8,?_⟩;rw [qU,if_neg hE];rfl
  ·have hE:¬ nF qn qt rl budget=0:=by
    unfold nF;rw [if_neg (by rintro ⟨h1,h2,h3,h4,_⟩;exact c2 h2)]
    decide
   refine_lift aR ?_;refine bT (enters_of Tryz.func192 rfl rfl) rfl rfl (NU (c:=false) (by simp only [Bool.and_eq_false_iff,decide_eq_false_iff_not];omega)) ?_;intro w4 x4;refine aB ?_;have h26:=((x3.trans x4)).at h2;refine_lift mP fun _ _ _ _ => ?_;refine cE (v:=.agg eV.toArray) rfl (Runs.build0 (by kernel_rfl)) ?_;refine aB ?_;refine_lift aR ?_;refine dH (v:=.agg eV.toArray) h26 zDk fun w8 p8 => ?_;have hx8:Ext w w8:=(x1.trans (x2.trans (x3.trans x4))).move p8.mv (by rintro k ⟨⟩;exact x1.size);refine_lift aR ?_;refine bodyPost_ret (iR (cs:=eV) rfl rfl p8.this (zDk:eE Tryz.prog 201 7=true)) rfl ⟨_,rfl,hx8,?_⟩;rw [qU,if_neg hE];rfl
 ·have hE:¬ nF qn qt rl budget=0:=by
   unfold nF;rw [if_neg (by rintro ⟨h1,h2,h3,h4,_⟩;exact c1 h1)]
   decide
  have e1:¬ (aM qn).isSome=true:=by
   intro e;exact c1 (by unfold eX;rw [e];rfl)
  rw [if_neg e1] at h27;refine bT (enters_of Tryz.func52 rfl rfl) rfl rfl (h27 _) ?_;intro w3 x3;refine aB ?_;have h26:=x3.at h2;refine_lift mP fun _ _ _ _ => ?_;refine cE (v:=.agg eV.toArray) rfl (Runs.build0 (by kernel_rfl)) ?_;refine aB ?_;refine_lift aR ?_;refine dH (v:=.agg eV.toArray) h26 zDk fun w8 p8 => ?_;have hx8:=cB (x1.trans (x2.trans x3)) p8;refine_lift aR ?_;refine bodyPost_ret (iR (cs:=eV) rfl rfl p8.this (zDk:eE Tryz.prog 201 7=true)) rfl ⟨_,rfl,hx8,?_⟩;rw [qU,if_neg hE];rfl
deriving instance DecidableEq for TaskR
deriving instance DecidableEq for RSet
deriving instance DecidableEq for LrnR
section
variable {P:Program} {w w0:World} {ts:List Value} {df:List Deferred} {d:Option Nat} {ty:TypeId} {ps:String} {af:Array Edge} {g:Option (Nat × Bool)}
end
theorem Own.same (h:Own B k e w v es) (hs:∀ r,v.ownBlock=some r→w'.heap[r]? = w.heap[r]?):Own B k e w' v es:=by
 obtain ⟨⟨h1,h2⟩,h3⟩:=h;refine ⟨⟨h1,?_⟩,h3⟩;rcases h2 with h2 | ⟨gg,cap,cur,fz,rfl,hb,hg,r⟩
 ·exact .inl h2
 ·exact .inr ⟨gg,cap,cur,fz,rfl,hb,by rw [hs gg rfl];exact hg,r⟩
theorem Own.fr {t:TaskR} {rv sv gv ev:Value} (h:Own B k e w v es) (hf:Fr b gv w w') (hT:TaskV w0 w b t rv sv gv ev) (h1:273≠e) (h2:e≠37):Own B k e w' v es :=
 h.same fun r hr=>hf.block r (h.block r hr).2 (by rintro rfl;exact h.neBlock hT.blk h1 hr) (by
  intro e2;rcases h.ne hT.gs h2 with e3 | e3
  ·rw [hr] at e3;cases e3
  ·exact e3 (by rw [hr,e2]))
theorem Fr.box {t:Nat} {tk:TaskR} {rv sv gv ev:Value} (hf:Fr b gv w w') (hT:TaskV w0 w b tk rv sv gv ev) (hc:w.heap[c]? = some (.cells cs t fz)) (h1:t≠273) (h2:t≠37):w'.heap[c]? = some (.cells cs t fz):=by
 rw [hf.block c (Array.getElem?_eq_some_iff.1 hc).1 (by
  rintro rfl;have:=hT.blk;rw [hc] at this;simp only [Option.some.injEq,Obj.cells.injEq] at this;exact h1 this.2.1) (hT.gs.neBlock hc h2)]
 exact hc
theorem UZ {t:TaskR} {l:List Rec} {k:Int} {K:Nat} (h:∀ r ∈ l,r.data.length≤K):∀ r ∈ t.of l n k,r.data.length≤K:=by
 intro r hr;unfold TaskR.of at hr;obtain ⟨q,hq,rfl⟩:=List.mem_map.1 (List.mem_filter.1 hr).1;exact h q (List.mem_filter.1 hq).1
section
variable {P:Program} {a:Act} {w:World} {d:Option Nat} {ty:TypeId} {ps:String} {af:Array Edge} {g:Option (Nat × Bool)}
end
section
variable {P:Program} {ts:List Value} {df:List Deferred} {w:World} {d:Option Nat} {ty:TypeId} {ps:String} {af:Array Edge} {g:Option (Nat × Bool)}
end
theorem NV {r q:mH}:(Op.equalIn 10000 25 (.agg #[aE r.1, .int .i64 r.2]) (.agg #[aE q.1, .int .i64 q.2])).run Tryz.prog w=.ok (decide (r=q)) w:=by
 have hS:Tryz.prog.underlying 25=some (.struct (Tryz.prog.fieldsOf 25)):=by kernel_rfl
 rw [show (10000:Nat)=9999 + 1 from rfl,run_equalIn_agg w 9999 25 _ _ hS (by kernel_rfl)];simp only [Program.fieldsOf,Tryz.underlying25];have u3:=Tryz.underlying3;have u31:=Tryz.underlying23;have a3:=Tryz.isAgg3;have a31:=Tryz.isAgg23;have z3:=Tryz.sizeOf3;have z31:=Tryz.sizeOf23;unfold aE
 go_simp
 obtain ⟨a1,a2⟩:=r;obtain ⟨b1,b2⟩:=q;simp only [Prod.mk.injEq];by_cases h1:a1=b1 <;> by_cases h2:a2=b2 <;> simp [h1,h2]
theorem Runs.neqQst {r q:mH} {x y:Operand} {a:Act} {d:Option Nat} {u ty:TypeId} {ps:String} {af:Array Edge} {g:Option (Nat × Bool)}
 (hx:a.eval x=.agg #[aE r.1, .int .i64 r.2]) (hy:a.eval y=.agg #[aE q.1, .int .i64 q.2]) :
 Runs Tryz.prog (Oper.mk d (.binOp .neq 25 x y u) ty ps af g) a w (.bool (!decide (r=q))):=by
 constructor;have hg:=run_eqGuard_agg (P:=Tryz.prog) w .neq 25 x y #[aE r.1, .int .i64 r.2] #[aE q.1, .int .i64 q.2] (by kernel_rfl);simp only [execOp,hx,hy,Sem.run_bind,hg,Result.andThen_ok,run_neq_struct,NV,Sem.run_pure]
section
variable {P:Program} {ts:List Value} {df:List Deferred} {w:World} {d:Option Nat} {ty:TypeId} {ps:String} {af:Array Edge} {g:Option (Nat × Bool)}
end
abbrev VA:=Bool × MsgR
def Dy (s:VA) (q a u e:Value):List Value:=.bool s.1 :: aO s.2 q a u e
structure RopsAt (w:World) (v:Value) (l:List VA):Prop where
 out:∃ css,Sl 14 w v css∧css.length=l.length∧∀ (i:Nat) (s:VA),l[i]? = some s→∃ q a u e,css[i]? = some (Dy s q a u e)∧MsgV w s.2 q a u e
theorem RopsAt.ext {l:List VA} (h:RopsAt w v l) (hx:Ext w w'):RopsAt w' v l:=by
 obtain ⟨css,h1,h2,h3⟩:=h;exact ⟨css,h1.ext hx,h2,fun i s hi=>let ⟨q,a,u,e,h4,h5⟩:=h3 i s hi;⟨q,a,u,e,h4,h5.ext hx⟩⟩
theorem TaskV.other2 {t:TaskR} {rv sv gv ev u1 u2:Value} {o:Obj} {a:ActR} (h:TaskV w0 w b t rv sv gv ev) (hp:Put w w' c o) (hc:w.heap[c]? = some (.cells (dU a u1 u2).toArray 201 fz)) (ha:a.kind≠2) (hg:w0.heap.size≤c):TaskV w0 w' b t rv sv gv ev:=by
 refine ⟨h.ge,h.ext.move hp.mv (by rintro k ⟨⟩;exact hg),hp.mv.at h.blk ?_,h.rs.mv hp.mv (.inr (h.rs.neBlock hc aJ)),h.ss.mv hp.mv (.inr (h.ss.neBlock hc aJ)),h.gs.mv hp.mv (.inr (h.gs.neBlock hc aJ)),?_⟩
 ·intro e;have e2:=h.blk;rw [Option.some.inj e,hc] at e2;simp only [Option.some.injEq,Obj.cells.injEq] at e2;exact absurd e2.2.1 aJ
 ·have he:=h.es;generalize hst:t.stop=s at he;cases s with
  | none=>exact he
  | some a' =>
   obtain ⟨k,v1,v2,g1,g2,g3,g4,g5,g6⟩:=he;refine ⟨k,v1,v2,g1,g2,hp.mv.at g3 (fun e => ?_),g4.mv hp.mv (.inr (g4.neBlock hc aJ)),g5.mv hp.mv (.inr (g5.neBlock hc aJ)),g6⟩;rw [Option.some.inj e,hc] at g3;simp only [Option.some.injEq,Obj.cells.injEq] at g3;have e3:=congrArg (fun q=>q[0]?) g3.1;simp [dU,g6] at e3;exact ha e3
theorem TaskAt.other2 {t:TaskR} {u1 u2:Value} {o:Obj} {a:ActR} (h:TaskAt w0 w b t) (hp:Put w w' c o) (hc:w.heap[c]? = some (.cells (dU a u1 u2).toArray 201 fz)) (ha:a.kind≠2) (hg:w0.heap.size≤c):TaskAt w0 w' b t:=by
 obtain ⟨rv,sv,gv,ev,h⟩:=h;exact ⟨rv,sv,gv,ev,h.other2 hp hc ha hg⟩
theorem TaskAt.ext {t:TaskR} (h:TaskAt w0 w b t):Ext w0 w:=by obtain ⟨_,_,_,_,h⟩:=h;exact h.ext
theorem TaskAt.lt {t:TaskR} (h:TaskAt w0 w b t):b < w.heap.size:=by obtain ⟨_,_,_,_,h⟩:=h;exact (Array.getElem?_eq_some_iff.1 h.blk).1
structure ActAt (w0 w:World) (b c:Nat) (r:TaskR × ActR):Prop where
 tsk:TaskAt w0 w b r.1
 out:∃ v1 v2,w.heap[c]? = some (.cells (dU r.2 v1 v2).toArray 201 (0,0))∧Own 0 4 37 w v1 (aF r.2.ans)∧Own 0 4 37 w v2 (aF r.2.auth)
 ge:w0.heap.size≤c
 ne:c≠b
theorem ActAt.grow {r:TaskR × ActR} (h:ActAt w0 w b c r) (hx:Ext w w'):ActAt w0 w' b c r:=by
 obtain ⟨v1,v2,h1,h2,h3⟩:=h.out;exact ⟨h.tsk.grow hx,⟨v1,v2,hx.at h1,h2.ext hx,h3.ext hx⟩,h.ge,h.ne⟩
theorem ActAt.next {a:ActR} {r:TaskR × ActR} {u1 u2 v1 v2:Value} (hT:TaskAt w0 w1 b r.1) (hc:w1.heap[c]? = some (.cells (dU a u1 u2).toArray 201 (0,0))) (ha:a.kind≠2) (hg:w0.heap.size≤c) (hn:c≠b)
 (o1:Own 0 4 37 w1 v1 (aF r.2.ans)) (o2:Own 0 4 37 w1 v2 (aF r.2.auth)) (hp:Put w1 w2 c (.cells (dU r.2 v1 v2).toArray 201 (0,0))):ActAt w0 w2 b c r :=
 ⟨hT.other2 hp hc ha hg,⟨v1,v2,hp.this,eJ o1 hp hc,eJ o2 hp hc⟩,hg,hn⟩
structure ActIn (w0 w:World) (b c:Nat) (r:TaskR × ActR):Prop where
 tsk:∃ rv sv gv ev,TaskV w0 w b r.1 rv sv gv ev∧ev≠.pointer (some ⟨c,0,none⟩)
 out:∃ v1 v2,w.heap[c]? = some (.cells (dU r.2 v1 v2).toArray 201 (0,0))∧Own 0 4 37 w v1 (aF r.2.ans)∧Own 0 4 37 w v2 (aF r.2.auth)
 ge:w0.heap.size≤c
 ne:c≠b
theorem TaskV.other3 {t:TaskR} {rv sv gv ev u1 u2:Value} {o:Obj} {a:ActR} (h:TaskV w0 w b t rv sv gv ev) (hp:Put w w' c o) (hc:w.heap[c]? = some (.cells (dU a u1 u2).toArray 201 fz)) (ha:ev≠.pointer (some ⟨c,0,none⟩)) (hg:w0.heap.size≤c):TaskV w0 w' b t rv sv gv ev:=by
 refine ⟨h.ge,h.ext.move hp.mv (by rintro k ⟨⟩;exact hg),hp.mv.at h.blk ?_,h.rs.mv hp.mv (.inr (h.rs.neBlock hc aJ)),h.ss.mv hp.mv (.inr (h.ss.neBlock hc aJ)),h.gs.mv hp.mv (.inr (h.gs.neBlock hc aJ)),?_⟩
 ·intro e;have e2:=h.blk;rw [Option.some.inj e,hc] at e2;simp only [Option.some.injEq,Obj.cells.injEq] at e2;exact absurd e2.2.1 aJ
 ·have he:=h.es;generalize hst:t.stop=s at he;cases s with
  | none=>exact he
  | some a' =>
   obtain ⟨k,v1,v2,g1,g2,g3,g4,g5,g6⟩:=he;refine ⟨k,v1,v2,g1,g2,hp.mv.at g3 (fun e => ?_),g4.mv hp.mv (.inr (g4.neBlock hc aJ)),g5.mv hp.mv (.inr (g5.neBlock hc aJ)),g6⟩;exact ha (by rw [g1,Option.some.inj e])
theorem ActIn.next {a:ActR} {r:TaskR × ActR} {u1 u2 v1 v2 rv sv gv ev:Value} (hT:TaskV w0 w1 b r.1 rv sv gv ev) (he:ev≠.pointer (some ⟨c,0,none⟩)) (hc:w1.heap[c]? = some (.cells (dU a u1 u2).toArray 201 (0,0))) (hg:w0.heap.size≤c) (hn:c≠b)
 (o1:Own 0 4 37 w1 v1 (aF r.2.ans)) (o2:Own 0 4 37 w1 v2 (aF r.2.auth)) (hp:Put w1 w2 c (.cells (dU r.2 v1 v2).toArray 201 (0,0))):ActIn w0 w2 b c r :=
 ⟨⟨rv,sv,gv,ev,hT.other3 hp hc he hg,he⟩,⟨v1,v2,hp.this,eJ o1 hp hc,eJ o2 hp hc⟩,hg,hn⟩
theorem ActIn.grow {r:TaskR × ActR} (h:ActIn w0 w b c r) (hx:Ext w w'):ActIn w0 w' b c r:=by
 obtain ⟨v1,v2,h1,h2,h3⟩:=h.out;obtain ⟨rv,sv,gv,ev,h4,h5⟩:=h.tsk;exact ⟨⟨rv,sv,gv,ev,h4.grow hx,h5⟩,⟨v1,v2,hx.at h1,h2.ext hx,h3.ext hx⟩,h.ge,h.ne⟩
theorem TaskAt.apart {t:TaskR} {u1 u2:Value} {a:ActR} (h:TaskAt w0 w b t) (hc:w.heap[c]? = some (.cells (dU a u1 u2).toArray 201 fz)) (ha:a.kind≠2):∃ rv sv gv ev,TaskV w0 w b t rv sv gv ev∧ev≠.pointer (some ⟨c,0,none⟩):=by
 obtain ⟨rv,sv,gv,ev,h⟩:=h;refine ⟨rv,sv,gv,ev,h,fun e => ?_⟩;have he:=h.es;generalize hst:t.stop=s at he;cases s with
 | none =>
  rw [show ev=.pointer none from he] at e;cases e
 | some a' =>
  obtain ⟨k,v1,v2,g1,g2,g3,g4,g5,g6⟩:=he;rw [g1] at e;simp only [Value.pointer.injEq,Option.some.injEq,Addr.mk.injEq] at e;rw [e.1,hc] at g3;simp only [Option.some.injEq,Obj.cells.injEq] at g3;have e3:=congrArg (fun q=>q[0]?) g3.1;simp [dU,g6] at e3;exact ha e3
structure RdS where
 at_:Int
 e:Int
 deriving DecidableEq
def xX (s:List UInt8) (r:RdS):List Value:=[aE s, .int .i64 r.at_, .int .i64 r.e]
def dF (w:World) (b:Nat) (s:List UInt8) (r:RdS):Prop:=w.heap[b]? = some (.cells (xX s r).toArray 180 (0,0))
def mM (w:World) (b:Nat) (s:List UInt8) (v:Value) (r:RdS) (e:Ending) (w':World):Prop:=e=.returned v∧dF w' b s r∧Mv (some b) w w'
def RdS.want (r:RdS) (is:Bool) (er:Int):RdS:=if r.e=0∧is=false then ⟨r.at_,er⟩ else r
theorem gO {r:RdS} (h:dF w b s r) (is:Bool) (er:Int):Calls Tryz.prog 85 #[.pointer (some ⟨b,0,none⟩), .bool is, .int .i64 er] w (mM w b s (.bool (decide ((r.want is er).e=0))) (r.want is er)):=by
 have hp:=aA (cs:=xX s r) h;go_enter Tryz.func85,Tryz.ntmps85
 by_cases c1:r.e=0
 ·cases is with
  | false =>
   have hE:r.want false er=⟨r.at_,er⟩:=by unfold RdS.want;rw [if_pos ⟨c1,rfl⟩]
   refine_lift GG (fun hc => ?_) (fun _ _ hc => ?_)
   all_goals first
    | (exfalso;omega)
    | skip
   refine eZ 2 (.int .i64 er) h rfl fun w1 p1 => ?_;have h1:dF w1 b s ⟨r.at_,er⟩:=p1.this;have hp1:=aA (cs:=xX s ⟨r.at_,er⟩) h1;clear hp;refine_lift aR ?_;go_ret;rw [hE];exact ⟨rfl,h1,p1.mv⟩
  | true =>
   have hE:r.want true er=r:=by unfold RdS.want;rw [if_neg (by rintro ⟨_,h⟩;cases h)]
   refine_lift jD (fun hc => ?_) (fun hc => ?_)
   all_goals first
    | (exfalso;omega)
    | skip
   go_ret;rw [hE];exact ⟨rfl,h,Mv.refl _ _⟩
 ·have hE:r.want is er=r:=by unfold RdS.want;rw [if_neg (fun h=>c1 h.1)]
  refine_lift iX fun hc => ?_
  all_goals first
   | (exfalso;omega)
   | skip
  go_ret;rw [hE];exact ⟨rfl,h,Mv.refl _ _⟩
def RdS.take (s:List UInt8) (r:RdS) (n:Int):List UInt8 × RdS :=
 if r.e≠0 then ([],r) else if (s.length:Int) - r.at_ < n then ([],⟨r.at_,3⟩) else ((s.drop r.at_.toNat).take n.toNat,⟨r.at_ + n,0⟩)
structure RdS.Ok (s:List UInt8) (r:RdS):Prop where
 lo:0≤r.at_
 hi:r.e=0→r.at_≤s.length
 far:r.at_≤100000000
theorem RdS.Ok.want {r:RdS} (h:r.Ok s) (is:Bool) {er:Int} (he:er≠0):(r.want is er).Ok s:=by
 unfold RdS.want;split
 ·exact ⟨h.lo,fun e=>absurd e he,h.far⟩
 ·exact h
theorem RdS.Ok.take {r:RdS} (h:r.Ok s) (hs:s.length≤100000000) {n:Int} (hn:0≤n):(r.take s n).2.Ok s:=by
 unfold RdS.take;have:=h.lo;split
 ·exact h
 ·split
  ·exact ⟨h.lo,fun e=>(by cases e),h.far⟩
  ·exact ⟨by dsimp only;omega,fun _=>by dsimp only;omega,by dsimp only;omega⟩
theorem AI {r:RdS} (h:dF w b s r) (hr:r.Ok s) (hs:s.length≤100000000) (n:Int) (h0:0≤n) (h1:n≤100000000):Calls Tryz.prog 143 #[.pointer (some ⟨b,0,none⟩), .int .i64 n] w (mM w b s (aE (r.take s n).1) (r.take s n).2):=by
 have hp:=aA (cs:=xX s r) h;have a0:=hr.lo;have a1:=hr.hi;have a2:=hr.far;go_enter Tryz.func143,Tryz.ntmps143
 refine_lift mP fun _ _ _ _ => ?_;refine aP 13 (Ext w) zDk ?_;intro w1 x1 _;refine ⟨x1,?_⟩;refine bE 0 ?_;refine bE 1 ?_;refine bE 2 ?_;refine bE 3 ?_;refine bE 4 ?_;refine bE 5 ?_;refine bE 6 ?_;refine bE 7 ?_;refine bE 8 ?_;refine bE 9 ?_;refine bE 10 ?_;refine bE 11 ?_;refine bE 12 ?_;have hw1:dF w1 b s r:=x1.at h;have hcw:=gO hw1 (decide (n≤(s.length:Int) - r.at_)) 3;by_cases c1:r.e=0∧n≤(s.length:Int) - r.at_
 ·obtain ⟨c1,c2⟩:=c1;have hR:r.take s n=((s.drop r.at_.toNat).take n.toNat,⟨r.at_ + n,0⟩):=by unfold RdS.take;rw [if_neg aC,if_neg aC]
  have hW:r.want (decide (n≤(s.length:Int) - r.at_)) 3=r:=by rw [decide_eq_true c2];unfold RdS.want;rw [if_neg (by rintro ⟨_,h⟩;cases h)]
  rw [hW,decide_eq_true c1] at hcw;refine dM 13 ?_;refine eY hcw fun w2 h2 m2 => ?_;refine aD ⟨aN rfl,?_⟩;refine dM 14 ?_
  ((with_reducible refine aV ?_);(first | (refine gW ?_;refine eW ?_) | (refine mA ?_;refine nQ ?_;(with_reducible refine aV ?_);refine gW ?_;refine eW ?_)))
  refine aD ⟨aN rfl,?_⟩;refine kK ?_;have hp2:=aA (cs:=xX s r) h2;have m02:=(x1.mv (some b)).trans m2;clear hp;refine_lift bK fun _ _ => ?_;refine eZ 1 (.int .i64 (r.at_ + n)) h2 rfl fun w3 p3 => ?_;have h3:dF w3 b s ⟨r.at_ + n,r.e⟩:=p3.this;have hp3:=aA (cs:=xX s ⟨r.at_ + n,r.e⟩) h3;have m03:=m02.trans p3.mv;clear hp2;have a3:=a1 c1;refine_lift bK fun _ _ => ?_;refine cY zDk zDk ?_;refine_lift uV ?_;intro w4 x4;refine_lift aR ?_;go_ret;rw [hR];refine ⟨?_,by rw [← c1];exact x4.at h3,m03.trans (x4.mv _)⟩;have e:List.drop (r.at_ + n - n).toNat (List.take (r.at_ + n).toNat s)=(s.drop r.at_.toNat).take n.toNat:=by
   rw [show r.at_ + n - n=r.at_ by omega,List.drop_take,show (r.at_ + n).toNat - r.at_.toNat=n.toNat by omega]
  show Ending.returned (aE _)=_;rw [e]
 ·have hne:(r.want (decide (n≤(s.length:Int) - r.at_)) 3).e≠0:=by
   unfold RdS.want;split
   ·exact fun e=>by cases e
   ·rename_i c;intro e;exact c1 ⟨e,by
     by_cases h9:n≤(s.length:Int) - r.at_
     ·exact h9
     ·exact absurd ⟨e,decide_eq_false h9⟩ c⟩
  have hR:r.take s n=([],r.want (decide (n≤(s.length:Int) - r.at_)) 3):=by
   unfold RdS.take RdS.want;by_cases h8:r.e=0
   ·have h9:¬ n≤(s.length:Int) - r.at_:=fun h=>c1 ⟨h8,h⟩;rw [if_neg aC,if_pos aC,if_pos ⟨h8,decide_eq_false h9⟩]
   ·rw [if_pos h8,if_neg (fun h=>h8 h.1)]
  rw [decide_eq_false hne] at hcw;refine dM 13 ?_;refine eY hcw fun w2 h2 m2 => ?_;refine aD ⟨aN rfl,?_⟩;refine dM 14 ?_
  ((with_reducible refine aV ?_);(first | (refine gW ?_;refine eW ?_) | (refine mA ?_;refine nQ ?_;(with_reducible refine aV ?_);refine gW ?_;refine eW ?_)))
  refine aD ⟨aN rfl,?_⟩;refine kK ?_;refine_lift aR ?_;go_ret;rw [hR];exact ⟨rfl,h2,(x1.mv (some b)).trans m2⟩
def ET (l:List UInt8):Nat:=l.foldl (fun n c=>n * 256 + c.toNat) 0
theorem DJ (h:k < l.length):ET (l.take (k + 1))=ET (l.take k) * 256 + l[k].toNat:=by
 rw [ET,List.take_succ_eq_append_getElem h,List.foldl_append];rfl
theorem EU (l:List UInt8):∀ k,k≤l.length→ET (l.take k) < 256 ^ k
 | 0,_=>by simp [ET]
 | k + 1,h=>by
   rw [DJ aC];have:=EU l k aC;have h2:l[k].toNat < 256:=UInt8.toNat_lt _;rw [Nat.pow_succ];omega
def RdS.number (s:List UInt8) (r:RdS) (k:Int):Nat × RdS:=(ET (r.take s k).1,(r.take s k).2)
theorem oJ (s:List UInt8) (r:RdS) (n:Int):(r.take s n).1.length≤n.toNat:=by
 unfold RdS.take;split
 ·exact Nat.zero_le _
 ·split
  ·exact Nat.zero_le _
  ·rw [List.length_take];omega
theorem dQ (s:List UInt8) (r:RdS) (n:Nat) (hn:n≤4):(r.number s n).1 < 256 ^ n:=by
 unfold RdS.number;have h1:=oJ s r n;have h2:=EU (r.take s n).1 (r.take s n).1.length (Nat.le_refl _);rw [List.take_length] at h2;refine Nat.lt_of_lt_of_le h2 (Nat.pow_le_pow_right aC (by simpa using h1))
theorem eH {r:RdS} (h:dF w b s r) (hr:r.Ok s) (hs:s.length≤100000000) (n:Int) (h0:0≤n) (h1:n≤4):Calls Tryz.prog 84 #[.pointer (some ⟨b,0,none⟩), .int .i64 n] w (mM w b s (.int .i64 ((r.number s n).1:Nat)) (r.number s n).2):=by
 have htl:=oJ s r n;have hct:=fun w h=>AI (w:=w) (b:=b) h hr hs n h0 aC;unfold RdS.number;generalize r.take s n=T at *;obtain ⟨l,r'⟩:=T;dsimp only at *;go_enter Tryz.func84,Tryz.ntmps84
 refine_lift mP fun _ _ _ _ => ?_;refine eY (hct w h) fun w1 h1' m1 => ?_;refine uS (l:=l) (e:=5) rfl rfl zDk zDk aC ?_;intro v2 w2 x2 o2;refine aB ?_;have hs2:=o2.sl;have h2:dF w2 b s r':=x2.at h1';have hbl:(aL l).length=l.length:=List.length_map ..;have m2:=m1.trans (x2.mv (some b));refine_lift aR ?_;have htl:l.length≤4:=aC;go_loopw [5,7,13] (fun m _ i wr=>∃ k:Nat,k≤l.length∧i=.int .i64 k∧m=.int .i64 (ET (l.take k):Nat)∧Ext w2 wr) (fun _ _ i _=>l.length - (intOf i).toNat)
 case atStart=>exact ⟨0,Nat.zero_le _,rfl,rfl,Ext.refl _⟩
 case round =>
  obtain ⟨k,hk,rfl,rfl,hx⟩:=hrel;have hsx:=hs2.ext hx;by_cases hlt:k < l.length
  ·have hn:=EU l k aC;have hn2:ET (l.take k) * 256 < 4294967296:=by
    have:256 ^ k≤256 ^ 3:=Nat.pow_le_pow_right aC aC;omega
   have hb:l[k].toNat < 256:=UInt8.toNat_lt _;have hst:=DJ hlt;have hpe:=hsx.elem (i:=k) (e:=[.int .u8 (l[k].toNat:Nat)]) (by rw [aL,List.getElem?_map,List.getElem?_eq_getElem hlt];rfl);refine_lift iX fun _ => ?_;exact ⟨⟨k + 1,aC,by go_num,by rw [hst],hx⟩,by simp [intOf];omega⟩
  ·have:k=l.length:=aC;subst this;rw [List.take_length];refine_lift iX fun _ => ?_;go_ret;exact ⟨rfl,hx.at h2,m2.trans (hx.mv _)⟩
section
variable {P:Program} {w:World} {a:Act} {d:Option Nat} {ty:TypeId} {ps:String} {af:Array Edge} {g:Option (Nat × Bool)}
theorem Runs.andN {t u:TypeId} {x y:Operand} {m n:Nat} (hx:a.eval x=.int .i64 (m:Nat)) (hy:a.eval y=.int .i64 (n:Nat)) (hm:m < 4611686018427387904) (hn:n < 4611686018427387904) :
 Runs P (Oper.mk d (.binOp .and t x y u) ty ps af g) a w (.int .i64 ((m &&& n:Nat):Int)):=by
 have hle:m &&& n≤m:=Nat.and_le_left;have e:(BitVec.ofInt 64 (m:Int) &&& BitVec.ofInt 64 (n:Int)).toNat=m &&& n:=by
  rw [BitVec.toNat_and,BitVec.ofInt_natCast,BitVec.ofInt_natCast,BitVec.toNat_ofNat,BitVec.toNat_ofNat,Nat.mod_eq_of_lt aC,Nat.mod_eq_of_lt aC]
 have e2:IntKind.i64.wrap ((m &&& n:Nat):Int)=((m &&& n:Nat):Int):=IntWalk.i64_in _ aC;constructor;have hb:(Op.intBits .and .i64 (m:Nat) (n:Nat))=Sem.pure (.int .i64 ((m &&& n:Nat):Int)):=by
  show Sem.pure (Value.int .i64 (IntKind.i64.wrap ((BitVec.ofInt 64 (m:Int) &&& BitVec.ofInt 64 (n:Int)).toNat:Nat)))=_;rw [e,e2]
 simp only [execOp,hx,hy,eqGuard,binOp,hb,Sem.run_bind,Sem.run_pure,Result.andThen_ok];simp [Sem.run]
theorem Runs.orN {t u:TypeId} {x y:Operand} {m n:Nat} (hx:a.eval x=.int .i64 (m:Nat)) (hy:a.eval y=.int .i64 (n:Nat)) (hm:m < 4611686018427387904) (hn:n < 4611686018427387904) :
 Runs P (Oper.mk d (.binOp .or t x y u) ty ps af g) a w (.int .i64 ((m ||| n:Nat):Int)):=by
 have hlt:m ||| n < 2 ^ 62:=Nat.or_lt_two_pow aC aC
 have e:(BitVec.ofInt 64 (m:Int) ||| BitVec.ofInt 64 (n:Int)).toNat=m ||| n:=by
  rw [BitVec.toNat_or,BitVec.ofInt_natCast,BitVec.ofInt_natCast,BitVec.toNat_ofNat,BitVec.toNat_ofNat,Nat.mod_eq_of_lt aC,Nat.mod_eq_of_lt aC]
 have e2:IntKind.i64.wrap ((m ||| n:Nat):Int)=((m ||| n:Nat):Int):=IntWalk.i64_in _ aC;constructor;have hb:(Op.intBits .or .i64 (m:Nat) (n:Nat))=Sem.pure (.int .i64 ((m ||| n:Nat):Int)):=by
  show Sem.pure (Value.int .i64 (IntKind.i64.wrap ((BitVec.ofInt 64 (m:Int) ||| BitVec.ofInt 64 (n:Int)).toNat:Nat)))=_;rw [e,e2]
 simp only [execOp,hx,hy,eqGuard,binOp,hb,Sem.run_bind,Sem.run_pure,Result.andThen_ok];simp [Sem.run]
end
structure NmS where
 n:List UInt8
 begin_:Int
 back:Int
 r:RdS
def nmTo (s:List UInt8) (r1:RdS) (k:Nat):Nat:=k * 256 % 16384 + ((r1.want (decide (192≤k)) 2).number s 1).1
def AJ (s:List UInt8) (r1:RdS) (k:Nat) (begin_:Int):RdS:=((r1.want (decide (192≤k)) 2).number s 1).2.want (decide ((nmTo s r1 k:Int) < begin_)) 2
def iI (s:List UInt8) (x:NmS) (k:Nat) (r1:RdS):NmS :=
 if k≤63 then ⟨x.n ++ (UInt8.ofNat k :: (r1.take s k).1),x.begin_,x.back,(r1.take s k).2.want (decide ((x.n ++ (UInt8.ofNat k :: (r1.take s k).1)).length < 255)) 2⟩
 else ⟨x.n,nmTo s r1 k,if x.back < 0 then (AJ s r1 k x.begin_).at_ else x.back,⟨nmTo s r1 k,(AJ s r1 k x.begin_).e⟩⟩
def HX (x:NmS) (r1:RdS):List UInt8 × RdS:=(if r1.e≠0 then [] else x.n,if 0≤x.back then ⟨x.back,r1.e⟩ else r1)
def JZ (s:List UInt8):Nat→NmS→List UInt8 × RdS
 | 0,x=>([],x.r)
 | f + 1,x=>if (x.r.number s 1).2.e≠0∨(x.r.number s 1).1=0 then HX x (x.r.number s 1).2 else JZ s f (iI s x (x.r.number s 1).1 (x.r.number s 1).2)
def LJ (s:List UInt8) (x:NmS):Nat:=if x.r.e≠0 then 0 else x.begin_.toNat * (s.length + 2) + (s.length + 2 - x.r.at_.toNat)
def gH (s:List UInt8) (r:RdS):List UInt8 × RdS:=JZ s (r.at_.toNat * (s.length + 2) + s.length + 3) ⟨[],r.at_,-1,r⟩
structure NmOk (s:List UInt8) (x:NmS):Prop where
 r:x.r.Ok s
 b0:0≤x.begin_
 b1:x.begin_≤100000000
 k0:-1≤x.back
 k1:x.back≤100000000
 n0:x.r.e=0→x.n.length≤254
 n1:x.n.length≤400
 bL:x.r.e=0→x.begin_≤s.length
 kL:x.r.e=0→x.back≤s.length
theorem HY {r:RdS} {n:Int} (h:(r.number s n).2.e=0):r.e=0∧n≤(s.length:Int) - r.at_∧(r.number s n).2=⟨r.at_ + n,0⟩:=by
 unfold RdS.number RdS.take at *;dsimp only at *;split at h
 ·rename_i c;exact absurd h c
 ·rename_i c;split at h
  ·cases h
  ·rename_i c2;rw [if_neg c,if_neg c2];exact ⟨by simpa using c,aC,rfl⟩
theorem cC {r:RdS} (h:r.Ok s) (hs:s.length≤100000000) {n:Int} (hn:0≤n):(r.number s n).2.Ok s:=h.take hs hn
theorem VB {r:RdS} {is:Bool} {er:Int}:(r.want is er).at_=r.at_:=by unfold RdS.want;split <;> rfl
theorem qV {r:RdS} {is:Bool} {er:Int} (he:er≠0) (h:(r.want is er).e=0):r.e=0∧is=true:=by
 unfold RdS.want at h;split at h
 ·exact absurd h he
 ·rename_i c;refine ⟨h,?_⟩;cases is with
  | true=>rfl
  | false=>exact absurd ⟨h,rfl⟩ c
theorem LK {r1:RdS}:nmTo s r1 k < 16640:=by
 unfold nmTo;have:=dQ s (r1.want (decide (192≤k)) 2) 1 aC;have h2:k * 256 % 16384 < 16384:=Nat.mod_lt _ aC;simp at this;omega
theorem NmOk.next {x:NmS} (h:NmOk s x) (hs:s.length≤100000000) (he:(x.r.number s 1).2.e=0):NmOk s (iI s x (x.r.number s 1).1 (x.r.number s 1).2)∧LJ s (iI s x (x.r.number s 1).1 (x.r.number s 1).2) < LJ s x:=by
 obtain ⟨e0,e1,e2⟩:=HY he;have hr1:=cC (n:=1) h.r hs aC;have hM:LJ s x=x.begin_.toNat * (s.length + 2) + (s.length + 2 - x.r.at_.toNat):=by unfold LJ;rw [if_neg aC]
 have hlo:=h.r.lo;have hb0:=h.b0;generalize (x.r.number s 1).1=k at *;have hat:(x.r.number s 1).2.at_=x.r.at_ + 1:=by rw [e2]
 generalize (x.r.number s 1).2=r1 at *;unfold iI;have htl:=oJ s r1 k;split
 ·rename_i hk;have hn':(x.n ++ (UInt8.ofNat k :: (r1.take s k).1)).length≤254 + 64:=by
   rw [List.length_append,List.length_cons];have:=h.n0 e0;simp at htl;omega
  have hw:=(hr1.take hs (n:=(k:Int)) aC).want (decide ((x.n ++ (UInt8.ofNat k :: (r1.take s k).1)).length < 255)) (er:=2) aJ;refine ⟨⟨hw,h.b0,h.b1,h.k0,h.k1,fun e => ?_,by dsimp only;omega,fun _=>h.bL e0,fun _=>h.kL e0⟩,?_⟩
  ·obtain ⟨_,q⟩:=qV aJ e;have:=of_decide_eq_true q;dsimp only;omega
  ·rw [hM];unfold LJ;dsimp only;split
   ·omega
   ·rename_i c;have c':((r1.take s k).2.want (decide ((x.n ++ (UInt8.ofNat k :: (r1.take s k).1)).length < 255)) 2).e=0:=by simpa using c
    obtain ⟨q,_⟩:=qV aJ c';rw [VB];have hta:(r1.take s k).2.at_=r1.at_ + k:=by
     unfold RdS.take at q ⊢;split at q
     ·rename_i c9;exact absurd q c9
     ·split at q
      ·cases q
      ·rename_i c8 c9;rw [if_neg c8,if_neg c9]
    rw [hta,hat];omega
 ·have hto:=LK (s:=s) (r1:=r1) (k:=k);have hw:=((cC (n:=1) (hr1.want (decide (192≤k)) (er:=2) aJ) hs aC)).want (decide ((nmTo s r1 k:Int) < x.begin_)) (er:=2) aJ;refine ⟨⟨⟨by dsimp only;omega,fun e => ?_,by dsimp only;omega⟩,by dsimp only;omega,by dsimp only;omega,?_,?_,fun _=>h.n0 e0,h.n1,fun e => ?_,fun e => ?_⟩,?_⟩
  ·obtain ⟨_,q⟩:=qV (r:=((r1.want (decide (192≤k)) 2).number s 1).2) aJ e;have:=of_decide_eq_true q;have:=h.bL e0;dsimp only;omega
  ·dsimp only;split
   ·have:=hw.lo;show -1≤(AJ s r1 k x.begin_).at_;unfold AJ;omega
   ·exact h.k0
  ·dsimp only;split
   ·have:=hw.far;show (AJ s r1 k x.begin_).at_≤_;unfold AJ;omega
   ·exact h.k1
  ·obtain ⟨_,q⟩:=qV (r:=((r1.want (decide (192≤k)) 2).number s 1).2) aJ e;have:=of_decide_eq_true q;have:=h.bL e0;dsimp only;omega
  ·dsimp only;split
   ·exact hw.hi e
   ·exact h.kL e0
  ·rw [hM];unfold LJ;dsimp only;split
   ·omega
   ·rename_i c;have c':(AJ s r1 k x.begin_).e=0:=by simpa using c
    obtain ⟨_,q⟩:=qV (r:=((r1.want (decide (192≤k)) 2).number s 1).2) aJ c';have hlt:=of_decide_eq_true q;simp only [Int.toNat_natCast];have h5:nmTo s r1 k + 1≤x.begin_.toNat:=aC;have h6:(nmTo s r1 k + 1) * (s.length + 2)≤x.begin_.toNat * (s.length + 2):=Nat.mul_le_mul_right _ h5;rw [Nat.succ_mul] at h6;omega
theorem LM (hs:s.length≤100000000):∀ (f:Nat) (x:NmS),NmOk s x→LJ s x < f→(JZ s f x).1.length≤254∧(JZ s f x).2.Ok s
 | 0,x,_,h=>absurd h (Nat.not_lt_zero _)
 | f + 1,x,h,hf=>by
   have hr1:=cC (n:=1) h.r hs aC;unfold JZ;split
   ·unfold HX;dsimp only;by_cases he:(x.r.number s 1).2.e=0
    ·rw [if_neg (by simpa using he)];obtain ⟨e0,_⟩:=HY he;refine ⟨h.n0 e0,?_⟩;split
     ·rename_i hb;exact ⟨hb,fun _=>h.kL e0,h.k1⟩
     ·exact hr1
    ·rw [if_pos he];refine ⟨Nat.zero_le _,?_⟩;split
     ·rename_i hb;exact ⟨hb,fun e=>absurd e he,h.k1⟩
     ·exact hr1
   ·rename_i c;have he:(x.r.number s 1).2.e=0:=by
     by_cases h:(x.r.number s 1).2.e=0
     ·exact h
     ·exact absurd (.inl h) c
    obtain ⟨h1,h2⟩:=h.next hs he;exact LM hs f _ h1 aC
theorem AK {r:RdS} (hr:r.Ok s):NmOk s ⟨[],r.at_,-1,r⟩∧LJ s ⟨[],r.at_,-1,r⟩ < r.at_.toNat * (s.length + 2) + s.length + 3:=by
 refine ⟨⟨hr,hr.lo,hr.far,(by show (-1:Int)≤-1;omega),(by show (-1:Int)≤100000000;omega),fun _=>Nat.zero_le _,Nat.zero_le _,hr.hi,fun _=>(by show (-1:Int)≤_;omega)⟩,?_⟩;unfold LJ;dsimp only;split <;> omega
theorem qX {r:RdS} (hr:r.Ok s) (hs:s.length≤100000000):(gH s r).1.length≤254∧(gH s r).2.Ok s :=
 LM hs _ _ (AK hr).1 (AK hr).2
def Dz (s:List UInt8) (b:Nat) (bg:Value) (w:World):Nat:=match w.heap[b]? with
 | some (.cells cs _ _)=>LJ s ⟨[],intOf bg,0,⟨intOf (cs[1]?.getD undef),intOf (cs[2]?.getD undef)⟩⟩
 | _=>0
theorem vJ {x:NmS} (h:dF w b s x.r):Dz s b (.int .i64 x.begin_) w=LJ s x:=by
 unfold dF at h;unfold Dz;rw [h];simp [xX,intOf,LJ]
def Cc (s:List UInt8) (r:RdS) (b:Nat) (w:World) (x:NmS) (wr:World):Prop:=NmOk s x∧dF wr b s x.r∧Mv (some b) w wr∧∃ f,LJ s x < f∧JZ s f x=gH s r
theorem VC (k k2:Nat) (h:k2 < 256):(k * 256 &&& 16383) ||| k2=k * 256 % 16384 + k2:=by
 have e1:k * 256 &&& 16383=k * 256 % 16384:=Nat.and_two_pow_sub_one_eq_mod (k * 256) 14;have e2:k * 256 % 16384=(k % 64) * 256:=aC;rw [e1,e2,BQ _ _ h]
theorem KA {r:RdS} (h:dF w b s r) (hr:r.Ok s) (hs:s.length≤100000000):Calls Tryz.prog 86 #[.pointer (some ⟨b,0,none⟩)] w (mM w b s (aE (gH s r).1) (gH s r).2):=by
 have hp:=aA (cs:=xX s r) h;have h0:Cc s r b w ⟨[],r.at_,-1,r⟩ w:=by
  refine ⟨⟨hr,hr.lo,hr.far,(by show (-1:Int)≤-1;omega),(by show (-1:Int)≤100000000;omega),fun _=>Nat.zero_le _,Nat.zero_le _,hr.hi,fun _=>(by show (-1:Int)≤_;omega)⟩,h,Mv.refl _ _,_,?_,rfl⟩;unfold LJ;dsimp only;split <;> omega
 go_enter Tryz.func86,Tryz.ntmps86
 refine_lift aR ?_;go_loopw [2,3,4,5,6] (fun n bg bk _ _ wr=>∃ x:NmS,n=aE x.n∧bg=.int .i64 x.begin_∧bk=.int .i64 x.back∧Cc s r b w x wr) (fun _ bg _ _ _ wr=>Dz s b bg wr)
 case atStart=>exact ⟨_,rfl,rfl,rfl,h0⟩
 case round =>
  obtain ⟨x,rfl,rfl,rfl,hok,hx,hm,f,hf,hgo⟩:=hrel;have hcn:=eH hx hok.r hs 1 aC aC;have hk4:=dQ s x.r 1 aC;have hstep:∀ f',f=f' + 1→(if (x.r.number s 1).2.e≠0∨(x.r.number s 1).1=0 then HX x (x.r.number s 1).2 else JZ s f' (iI s x (x.r.number s 1).1 (x.r.number s 1).2))=gH s r:=by
   rintro f' rfl;exact hgo
  have hnx:=fun he=>hok.next hs he;have hr1:=cC (n:=1) hok.r hs aC;generalize hT:x.r.number s 1=T at *;obtain ⟨k,r1⟩:=T;dsimp only at *;refine_lift lI ?_;intro _ _ _;refine eY hcn fun w1 h1 m1 => ?_;have hp1:=aA (cs:=xX s r1) h1;have hm1:=hm.trans m1;obtain ⟨f',rfl⟩:∃ f',f=f' + 1:=⟨f - 1,aC⟩;have hst:=hstep f' rfl;clear hstep hgo hp hcn;obtain ⟨at1,e1⟩:=r1;dsimp only at *;by_cases ce:e1=0
  ·subst ce;by_cases ck:k=0
   ·subst ck;rw [if_pos (.inr rfl)] at hst;unfold HX at hst;dsimp only at hst;rw [if_neg aJ] at hst;by_cases cb:0≤x.back
    ·rw [if_pos cb] at hst;refine_lift rS fun _ _ _ _ _ _ => ?_
     all_goals first
      | (exfalso;omega)
      | skip
     refine eZ 1 (.int .i64 x.back) h1 rfl fun w2 p2 => ?_;have h2:dF w2 b s ⟨x.back,0⟩:=p2.this;have hp2:=aA (cs:=xX s ⟨x.back,0⟩) h2;clear hp1;refine_lift aR ?_
     all_goals first
      | (exfalso;omega)
      | skip
     go_ret;rw [← hst];exact ⟨rfl,h2,hm1.trans p2.mv⟩
    ·rw [if_neg cb] at hst;refine_lift bK fun _ _ => ?_
     all_goals first
      | (exfalso;omega)
      | skip
     go_ret;rw [← hst];exact ⟨rfl,h1,hm1⟩
   ·rw [if_neg (by rintro (h | h);exact h rfl;exact ck h)] at hst;obtain ⟨hok2,hlt2⟩:=hnx rfl;by_cases c63:k≤63
    ·refine_lift rS fun _ _ _ _ _ _ => ?_
     all_goals first
      | (exfalso;omega)
      | skip
     have hk256:k < 256:=aC;have hn1:=hok.n1;have htl:=oJ s ⟨at1,0⟩ k;have hr2:=hr1.take hs (n:=(k:Int)) aC;have hNx:iI s x k ⟨at1,0⟩=⟨x.n ++ (UInt8.ofNat k :: (RdS.take s ⟨at1,0⟩ k).1),x.begin_,x.back,(RdS.take s ⟨at1,0⟩ k).2.want (decide ((x.n ++ (UInt8.ofNat k :: (RdS.take s ⟨at1,0⟩ k).1)).length < 255)) 2⟩:=by unfold iI;rw [if_pos c63]
     have hcT:=fun w' (h':dF w' b s ⟨at1,0⟩)=>AI h' hr1 hs (k:Int) aC aC;generalize RdS.take s ⟨at1,0⟩ k=T at *;obtain ⟨t,r2⟩:=T;dsimp only at *;refine dA (S:=fun w'=>Mv (some b) w1 w') zDk ?_;intro w2 x2 _;have hS2:Mv (some b) w1 w2:=x2.mv _;refine dL 0 ?_;refine aB ?_;refine dL 1 ?_;refine aB ?_;refine dL 2 ?_;refine aB ?_;refine dL 5 ?_;refine aB ?_;refine dL 6 ?_;refine aB ?_;rw [GI k];refine Az 3 4 7 41 42 45 (fun b1 b2 b3=>(!b2 || b1)) (fun b1 b2 b3 => !b2) (fun b1 b2 b3=>b1) (fun b1 b2 b3=>true) (fun b1 b2 b3 v1 v2 v3 w'=>Mv (some b) w1 w'∧(b1=true→Own w1.heap.size 1 5 w' v1 (aL [UInt8.ofNat k]))∧(b2=true→v2=aE [UInt8.ofNat k])∧dF w' b s (bif b3 then r2 else ⟨at1,0⟩)∧(b3=true→v3=aE t)) ?_ ?_ ?_ ?_ ?_
     ·exact ⟨hS2,aX,aX,x2.at h1,aX⟩
     ·rintro b1 b2 b3 v1 v2 v3 w3 hq ⟨m3,f1,f2,f3,f4⟩;have hb2:b2=false:=by revert hq;cases b2 <;> simp
      subst hb2;refine aB ?_;refine oN (k:=1) (e:=5) (bytes:=1) (xs:=[.int .u8 ((UInt8.ofNat k).toNat:Nat)]) (by simp [Value.cells]) fun v4 w4 x4 _ _ o4 => ?_;refine aB ?_;have o4':Own w1.heap.size 1 5 w4 v4 (aL [UInt8.ofNat k]):=(show Own w3.heap.size 1 5 w4 v4 (aL [UInt8.ofNat k]) from o4).weaken m3.size;refine aD ⟨m3.trans (x4.mv _),_,rfl,m3.trans (x4.mv _),fun _=>o4',aX,x4.at f3,f4⟩
     ·rintro b1 b2 b3 v1 v2 v3 w3 hq ⟨m3,f1,f2,f3,f4⟩;have hb1:b1=true:=by revert hq;cases b1 <;> simp
      subst hb1;refine aB ?_;have s1:=(f1 rfl).sl
      ((with_reducible refine aV ?_);(first | (refine gW ?_;refine eW ?_) | (refine mA ?_;refine nQ ?_;(with_reducible refine aV ?_);refine gW ?_;refine eW ?_)))
      refine aD ⟨m3,_,rfl,m3,fun _=>f1 rfl,fun _=>rfl,f3,f4⟩
     ·rintro b1 b2 b3 v1 v2 v3 w3 hq ⟨m3,f1,f2,f3,f4⟩;refine aB ?_;refine eY (hcT _ f3) fun w4 h4 m4 => ?_;refine aD ⟨m3.trans m4,_,rfl,m3.trans m4,fun e=>(f1 e).mv m4 (.inr ((f1 e).neBlock f3 aJ)),f2,h4,fun _=>rfl⟩
     ·rintro v1 v2 v3 w3 ⟨m3,f1,f2,f3,f4⟩;obtain rfl:=f2 rfl;obtain rfl:=f4 rfl;refine dL 8 ?_;refine aB ?_;refine dL 9 ?_;refine aB ?_;refine dL 10 ?_;refine aB ?_;refine cP zDk ?_;rw [show x.n ++ ([UInt8.ofNat k] ++ t)=x.n ++ (UInt8.ofNat k :: t) from rfl];have h3:dF w3 b s r2:=f3;have hlen2:(x.n ++ (UInt8.ofNat k :: t)).length≤1000:=by rw [List.length_append,List.length_cons];simp at htl;omega
      have hcw:=gO h3 (decide ((x.n ++ (UInt8.ofNat k :: t)).length < 255)) 2;have hd5:decide (((x.n ++ (UInt8.ofNat k :: t)).length:Int) < 255)=decide ((x.n ++ (UInt8.ofNat k :: t)).length < 255):=by by_cases h:(x.n ++ (UInt8.ofNat k :: t)).length < 255 <;> simp only [h,decide_true,decide_false,decide_eq_true_eq,decide_eq_false_iff_not] <;> omega
      generalize hN:x.n ++ (UInt8.ofNat k :: t)=N at *;generalize hR5:r2.want (decide (N.length < 255)) 2=r5 at *;refine_lift bK fun _ _ => ?_;rw [hd5];refine eY hcw fun w5 h5 m5 => ?_;refine_lift aR ?_;refine ⟨⟨iI s x k ⟨at1,0⟩,?_,?_,?_,hok2,?_,hm1.trans (m3.trans m5),f',aC,hst⟩,?_⟩
      ·rw [hNx]
      ·rw [hNx]
      ·rw [hNx]
      ·rw [hNx];exact h5
      ·rw [vJ hx,show Value.int .i64 x.begin_=.int .i64 (iI s x k ⟨at1,0⟩).begin_ by rw [hNx],vJ (by rw [hNx];exact h5)];exact hlt2
    ·refine_lift mP fun _ _ _ _ => ?_
     all_goals first
      | (exfalso;omega)
      | skip
     have hk256:k < 256:=by simpa using hk4
     have hcw:=gO h1 (decide (192≤k)) 2;have hdk:decide ((192:Int)≤(k:Nat))=decide (192≤k):=by by_cases h:192≤k <;> simp [h] <;> omega
     have hw2:=hr1.want (decide (192≤k)) (er:=2) aJ;rw [hdk];refine eY hcw fun w2 h2 m2 => ?_;have hcn:=eH h2 hw2 hs 1 aC aC;have hk2:=dQ s ((⟨at1,0⟩:RdS).want (decide (192≤k)) 2) 1 aC;have hr3:=cC (n:=1) hw2 hs aC;have hnT:nmTo s ⟨at1,0⟩ k=k * 256 % 16384 + (((⟨at1,0⟩:RdS).want (decide (192≤k)) 2).number s 1).1:=rfl;have hn4:∀ bg,AJ s ⟨at1,0⟩ k bg=(((⟨at1,0⟩:RdS).want (decide (192≤k)) 2).number s 1).2.want (decide ((nmTo s ⟨at1,0⟩ k:Int) < bg)) 2:=fun _=>rfl;have hto:=LK (s:=s) (r1:=⟨at1,0⟩) (k:=k);generalize ((⟨at1,0⟩:RdS).want (decide (192≤k)) 2).number s 1=T at *;obtain ⟨k2,r3⟩:=T;dsimp only at *;have hk2':k2 < 256:=by simpa using hk2
     refine_lift bK fun _ _ => ?_;refine aG (Runs.andN (m:=k * 256) (n:=16383) rfl rfl aC aJ) ?_;refine aB ?_;refine_lift aR ?_;refine eY hcn fun w3 h3 m3 => ?_;have hle:k * 256 &&& 16383≤k * 256:=Nat.and_le_left;refine aG (Runs.orN (m:=k * 256 &&& 16383) (n:=k2) rfl rfl aC aC) ?_;rw [VC k k2 hk2',← hnT];refine aB ?_;have hcw4:=gO h3 (decide ((nmTo s ⟨at1,0⟩ k:Int) < x.begin_)) 2;rw [← hn4] at hcw4;have hw4:=hr3.want (decide ((nmTo s ⟨at1,0⟩ k:Int) < x.begin_)) (er:=2) aJ;rw [← hn4] at hw4;have hNx:iI s x k ⟨at1,0⟩=⟨x.n,nmTo s ⟨at1,0⟩ k,if x.back < 0 then (AJ s ⟨at1,0⟩ k x.begin_).at_ else x.back,⟨nmTo s ⟨at1,0⟩ k,(AJ s ⟨at1,0⟩ k x.begin_).e⟩⟩:=by unfold iI;rw [if_neg c63]
     generalize AJ s ⟨at1,0⟩ k x.begin_=r4 at *;generalize nmTo s ⟨at1,0⟩ k=to at *;refine_lift bK fun _ _ => ?_;refine eY hcw4 fun w4 h4 m4 => ?_;have hp4:=aA (cs:=xX s r4) h4;have hm4:=hm1.trans (m2.trans (m3.trans m4));clear hp1;by_cases cb:x.back < 0
     ·rw [if_pos cb] at hNx;refine_lift iX fun _ => ?_
      all_goals first
       | (exfalso;omega)
       | skip
      refine eZ 1 (.int .i64 (to:Nat)) h4 rfl fun w5 p5 => ?_;have h5:dF w5 b s ⟨to,r4.e⟩:=p5.this;refine_lift aR ?_;refine ⟨⟨iI s x k ⟨at1,0⟩,?_,?_,?_,hok2,?_,hm4.trans p5.mv,f',aC,hst⟩,?_⟩
      ·rw [hNx]
      ·rw [hNx]
      ·rw [hNx]
      ·rw [hNx];exact h5
      ·rw [vJ hx,show Value.int .i64 ((to:Nat):Int)=.int .i64 (iI s x k ⟨at1,0⟩).begin_ by rw [hNx],vJ (by rw [hNx];exact h5)];exact hlt2
     ·rw [if_neg cb] at hNx;refine_lift iX fun _ => ?_
      all_goals first
       | (exfalso;omega)
       | skip
      refine eZ 1 (.int .i64 (to:Nat)) h4 rfl fun w5 p5 => ?_;have h5:dF w5 b s ⟨to,r4.e⟩:=p5.this;refine_lift aR ?_;refine ⟨⟨iI s x k ⟨at1,0⟩,?_,?_,?_,hok2,?_,hm4.trans p5.mv,f',aC,hst⟩,?_⟩
      ·rw [hNx]
      ·rw [hNx]
      ·rw [hNx]
      ·rw [hNx];exact h5
      ·rw [vJ hx,show Value.int .i64 ((to:Nat):Int)=.int .i64 (iI s x k ⟨at1,0⟩).begin_ by rw [hNx],vJ (by rw [hNx];exact h5)];exact hlt2
  ·rw [if_pos (.inl ce)] at hst;unfold HX at hst;dsimp only at hst;rw [if_pos ce] at hst;by_cases cb:0≤x.back
   ·rw [if_pos cb] at hst
    (repeat' first | ((with_reducible refine bH ?_);go_step) | ((with_reducible refine aV ?_);first | refine dR ?_ | (refine bO ?_ ?_ <;> intro hc)) | fail)
    all_goals first
     | (exfalso;omega)
     | (exfalso;have hh:=‹(!decide (e1=0))=false›;simp [ce] at hh;done)
     | skip
    refine eZ 1 (.int .i64 x.back) h1 rfl fun w2 p2 => ?_;have h2:dF w2 b s ⟨x.back,e1⟩:=p2.this;have hp2:=aA (cs:=xX s ⟨x.back,e1⟩) h2;clear hp1;refine_lift jD (fun _ => ?_) (fun _ => ?_)
    all_goals first
     | (exfalso;omega)
     | (exfalso;have hh:=‹(!decide (e1=0))=false›;simp [ce] at hh;done)
     | skip
    go_ret;rw [← hst];exact ⟨rfl,h2,hm1.trans p2.mv⟩
   ·rw [if_neg cb] at hst
    (repeat' first | ((with_reducible refine bH ?_);go_step) | ((with_reducible refine aV ?_);first | refine dR ?_ | (refine bO ?_ ?_ <;> intro hc)) | fail)
    all_goals first
     | (exfalso;omega)
     | (exfalso;have hh:=‹(!decide (e1=0))=false›;simp [ce] at hh;done)
     | skip
    go_ret;rw [← hst];exact ⟨rfl,h1,hm1⟩
end Go.Proofs.X
