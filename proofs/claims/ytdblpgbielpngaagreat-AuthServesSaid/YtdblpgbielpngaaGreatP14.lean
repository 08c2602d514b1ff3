/- Laws and walks that the proof of the statement is made of (part 14). -/
import Derived.Test.YtdblpgbielpngaaGreatP13
set_option linter.unusedSimpArgs false
set_option linter.unusedVariables false
set_option maxRecDepth 100000
set_option maxHeartbeats 20000000
namespace Go.Proofs.X
open Go.RowKit
variable {cs:Array Value} {held:Bool} {qt:Int} {ps rs:List (List UInt8 × Nat)} {ls:List (List UInt8)} {css css0 es:List (List Value)} {d l m n o qn s t x y z:List UInt8} {B a b base c e fuel i j k p q:Nat} {fz:Nat × Nat} {row:Option Nat} {r u v:Value} {w w' w0 w1 w2:World}
def WU (m:MsgR) (limit:Int):Nat→MsgR × List UInt8 × Int
 | 0=>oO m limit
 | k + 1=>tS m limit k
theorem QO (m:MsgR) (limit:Int) (k:Nat):WU m limit (k + 1)=if lO limit (dQ m k)=true then (dQ m k,(bU (dQ m k)).1,0) else WU m limit k:=by
 cases k <;> rfl
theorem ZF (m:MsgR) (q a u e:Value) (limit:Int) (w:World) (hm:MsgV w m q a u e) (hd:∀ r,r ∈ m.an∨r ∈ m.au∨r ∈ m.ex→r.data.length≤4611686018427387904):Calls Tryz.prog 22 #[.agg (aM m q a u e).toArray, .int .i64 limit] w (oQ w (HT w (rG m limit))):=by
 have hF:cS m=0∧1≤limit∧limit≤65535→WU m limit (m.ex.length + 1)=rG m limit:=fun cc=>by unfold rG;rw [if_neg aE];rfl
 have hF2:¬ (cS m=0∧1≤limit∧limit≤65535)→rG m limit=(zeroM,[],1):=fun cc=>by unfold rG;rw [if_pos aE]
 generalize rG m limit=RES at *;go_enter Tryz.func22,Tryz.ntmps22
 refine_lift mS fun _ _ => ?_;refine zV (vs:=aM m q a u e) fun w1 x1 s1 hb1 => ?_;refine aD ?_;refine fO (z:=fB) fun w2 x2 s2 hz2 => ?_;refine aD ?_;have x02:=x1.trans x2;have hb2:=x2.at hb1;have hpM:=aA (cs:=aM m q a u e) hb2;unfold aM at hpM;have hm2:=hm.ext x02;have z1:=x1.size;have z2:=x2.size;refine_lift qQ fun _ _ _ _ => ?_;refine cY (CG m q a u e _ hm2 hd) fun w3 x3 => ?_;have x03:=x02.trans x3;have hz3:=x3.at hz2;have hb3:=x3.at hb2;have hpM3:=hpM.ext x3;have hm3:=hm2.ext x3;have z3:=x3.size;have hw1:w.heap.size≤w1.heap.size:=z1;have hne:w.heap.size≠w1.heap.size:=aE;have hC:w1.heap.size < w3.heap.size:=aE;have hA:w.heap.size < w3.heap.size:=aE;have hpw:∀ wr,Ext w3 wr→Pts wr (.pointer (some ⟨w.heap.size,0,none⟩)) [.int .i64 m.id, .bool m.resp, .int .i64 m.op, .bool m.auth, .bool m.trunc, .bool m.want, .bool m.avail, .int .i64 m.rcode,q,a,u,e, .int .i64 m.size]:=fun wr x=>aA (cs:=aM m q a u e) (x.at hb3);clear hpM s1 s2;by_cases cc:cS m=0∧1≤limit∧limit≤65535
 ·have hok:=mX cc.1;have hRE:=hF cc;obtain ⟨c1,c2,c3⟩:=cc;have hql:=hok.ql;have hnl:=hok.nl;have hul:=hok.ul;have hel:=hok.el;have hrl:=aN m.ex;have hse:=hm3.ex
  (repeat' first | ((with_reducible refine cQ ?_);go_step) | ((with_reducible refine bM ?_);first | refine gR ?_ | (refine cV ?_ ?_ <;> intro hc)) | fail)
  all_goals first
   | (have hh:False:=aE
      exact hh.elim)
   | (have hh:False:=by
       have h9:=‹(!decide (cS m=0))=true›;rw [decide_eq_true c1] at h9;cases h9
      exact hh.elim)
   | skip
  clear hpM3;generalize hCe:w1.heap.size=C at *;go_loopw [7] (fun nv wr=>∃ j:Nat,j≤m.ex.length + 1∧nv=.int .i64 ((j:Int) - 1)∧Ext w3 wr∧WU m limit j=RES) (fun nv _=>(intOf nv + 1).toNat)
  case atStart=>exact ⟨m.ex.length + 1,Nat.le_refl _,by rw [hrl];go_num,Ext.refl _,hRE⟩
  case round =>
   obtain ⟨j,hj,rfl,hx,hE⟩:=hrel;have hpr:=hpw wr hx;have hmr:=hm3.ext hx;have hzr:=hx.at hz3;have zr:=hx.size;have x0r:=x03.trans hx;cases j with
   | zero =>
    have hE0:oO m limit=RES:=hE;refine_lift rI fun _ _ _ => ?_
    all_goals first
     | (have hh:False:=aE
        exact hh.elim)
     | skip
    refine gE (OG m q a u e _ hmr aE aE aE aE) ?_;rintro _ w4 x4 ⟨q',a',u',e',rfl,hW4⟩;refine aD ?_;refine fO (z:=fB) fun w5 x5 s5 h5 => ?_;refine aD ?_;have hW5:=hW4.ext x5;refine dS (v:=.agg (aM m q' a' u' e').toArray) h5 (bY hW5.msg) fun w6 p6 => ?_;have z4:=x4.size;have x46:=cH x5 p6;have hB6:w6.heap[w4.heap.size]? = some (.cells (aM m q' a' u' e').toArray 48 (0,0)):=p6.this;have hW6:=hW5.box h5 p6.mv;have xr6:=x4.trans x46;have hnC:C≠w4.heap.size:=aE;have hbw:wr.heap.size≤w4.heap.size:=z4;clear hpr p6 h5 x5 s5 hW5 hW4;generalize w4.heap.size=B at *;refine_lift cC fun _ _ => ?_;refine eS 4 (.bool true) hB6 rfl fun w7 p7 => ?_;have hB7:w7.heap[B]? = some (.cells ([.int .i64 m.id, .bool m.resp, .int .i64 m.op, .bool m.auth, .bool true, .bool m.want, .bool m.avail, .int .i64 m.rcode,q',a',u',e', .int .i64 m.size]:List Value).toArray 48 (0,0)):=p7.this;refine_lift cC fun _ _ => ?_;refine eS 9 aH hB7 rfl fun w8 p8 => ?_;have hB8:w8.heap[B]? = some (.cells ([.int .i64 m.id, .bool m.resp, .int .i64 m.op, .bool m.auth, .bool true, .bool m.want, .bool m.avail, .int .i64 m.rcode,q',aH,u',e', .int .i64 m.size]:List Value).toArray 48 (0,0)):=p8.this;refine_lift cC fun _ _ => ?_;refine eS 10 aH hB8 rfl fun w9 p9 => ?_;have hB9:w9.heap[B]? = some (.cells ([.int .i64 m.id, .bool m.resp, .int .i64 m.op, .bool m.auth, .bool true, .bool m.want, .bool m.avail, .int .i64 m.rcode,q',aH,aH,e', .int .i64 m.size]:List Value).toArray 48 (0,0)):=p9.this;refine_lift cC fun _ _ => ?_;refine eS 11 aH hB9 rfl fun w10 p10 => ?_;have hB10:w10.heap[B]? = some (.cells ([.int .i64 m.id, .bool m.resp, .int .i64 m.op, .bool m.auth, .bool true, .bool m.want, .bool m.avail, .int .i64 m.rcode,q',aH,aH,aH, .int .i64 m.size]:List Value).toArray 48 (0,0)):=p10.this;refine_lift cC fun _ _ => ?_;have m6:Mv (some B) w6 w10:=((p7.mv.trans p8.mv).trans p9.mv).trans p10.mv;have hW10:MsgW wr.heap.size w10 (rF m) q' aH aH aH:=⟨hW6.oq.mv m6 (.inr (hW6.oq.neBlock hB6 bG)),Own.nil _ _ _ _,Own.nil _ _ _ _,Own.nil _ _ _ _⟩;have xr10:Ext wr w10:=xr6.move m6 (by rintro k ⟨⟩;exact hbw);have hpB:=aA (cs:=aM (rF m) q' aH aH aH) hB10;unfold aM at hpB;clear p7 p8 p9 p10 hB7 hB8 hB9;refine_lift aX ?_;refine cY (tG hW10.msg (fun r hr=>by rcases hr with hr | hr | hr <;> cases hr)) fun w11 x11 => ?_;have hW11:=hW10.ext x11;have hz11:=x11.at (xr10.at hzr);have x011:=x0r.trans (xr10.trans x11);have hpB11:=hpB.ext x11;clear hpB;have hfe:=yF (limit:=limit) (x:=rF m);have hfd:lO limit (rF m)=(decide ((bU (rF m)).2=0) && decide (((bU (rF m)).1.length:Int)≤limit)):=rfl;unfold oO at hE0;by_cases hfit:lO limit (rF m)=true
    ·rw [if_pos hfit] at hE0;obtain ⟨f1,f2⟩:=hfe hfit;clear hfe hfd;generalize bU (rF m)=E at *;obtain ⟨eb,ee⟩:=E;dsimp only at *;subst f1;refine_lift rI fun _ _ _ => ?_
     all_goals first
      | (have hh:False:=aE
         exact hh.elim)
      | skip
     refine dS (v:=.agg (aM (rF m) q' aH aH aH).toArray) hz11 (bY hW11.msg) fun w12 p12 => ?_;have x12:=cH x011 p12;have hW12:=hW11.box hz11 p12.mv;refine_lift aX ?_
     (try simp only [Exit.inBlock,Exit.then,Exit.jump])
     refine bodyPost_ret (gF (cs:=aM (rF m) q' aH aH aH) rfl rfl p12.this (aR:qN Tryz.prog 48 13=true)) rfl ⟨_,rfl,x12,?_⟩;rw [← hE0];exact ⟨_,_,_,_,rfl,hW12.msg⟩
    ·rw [if_neg hfit] at hE0;have hnf:¬ ((bU (rF m)).2=0∧((bU (rF m)).1.length:Int)≤limit):=by rintro ⟨h1,h2⟩;exact hfit (by rw [hfd];simp [h1,h2])
     clear hfe hfd hfit;generalize bU (rF m)=E at *;obtain ⟨eb,ee⟩:=E;dsimp only at *
     (repeat' first | ((with_reducible refine cQ ?_);go_step) | ((with_reducible refine bM ?_);first | refine gR ?_ | (refine cV ?_ ?_ <;> intro hc)) | fail)
     all_goals first
      | (have hh:False:=aE
         exact hh.elim)
      | skip
     all_goals first
      | (have hh:False:=by
          have h9:=‹(!decide (ee=0))=false›;simp only [Bool.not_eq_false',decide_eq_true_eq] at h9;omega
         exact hh.elim)
      | skip
     all_goals refine aS (v:=.agg fB.toArray) (Runs.build0 (by kernel_rfl)) ?_
     all_goals refine aD ?_
     all_goals refine dS (v:=.agg fB.toArray) hz11 aR ?_
     all_goals intro w12 p12
     all_goals have x12:=cH x011 p12
     all_goals refine_lift aX ?_
     all_goals (try simp only [Exit.inBlock,Exit.then,Exit.jump])
     all_goals refine bodyPost_ret (gF (cs:=fB) rfl rfl p12.this aR) rfl ⟨_,rfl,x12,?_⟩
     all_goals rw [← hE0]
     all_goals exact ⟨_,_,_,_,rfl,MsgV.zero _⟩
   | succ k =>
    rw [QO] at hE;rw [show (((k + 1:Nat):Int) - 1)=((k:Nat):Int) by omega];refine_lift DI ?_;intro _ _ _ _ _ _
    all_goals first
     | (have hh:False:=aE
        exact hh.elim)
     | skip
    refine gE (OG m q a u e _ hmr aE aE aE aE) ?_;rintro _ w4 x4 ⟨q',a',u',e',rfl,hW4⟩;refine aD ?_;refine fO (z:=fB) fun w5 x5 s5 h5 => ?_;refine aD ?_;have hW5:=hW4.ext x5;refine dS (v:=.agg (aM m q' a' u' e').toArray) h5 (bY hW5.msg) fun w6 p6 => ?_;have z4:=x4.size;have x46:=cH x5 p6;have hB6:w6.heap[w4.heap.size]? = some (.cells (aM m q' a' u' e').toArray 48 (0,0)):=p6.this;have hW6:=hW5.box h5 p6.mv;have xr6:=x4.trans x46;have hnC:C≠w4.heap.size:=aE;have hbw:wr.heap.size≤w4.heap.size:=z4;clear hpr p6 h5 x5 s5 hW5 hW4;generalize w4.heap.size=B at *;have hpB:=aA (cs:=aM m q' a' u' e') hB6;unfold aM at hpB;refine_lift cC fun _ _ => ?_;have hk:k≤m.ex.length:=aE;refine aS (v:=dG e' 4 0 k) (Runs.toN rfl hW6.oe.sl (by rw [hrl];exact hk) aR) ?_;refine aD ?_;refine_lift aX ?_;have oe7:=hW6.oe.cut0 (n:=k) (by rw [hrl];exact hk);refine eS 11 (dG e' 4 0 k) hB6 oe7.one fun w7 p7 => ?_;have hB7:w7.heap[B]? = some (.cells (aM (dQ m k) q' a' u' (dG e' 4 0 k)).toArray 48 (0,0)):=p7.this;have hW7:MsgW wr.heap.size w7 (dQ m k) q' a' u' (dG e' 4 0 k):=⟨cM hW6.oq p7 hB6,cM hW6.oa p7 hB6,cM hW6.ou p7 hB6,by
     have:=cM oe7 p7 hB6;rw [aJ,← List.map_take] at this;exact this⟩
    have xr7:=cH xr6 p7;clear hpB;have hpB:=aA (cs:=aM (dQ m k) q' a' u' (dG e' 4 0 k)) hB7;unfold aM at hpB;refine_lift cC fun _ _ => ?_;refine cY (tG hW7.msg (fun r hr=>hd r (hr.imp id (Or.imp id List.mem_of_mem_take)))) fun w8 x8 => ?_;have hB8:=x8.at hB7;have hW8:=hW7.ext x8;have hz8:=x8.at (xr7.at hzr);have x38:=hx.trans (xr7.trans x8);have x08:=x03.trans x38;have hpB8:=hpB.ext x8;clear hpB;have hfe:=yF (limit:=limit) (x:=dQ m k);have hfd:lO limit (dQ m k)=(decide ((bU (dQ m k)).2=0) && decide (((bU (dQ m k)).1.length:Int)≤limit)):=rfl;by_cases hfit:lO limit (dQ m k)=true
    ·rw [if_pos hfit] at hE;obtain ⟨f1,f2⟩:=hfe hfit;clear hfe hfd;generalize bU (dQ m k)=E at *;obtain ⟨eb,ee⟩:=E;dsimp only at *;subst f1;refine_lift rI fun _ _ _ => ?_
     all_goals first
      | (have hh:False:=aE
         exact hh.elim)
      | skip
     refine dS (v:=.agg (aM (dQ m k) q' a' u' (dG e' 4 0 k)).toArray) hz8 (bY hW8.msg) fun w9 p9 => ?_;have x9:=cH x08 p9;have hW9:=hW8.box hz8 p9.mv;refine_lift aX ?_
     (try simp only [Exit.inBlock,Exit.then,Exit.jump])
     refine bodyPost_ret (gF (cs:=aM (dQ m k) q' a' u' (dG e' 4 0 k)) rfl rfl p9.this (aR:qN Tryz.prog 48 13=true)) rfl ⟨_,rfl,x9,?_⟩;rw [← hE];exact ⟨_,_,_,_,rfl,hW9.msg⟩
    ·rw [if_neg hfit] at hE;have hnf:¬ ((bU (dQ m k)).2=0∧((bU (dQ m k)).1.length:Int)≤limit):=by rintro ⟨h1,h2⟩;exact hfit (by rw [hfd];simp [h1,h2])
     clear hfe hfd hfit;generalize bU (dQ m k)=E at *;obtain ⟨eb,ee⟩:=E;dsimp only at *;refine_lift RP (fun hc => ?_) (fun hc _ => ?_)
     all_goals first
      | (have hh:False:=aE
         exact hh.elim)
      | skip
     all_goals exact ⟨⟨k,aE,by go_num,x38,hE⟩,by simp [intOf]⟩
 ·have hRE:=hF2 cc
  (repeat' first | ((with_reducible refine cQ ?_);go_step) | ((with_reducible refine bM ?_);first | refine gR ?_ | (refine cV ?_ ?_ <;> intro hc)) | fail)
  all_goals first
   | (have hh:False:=aE
      exact hh.elim)
   | (have hh:False:=by
       have h9:=‹(!decide (cS m=0))=false›;simp only [Bool.not_eq_false',decide_eq_true_eq] at h9;omega
      exact hh.elim)
   | skip
  all_goals refine aS (v:=.agg fB.toArray) (Runs.build0 (by kernel_rfl)) ?_
  all_goals refine aD ?_
  all_goals refine dS (v:=.agg fB.toArray) hz3 aR ?_
  all_goals intro w6 p6
  all_goals have x6:=cH x03 p6
  all_goals refine_lift aX ?_
  all_goals (try simp only [Exit.inBlock,Exit.then,Exit.jump])
  all_goals refine bodyPost_ret (gF (cs:=fB) rfl rfl p6.this aR) rfl ⟨_,rfl,x6,?_⟩
  all_goals rw [hRE]
  all_goals exact ⟨_,_,_,_,rfl,MsgV.zero _⟩
def dF (w:World) (b:Nat) (s:List UInt8) (r:RdS):Prop:=w.heap[b]? = some (.cells (jX s r).toArray 100 (0,0))
def nU (w:World) (b:Nat) (s:List UInt8) (v:Value) (r:RdS) (e:Ending) (w':World):Prop:=e=.returned v∧dF w' b s r∧Mv (some b) w w'
theorem fM {r:RdS} (h:dF w b s r) (er:Int):Calls Tryz.prog 46 #[.pointer (some ⟨b,0,none⟩), .int .i64 er] w (nU w b s (.tuple #[]) (r.want false er)):=by
 have hp:=aA (cs:=jX s r) h;go_enter Tryz.func46,Tryz.ntmps46
 by_cases c1:r.e=0
 ·have hE:r.want false er=⟨r.at_,er⟩:=by unfold RdS.want;rw [if_pos ⟨c1,rfl⟩]
  refine_lift jS fun _ => ?_
  all_goals first
   | (have hh:False:=absurd c1 (by assumption)
      exact hh.elim)
   | skip
  refine eS 2 (.int .i64 er) h rfl fun w1 p1 => ?_;have h1:dF w1 b s ⟨r.at_,er⟩:=p1.this;refine_lift aX ?_
  ((try simp only [Exit.inBlock,Exit.then]);refine bodyPost_ret (results_none rfl _ _ _) rfl ?_)
  rw [hE];exact ⟨rfl,h1,p1.mv⟩
 ·have hE:r.want false er=r:=by unfold RdS.want;rw [if_neg (fun h=>c1 h.1)]
  refine_lift jS fun _ => ?_
  all_goals first
   | (have hh:False:=absurd (by assumption) c1
      exact hh.elim)
   | skip
  ((try simp only [Exit.inBlock,Exit.then]);refine bodyPost_ret (results_none rfl _ _ _) rfl ?_)
  rw [hE];exact ⟨rfl,h,Mv.refl _ _⟩
theorem tI {r:RdS} (h:dF w b s r) (hr:r.Ok s) (hs:s.length≤100000000) (n:Int) (h0:0≤n) (h1:n≤100000000):Calls Tryz.prog 88 #[.pointer (some ⟨b,0,none⟩), .int .i64 n] w (nU w b s (aI (r.take s n).1) (r.take s n).2):=by
 have hp:=aA (cs:=jX s r) h;have a0:=hr.lo;have a1:=hr.hi;have a2:=hr.far;have hfl:∀ w',dF w' b s r→Calls Tryz.prog 46 #[.pointer (some ⟨b,0,none⟩), .int .i64 3] w' (nU w' b s (.tuple #[]) (r.want false 3)):=fun w' h'=>fM h' 3;go_enter Tryz.func88,Tryz.ntmps88
 refine_lift qQ fun _ _ _ _ => ?_;by_cases c1:r.e=0
 ·by_cases c2:(s.length:Int) - r.at_ < n
  ·have hR:r.take s n=([],r.want false 3):=by unfold RdS.take RdS.want;rw [if_neg aE,if_pos c2,if_pos ⟨c1,rfl⟩]
   refine bS aR aR ?_;refine_lift oR ?_;rw [show (!decide (r.e=0))=false by rw [decide_eq_true c1];rfl];refine_lift oR ?_;rw [decide_eq_true c2];refine_lift oR ?_;intro w1 x1;refine_lift cC fun _ _ => ?_;refine bK (hfl _ (x1.at h)) fun w2 h2 m2 => ?_;refine_lift aX ?_;go_ret;rw [hR];exact ⟨rfl,h2,(x1.mv _).trans m2⟩
  ·have hR:r.take s n=((s.drop r.at_.toNat).take n.toNat,⟨r.at_ + n,0⟩):=by unfold RdS.take;rw [if_neg aE,if_neg aE]
   refine bS aR aR ?_;refine_lift oR ?_;rw [show (!decide (r.e=0))=false by rw [decide_eq_true c1];rfl];refine_lift oR ?_;rw [decide_eq_false c2];refine_lift oR ?_;intro w1 x1;have hp1:=hp.ext x1;have h1':dF w1 b s r:=x1.at h;clear hp;refine_lift cC fun _ _ => ?_;refine eS 1 (.int .i64 (r.at_ + n)) h1' rfl fun w3 p3 => ?_;have h3:dF w3 b s ⟨r.at_ + n,r.e⟩:=p3.this;have hp3:=aA (cs:=jX s ⟨r.at_ + n,r.e⟩) h3;have a3:=a1 c1;clear hp1;refine_lift cC fun _ _ => ?_;refine bS aR aR ?_;refine_lift oR ?_;intro w4 x4;refine_lift aX ?_;go_ret;rw [hR];refine ⟨?_,by rw [← c1];exact x4.at h3,(x1.mv _).trans (p3.mv.trans (x4.mv _))⟩;have e:List.drop (r.at_ + n - n).toNat (List.take (r.at_ + n).toNat s)=(s.drop r.at_.toNat).take n.toNat:=by
    rw [show r.at_ + n - n=r.at_ by omega,List.drop_take,show (r.at_ + n).toNat - r.at_.toNat=n.toNat by omega]
   show Ending.returned (aI _)=_;rw [e]
 ·have hR:r.take s n=([],r):=by unfold RdS.take;rw [if_pos c1]
  have hW:r.want false 3=r:=by unfold RdS.want;rw [if_neg (fun h=>c1 h.1)]
  rw [hW] at hfl;refine bS aR aR ?_;refine_lift oR ?_;rw [show (!decide (r.e=0))=true by rw [decide_eq_false c1];rfl];refine_lift oR ?_;intro w1 x1;refine_lift cC fun _ _ => ?_;refine bK (hfl _ (x1.at h)) fun w2 h2 m2 => ?_;refine_lift aX ?_;go_ret;rw [hR];exact ⟨rfl,h2,(x1.mv _).trans m2⟩
theorem QP (l:List UInt8):numU l l.length=numN l:=by
 unfold numU numN;rw [List.take_length]
 congr 1
 funext n c
 omega
theorem eU {r:RdS} (h:dF w b s r) (hr:r.Ok s) (hs:s.length≤100000000) (n:Int) (h0:0≤n) (h1:n≤4):Calls Tryz.prog 45 #[.pointer (some ⟨b,0,none⟩), .int .i64 n] w (nU w b s (.int .i64 ((r.number s n).1:Nat)) (r.number s n).2):=by
 have htl:=gJ s r n;have hct:=fun w h=>tI (w:=w) (b:=b) h hr hs n h0 aE;unfold RdS.number;generalize r.take s n=T at *;obtain ⟨l,r'⟩:=T;dsimp only at *;go_enter Tryz.func45,Tryz.ntmps45
 refine_lift cC fun _ _ => ?_;refine bK (hct w h) fun w1 h1' m1 => ?_;refine_lift aX ?_;have h9:=ET l w1 aE;rw [QP] at h9;refine cY h9 fun w2 x2 => ?_;refine_lift aX ?_;go_ret;exact ⟨rfl,x2.at h1',m1.trans (x2.mv _)⟩
theorem jG {x:NmS} (h:dF w b s x.r):ZM s b (.int .i64 x.begin_) w=IA s x:=by
 unfold dF at h;unfold ZM;rw [h];simp [jX,intOf,IA]
theorem eN {r:RdS} {n:Int} (h:¬ r.e=0):r.number s n=(0,r):=by
 unfold RdS.number RdS.take;rw [if_pos h];rfl
theorem ZG {x:NmS} {at1:Int} (f:Nat) (hf:IA s (dK s x k ⟨at1,0⟩) < f) (c1:¬ k≤63) (c2:k < 192) (h0:0≤at1):CI s f (dK s x k ⟨at1,0⟩)=([],if 0≤x.back then ⟨x.back,2⟩ else ⟨at1,2⟩):=by
 obtain ⟨g,rfl⟩:∃ g,f=g + 1:=⟨f - 1,aE⟩;have hw:RdS.want ⟨at1,0⟩ (decide (192≤k)) 2=⟨at1,2⟩:=by
  rw [decide_eq_false aE];rfl
 have hn:RdS.number s ⟨at1,2⟩ 1=(0,⟨at1,2⟩):=eN (show ¬ (2:Int)=0 by decide);have h4:∀ bg,rD s ⟨at1,0⟩ k bg=⟨at1,2⟩:=fun bg=>by
  unfold rD;rw [hw,hn];unfold RdS.want;rw [if_neg (fun h=>absurd h.1 (show ¬ (2:Int)=0 by decide))]
 unfold dK;rw [if_neg c1,h4];unfold CI;have he:∀ to,RdS.number s ⟨to,2⟩ 1=(0,⟨to,2⟩):=fun to=>eN (show ¬ (2:Int)=0 by decide);rw [he];rw [if_pos (.inl (show (2:Int)≠0 by decide))];unfold wL;dsimp only;rw [if_pos (show (2:Int)≠0 by decide)];by_cases cb:x.back < 0
 ·rw [if_pos cb,if_pos h0,if_neg (show ¬ 0≤x.back by omega)]
 ·rw [if_neg cb,if_pos (show 0≤x.back by omega),if_pos (show 0≤x.back by omega)]
def At (s:List UInt8) (r:RdS) (b:Nat) (w:World) (x:NmS) (wr:World):Prop:=NmOk s x∧dF wr b s x.r∧Mv (some b) w wr∧∃ f,IA s x < f∧CI s f x=eT s r
theorem HW {r:RdS} (h:dF w b s r) (hr:r.Ok s) (hs:s.length≤100000000):Calls Tryz.prog 47 #[.pointer (some ⟨b,0,none⟩)] w (nU w b s (aI (eT s r).1) (eT s r).2):=by
 have hp:=aA (cs:=jX s r) h;have h0:At s r b w ⟨[],r.at_,-1,r⟩ w:=⟨(qH hr).1,h,Mv.refl _ _,_,(qH hr).2,rfl⟩;go_enter Tryz.func47,Tryz.ntmps47
 refine_lift cC fun _ _ => ?_;go_loopw [3,4,5,6,7] (fun n bg bk _ _ wr=>∃ x:NmS,n=aI x.n∧bg=.int .i64 x.begin_∧bk=.int .i64 x.back∧At s r b w x wr) (fun _ bg _ _ _ wr=>ZM s b bg wr)
 case atStart=>exact ⟨_,rfl,rfl,rfl,h0⟩
 case round =>
  obtain ⟨x,rfl,rfl,rfl,hok,hx,hm,f,hf,hgo⟩:=hrel;have hpT:=aA (cs:=jX s x.r) hx;obtain ⟨f',rfl⟩:∃ f',f=f' + 1:=⟨f - 1,aE⟩;unfold CI at hgo;clear hp;by_cases c0:x.r.e=0
  ·have hcn:=eU hx hok.r hs 1 aE aE;have hk4:=bQ s x.r 1 aE;have hnx:=fun he=>hok.next hs he;have hr1:=bH (n:=1) hok.r hs aE;have hst:=hgo;clear hgo;generalize hT:x.r.number s 1=T at *;obtain ⟨k,r1⟩:=T;dsimp only at *;refine_lift qQ ?_;intro _ _ _ _
   all_goals first
    | (have hh:False:=aE
       exact hh.elim)
    | (have hh:False:=absurd c0 (by assumption)
       exact hh.elim)
    | skip
   refine bK hcn fun w1 h1 m1 => ?_;have hpT:=aA (cs:=jX s r1) h1;have hm1:=hm.trans m1;clear hcn;obtain ⟨at1,e1⟩:=r1;dsimp only at *;by_cases ce:e1=0
   ·subst ce;by_cases ck:k=0
    ·subst ck;rw [if_pos (.inr rfl)] at hst;unfold wL at hst;dsimp only at hst;rw [if_neg bG] at hst;by_cases cb:0≤x.back
     ·rw [if_pos cb] at hst;refine_lift qQ fun _ _ _ _ => ?_
      all_goals first
       | (have hh:False:=aE
          exact hh.elim)
       | fail
       | skip
      refine eS 1 (.int .i64 x.back) h1 rfl fun w9 p9 => ?_;have h9':dF w9 b s ⟨x.back,0⟩:=p9.this;have hp9:=aA (cs:=jX s ⟨x.back,0⟩) h9';clear hpT;refine_lift aX ?_
      all_goals first
       | (have hh:False:=aE
          exact hh.elim)
       | fail
       | skip
      go_ret;rw [← hst];exact ⟨rfl,h9',hm1.trans p9.mv⟩
     ·rw [if_neg cb] at hst;refine_lift cC fun _ _ => ?_
      all_goals first
       | (have hh:False:=aE
          exact hh.elim)
       | fail
       | skip
      go_ret;rw [← hst];exact ⟨rfl,h1,hm1⟩
    ·rw [if_neg (by rintro (h | h);exact h rfl;exact ck h)] at hst;obtain ⟨hok2,hlt2⟩:=hnx rfl;by_cases c63:k≤63
     ·refine_lift DI fun _ _ _ _ _ _ => ?_
      all_goals first
       | (have hh:False:=aE
          exact hh.elim)
       | fail
       | skip
      have hk256:k < 256:=aE;have hn1:=hok.n1;have htl:=gJ s ⟨at1,0⟩ k;have hr2:=hr1.take hs (n:=(k:Int)) aE;have hNx:dK s x k ⟨at1,0⟩=⟨x.n ++ (UInt8.ofNat k :: (RdS.take s ⟨at1,0⟩ k).1),x.begin_,x.back,(RdS.take s ⟨at1,0⟩ k).2.want (decide ((x.n ++ (UInt8.ofNat k :: (RdS.take s ⟨at1,0⟩ k).1)).length < 255)) 2⟩:=by unfold dK;rw [if_pos c63]
      have hcT:=fun w' (h':dF w' b s ⟨at1,0⟩)=>tI h' hr1 hs (k:Int) aE aE;generalize RdS.take s ⟨at1,0⟩ k=T at *;obtain ⟨t,r2⟩:=T;dsimp only at *;refine dV (S:=fun w'=>Mv (some b) w1 w') aR ?_;intro w2 x2 _;have hS2:Mv (some b) w1 w2:=x2.mv _;refine jI 0 ?_;refine aD ?_;refine jI 1 ?_;refine aD ?_;refine jI 2 ?_;refine aD ?_;refine jI 6 ?_;refine aD ?_;refine jI 7 ?_;refine aD ?_;rw [vP k];refine ZP 3 4 5 8 33 34 35 38 (fun b1 b2 b3 b4=>(!b2 || b1) && (!b3 || b2)) (fun b1 b2 b3 b4 => !b2) (fun b1 b2 b3 b4=>b1 && !b3) (fun b1 b2 b3 b4=>b2) (fun b1 b2 b3 b4=>true) (fun b1 b2 b3 b4 v1 v2 v3 v4 w'=>Mv (some b) w1 w'∧(b1=true→Own w1.heap.size 1 5 w' v1 (aL [UInt8.ofNat k]))∧(b2=true→v2=aI [UInt8.ofNat k])∧(b3=true→v3=aI (x.n ++ [UInt8.ofNat k]))∧dF w' b s (bif b4 then r2 else ⟨at1,0⟩)∧(b4=true→v4=aI t)) ?_ ?_ ?_ ?_ ?_ ?_
      ·exact ⟨hS2,bP,bP,bP,x2.at h1,bP⟩
      ·rintro b1 b2 b3 b4 v1 v2 v3 v4 w3 hq ⟨m3,f1,f2,f3,f4,f5⟩;have hb2:b2=false:=by revert hq;cases b2 <;> simp
       subst hb2;have hb3:b3=false:=by revert hq;cases b3 <;> simp
       subst hb3;refine aD ?_;refine nG (k:=1) (e:=5) (bytes:=1) (xs:=[.int .u8 ((UInt8.ofNat k).toNat:Nat)]) (by simp [Value.cells]) fun v4' w4 x4 _ _ o4 => ?_;refine aD ?_;have o4':Own w1.heap.size 1 5 w4 v4' (aL [UInt8.ofNat k]):=(show Own w3.heap.size 1 5 w4 v4' (aL [UInt8.ofNat k]) from o4).weaken m3.size;exact aG ⟨m3.trans (x4.mv _),_,rfl,m3.trans (x4.mv _),fun _=>o4',bP,bP,x4.at f4,f5⟩
      ·rintro b1 b2 b3 b4 v1 v2 v3 v4 w3 hq ⟨m3,f1,f2,f3,f4,f5⟩;have hb1:b1=true:=by revert hq;cases b1 <;> simp
       subst hb1;have hb3:b3=false:=by revert hq;cases b3 <;> simp
       subst hb3;refine aD ?_;have s1:=(f1 rfl).sl
       ((with_reducible refine bM ?_);(first | (refine iX ?_;refine fG ?_) | (refine nV ?_;refine oW ?_;(with_reducible refine bM ?_);refine iX ?_;refine fG ?_)))
       exact aG ⟨m3,_,rfl,m3,fun _=>f1 rfl,fun _=>rfl,bP,f4,f5⟩
      ·rintro b1 b2 b3 b4 v1 v2 v3 v4 w3 hq ⟨m3,f1,f2,f3,f4,f5⟩;have hb2:b2=true:=by revert hq;cases b2 <;> simp
       subst hb2;have g2:=f2 rfl;subst g2;refine aD ?_
       ((with_reducible refine bM ?_);(first | (refine iX ?_;refine fG ?_) | (refine nV ?_;refine oW ?_;(with_reducible refine bM ?_);refine iX ?_;refine fG ?_)))
       exact aG ⟨m3,_,rfl,m3,f1,bP,bP,f4,f5⟩
      ·rintro b1 b2 b3 b4 v1 v2 v3 v4 w3 hq ⟨m3,f1,f2,f3,f4,f5⟩;refine aD ?_;refine bK (hcT _ f4) fun w4 h4 m4 => ?_;exact aG ⟨m3.trans m4,_,rfl,m3.trans m4,fun e=>(f1 e).mv m4 (.inr ((f1 e).neBlock f4 bG)),f2,f3,h4,fun _=>rfl⟩
      ·rintro v1 v2 v3 v4 w3 ⟨m3,f1,f2,f3,f4,f5⟩;obtain rfl:=f2 rfl;obtain rfl:=f3 rfl;obtain rfl:=f5 rfl;clear f1 f2 f3 f5;refine jI 9 ?_;refine aD ?_;refine jI 10 ?_;refine aD ?_;refine dR aR ?_;rw [show x.n ++ [UInt8.ofNat k] ++ t=x.n ++ (UInt8.ofNat k :: t) by simp];have h3:dF w3 b s r2:=f4;have hlen2:(x.n ++ (UInt8.ofNat k :: t)).length≤1000:=by rw [List.length_append,List.length_cons];simp at htl;omega
       generalize hN:x.n ++ (UInt8.ofNat k :: t)=N at *;have hp3:=aA (cs:=jX s r2) h3;clear hpT;by_cases cl:N.length < 255
       ·rw [decide_eq_true cl,show r2.want true 2=r2 from gY rfl] at hNx;refine_lift jS fun _ => ?_
        all_goals first
         | (have hh:False:=aE
            exact hh.elim)
         | fail
         | skip
        refine ⟨⟨dK s x k ⟨at1,0⟩,?_,?_,?_,hok2,?_,hm1.trans m3,f',aE,hst⟩,?_⟩
        ·rw [hNx]
        ·rw [hNx]
        ·rw [hNx]
        ·rw [hNx];exact h3
        ·rw [jG hx,show Value.int .i64 x.begin_=.int .i64 (dK s x k ⟨at1,0⟩).begin_ by rw [hNx],jG (by rw [hNx];exact h3)];exact hlt2
       ·rw [decide_eq_false cl] at hNx;have hcw:=fM h3 2;generalize hR5:r2.want false 2=r5 at *;refine_lift rI fun _ _ _ => ?_
        all_goals first
         | (have hh:False:=aE
            exact hh.elim)
         | fail
         | skip
        refine bK hcw fun w5 h5 m5 => ?_;refine_lift aX ?_;refine ⟨⟨dK s x k ⟨at1,0⟩,?_,?_,?_,hok2,?_,hm1.trans (m3.trans m5),f',aE,hst⟩,?_⟩
        ·rw [hNx]
        ·rw [hNx]
        ·rw [hNx]
        ·rw [hNx];exact h5
        ·rw [jG hx,show Value.int .i64 x.begin_=.int .i64 (dK s x k ⟨at1,0⟩).begin_ by rw [hNx],jG (by rw [hNx];exact h5)];exact hlt2
     ·by_cases c192:k < 192
      ·have hbad:=ZG (s:=s) (x:=x) (k:=k) (at1:=at1) f' aE c63 c192 hr1.lo;rw [hbad] at hst;have hcw:Calls Tryz.prog 46 #[.pointer (some ⟨b,0,none⟩), .int .i64 2] w1 (nU w1 b s (.tuple #[]) ⟨at1,2⟩):=fM h1 2;refine_lift Bc fun _ _ _ _ _ _ _ => ?_
       all_goals first
        | (have hh:False:=aE
           exact hh.elim)
        | fail
        | skip
       refine bK hcw fun w5 h5 m5 => ?_;have hm5:=hm1.trans m5;have hpT:=aA (cs:=jX s ⟨at1,2⟩) h5;by_cases cb:0≤x.back
       ·rw [if_pos cb] at hst;refine_lift rI fun _ _ _ => ?_
        all_goals first
         | (have hh:False:=aE
            exact hh.elim)
         | fail
         | skip
        refine eS 1 (.int .i64 x.back) h5 rfl fun w9 p9 => ?_;have h9':dF w9 b s ⟨x.back,2⟩:=p9.this;have hp9:=aA (cs:=jX s ⟨x.back,2⟩) h9';clear hpT;refine_lift jS fun _ => ?_
        all_goals first
         | (have hh:False:=aE
            exact hh.elim)
         | fail
         | skip
        go_ret;rw [← hst];exact ⟨rfl,h9',hm5.trans p9.mv⟩
       ·rw [if_neg cb] at hst;refine_lift qQ fun _ _ _ _ => ?_
        all_goals first
         | (have hh:False:=aE
            exact hh.elim)
         | fail
         | skip
        go_ret;rw [← hst];exact ⟨rfl,h5,hm5⟩
      ·have hk256:k < 256:=by simpa using hk4
       have hw:(⟨at1,0⟩:RdS).want (decide (192≤k)) 2=⟨at1,0⟩:=gY (decide_eq_true aE);have hcn:=fun w' (h':dF w' b s ⟨at1,0⟩)=>eU h' hr1 hs 1 aE aE;have hk2:=bQ s ⟨at1,0⟩ 1 aE;have hr3:=bH (n:=1) hr1 hs aE;have hnT:nmTo s ⟨at1,0⟩ k=k * 256 % 16384 + ((⟨at1,0⟩:RdS).number s 1).1:=by unfold nmTo;rw [hw]
       have hn4:rD s ⟨at1,0⟩ k x.begin_=((⟨at1,0⟩:RdS).number s 1).2.want (decide ((nmTo s ⟨at1,0⟩ k:Int) < x.begin_)) 2:=by unfold rD;rw [hw]
       have hto:=HI (s:=s) (r1:=⟨at1,0⟩) (k:=k);have hNx:dK s x k ⟨at1,0⟩=⟨x.n,nmTo s ⟨at1,0⟩ k,if x.back < 0 then (rD s ⟨at1,0⟩ k x.begin_).at_ else x.back,⟨nmTo s ⟨at1,0⟩ k,(rD s ⟨at1,0⟩ k x.begin_).e⟩⟩:=by unfold dK;rw [if_neg c63]
       generalize (⟨at1,0⟩:RdS).number s 1=T at *;obtain ⟨k2,r3⟩:=T;dsimp only at *;have hk2':k2 < 256:=by simpa using hk2
       have hto2:((256:Int) * ((k:Nat) - 192) + (k2:Nat))=((nmTo s ⟨at1,0⟩ k:Nat):Int):=by rw [hnT];omega
       generalize rD s ⟨at1,0⟩ k x.begin_=r4 at *;generalize nmTo s ⟨at1,0⟩ k=to at *;refine_lift QV fun _ _ _ _ _ => ?_
       all_goals first
        | (have hh:False:=aE
           exact hh.elim)
        | fail
        | skip
       refine bK (hcn _ h1) fun w3 h3 m3 => ?_;have hpT:=aA (cs:=jX s r3) h3;by_cases c3:r3.e=0
       ·by_cases ct:((to:Nat):Int) < x.begin_
        ·have hr4:r4=r3:=by rw [hn4,decide_eq_true ct];exact gY rfl
         subst hr4;have hp4:=aA (cs:=jX s r4) h3;by_cases cb:x.back < 0
         ·rw [if_pos cb] at hNx;refine_lift rI fun hc _ _ => ?_
          all_goals first
           | (have hh:False:=aE
              exact hh.elim)
           | (have hh:False:=absurd c3 (by assumption)
              exact hh.elim)
           | skip
          refine eS 1 (.int .i64 (256 * (((k:Nat):Int) - 192) + ((k2:Nat):Int))) h3 rfl fun w5 p5 => ?_;have h5:dF w5 b s ⟨(256 * (((k:Nat):Int) - 192) + ((k2:Nat):Int)),r4.e⟩:=p5.this;rw [hto2] at h5;refine_lift aX ?_;refine ⟨⟨dK s x k ⟨at1,0⟩,?_,?_,?_,hok2,?_,(hm1.trans m3).trans p5.mv,f',aE,hst⟩,?_⟩
          ·rw [hNx]
          ·rw [hNx];exact congrArg (Value.int .i64) hto2
          ·rw [hNx]
          ·rw [hNx];exact h5
          ·rw [jG hx,show Value.int .i64 (256 * (((k:Nat):Int) - 192) + ((k2:Nat):Int))=.int .i64 (dK s x k ⟨at1,0⟩).begin_ by rw [hNx];exact congrArg (Value.int .i64) hto2,jG (by rw [hNx];exact h5)];exact hlt2
         ·rw [if_neg cb] at hNx;refine_lift rI fun hc _ _ => ?_
          all_goals first
           | (have hh:False:=aE
              exact hh.elim)
           | (have hh:False:=absurd c3 (by assumption)
              exact hh.elim)
           | skip
          refine eS 1 (.int .i64 (256 * (((k:Nat):Int) - 192) + ((k2:Nat):Int))) h3 rfl fun w5 p5 => ?_;have h5:dF w5 b s ⟨(256 * (((k:Nat):Int) - 192) + ((k2:Nat):Int)),r4.e⟩:=p5.this;rw [hto2] at h5;refine_lift aX ?_;refine ⟨⟨dK s x k ⟨at1,0⟩,?_,?_,?_,hok2,?_,(hm1.trans m3).trans p5.mv,f',aE,hst⟩,?_⟩
          ·rw [hNx]
          ·rw [hNx];exact congrArg (Value.int .i64) hto2
          ·rw [hNx]
          ·rw [hNx];exact h5
          ·rw [jG hx,show Value.int .i64 (256 * (((k:Nat):Int) - 192) + ((k2:Nat):Int))=.int .i64 (dK s x k ⟨at1,0⟩).begin_ by rw [hNx];exact congrArg (Value.int .i64) hto2,jG (by rw [hNx];exact h5)];exact hlt2
        ·have hcw:=fM h3 2;rw [show r3.want false 2=r4 by rw [hn4,decide_eq_false ct]] at hcw;refine_lift qQ fun _ _ hc _ => ?_
         all_goals first
          | (have hh:False:=aE
             exact hh.elim)
          | (have hh:False:=absurd c3 (by assumption)
             exact hh.elim)
          | skip
         refine bK hcw fun w4 h4 m4 => ?_;clear hpT;have hp4:=aA (cs:=jX s r4) h4;by_cases cb:x.back < 0
         ·rw [if_pos cb] at hNx;refine_lift jS fun _ => ?_
          all_goals first
           | (have hh:False:=aE
              exact hh.elim)
           | fail
           | skip
          refine eS 1 (.int .i64 (256 * (((k:Nat):Int) - 192) + ((k2:Nat):Int))) h4 rfl fun w5 p5 => ?_;have h5:dF w5 b s ⟨(256 * (((k:Nat):Int) - 192) + ((k2:Nat):Int)),r4.e⟩:=p5.this;rw [hto2] at h5;refine_lift aX ?_;refine ⟨⟨dK s x k ⟨at1,0⟩,?_,?_,?_,hok2,?_,(hm1.trans (m3.trans m4)).trans p5.mv,f',aE,hst⟩,?_⟩
          ·rw [hNx]
          ·rw [hNx];exact congrArg (Value.int .i64) hto2
          ·rw [hNx]
          ·rw [hNx];exact h5
          ·rw [jG hx,show Value.int .i64 (256 * (((k:Nat):Int) - 192) + ((k2:Nat):Int))=.int .i64 (dK s x k ⟨at1,0⟩).begin_ by rw [hNx];exact congrArg (Value.int .i64) hto2,jG (by rw [hNx];exact h5)];exact hlt2
         ·rw [if_neg cb] at hNx;refine_lift jS fun _ => ?_
          all_goals first
           | (have hh:False:=aE
              exact hh.elim)
           | fail
           | skip
          refine eS 1 (.int .i64 (256 * (((k:Nat):Int) - 192) + ((k2:Nat):Int))) h4 rfl fun w5 p5 => ?_;have h5:dF w5 b s ⟨(256 * (((k:Nat):Int) - 192) + ((k2:Nat):Int)),r4.e⟩:=p5.this;rw [hto2] at h5;refine_lift aX ?_;refine ⟨⟨dK s x k ⟨at1,0⟩,?_,?_,?_,hok2,?_,(hm1.trans (m3.trans m4)).trans p5.mv,f',aE,hst⟩,?_⟩
          ·rw [hNx]
          ·rw [hNx];exact congrArg (Value.int .i64) hto2
          ·rw [hNx]
          ·rw [hNx];exact h5
          ·rw [jG hx,show Value.int .i64 (256 * (((k:Nat):Int) - 192) + ((k2:Nat):Int))=.int .i64 (dK s x k ⟨at1,0⟩).begin_ by rw [hNx];exact congrArg (Value.int .i64) hto2,jG (by rw [hNx];exact h5)];exact hlt2
       ·have hr4:r4=r3:=by rw [hn4];unfold RdS.want;rw [if_neg (fun h=>c3 h.1)]
        subst hr4;have hp4:=aA (cs:=jX s r4) h3;by_cases cb:x.back < 0
        ·rw [if_pos cb] at hNx;refine_lift cC fun hc _ => ?_
         all_goals first
          | (have hh:False:=aE
             exact hh.elim)
          | (have hh:False:=absurd (by assumption) c3
             exact hh.elim)
          | skip
         refine eS 1 (.int .i64 (256 * (((k:Nat):Int) - 192) + ((k2:Nat):Int))) h3 rfl fun w5 p5 => ?_;have h5:dF w5 b s ⟨(256 * (((k:Nat):Int) - 192) + ((k2:Nat):Int)),r4.e⟩:=p5.this;rw [hto2] at h5;refine_lift aX ?_;refine ⟨⟨dK s x k ⟨at1,0⟩,?_,?_,?_,hok2,?_,(hm1.trans m3).trans p5.mv,f',aE,hst⟩,?_⟩
         ·rw [hNx]
         ·rw [hNx];exact congrArg (Value.int .i64) hto2
         ·rw [hNx]
         ·rw [hNx];exact h5
         ·rw [jG hx,show Value.int .i64 (256 * (((k:Nat):Int) - 192) + ((k2:Nat):Int))=.int .i64 (dK s x k ⟨at1,0⟩).begin_ by rw [hNx];exact congrArg (Value.int .i64) hto2,jG (by rw [hNx];exact h5)];exact hlt2
        ·rw [if_neg cb] at hNx;refine_lift cC fun hc _ => ?_
         all_goals first
          | (have hh:False:=aE
             exact hh.elim)
          | (have hh:False:=absurd (by assumption) c3
             exact hh.elim)
          | skip
         refine eS 1 (.int .i64 (256 * (((k:Nat):Int) - 192) + ((k2:Nat):Int))) h3 rfl fun w5 p5 => ?_;have h5:dF w5 b s ⟨(256 * (((k:Nat):Int) - 192) + ((k2:Nat):Int)),r4.e⟩:=p5.this;rw [hto2] at h5;refine_lift aX ?_;refine ⟨⟨dK s x k ⟨at1,0⟩,?_,?_,?_,hok2,?_,(hm1.trans m3).trans p5.mv,f',aE,hst⟩,?_⟩
         ·rw [hNx]
         ·rw [hNx];exact congrArg (Value.int .i64) hto2
         ·rw [hNx]
         ·rw [hNx];exact h5
         ·rw [jG hx,show Value.int .i64 (256 * (((k:Nat):Int) - 192) + ((k2:Nat):Int))=.int .i64 (dK s x k ⟨at1,0⟩).begin_ by rw [hNx];exact congrArg (Value.int .i64) hto2,jG (by rw [hNx];exact h5)];exact hlt2
   ·rw [if_pos (.inl ce)] at hst;unfold wL at hst;dsimp only at hst;rw [if_pos ce] at hst;by_cases cb:0≤x.back
    ·rw [if_pos cb] at hst
     (repeat' first | ((with_reducible refine cQ ?_);go_step) | ((with_reducible refine bM ?_);first | refine gR ?_ | (refine cV ?_ ?_ <;> intro hc)) | fail)
     all_goals first
      | (have hh:False:=aE
         exact hh.elim)
      | (have hh:False:=by have h9:=‹(!decide (e1=0))=false›;rw [decide_eq_false ce] at h9;cases h9
         exact hh.elim)
      | skip
     refine eS 1 (.int .i64 x.back) h1 rfl fun w9 p9 => ?_;have h9':dF w9 b s ⟨x.back,e1⟩:=p9.this;have hp9:=aA (cs:=jX s ⟨x.back,e1⟩) h9';clear hpT;refine_lift tK (fun _ => ?_) (fun _ => ?_)
     all_goals first
      | (have hh:False:=aE
         exact hh.elim)
      | (have hh:False:=by have h9:=‹(!decide (e1=0))=false›;rw [decide_eq_false ce] at h9;cases h9
         exact hh.elim)
      | skip
     go_ret;rw [← hst];exact ⟨rfl,h9',hm1.trans p9.mv⟩
    ·rw [if_neg cb] at hst
     (repeat' first | ((with_reducible refine cQ ?_);go_step) | ((with_reducible refine bM ?_);first | refine gR ?_ | (refine cV ?_ ?_ <;> intro hc)) | fail)
     all_goals first
      | (have hh:False:=aE
         exact hh.elim)
      | (have hh:False:=by have h9:=‹(!decide (e1=0))=false›;rw [decide_eq_false ce] at h9;cases h9
         exact hh.elim)
      | skip
     go_ret;rw [← hst];exact ⟨rfl,h1,hm1⟩
  ·have hst:=hgo;rw [eN c0] at hst;rw [if_pos (.inl c0)] at hst;unfold wL at hst;dsimp only at hst;rw [if_pos c0] at hst;by_cases cb:0≤x.back
   ·rw [if_pos cb] at hst;refine_lift qQ fun _ _ _ _ => ?_
    all_goals first
     | (have hh:False:=aE
        exact hh.elim)
     | (have hh:False:=by have h9:=‹(!decide (x.r.e=0))=false›;rw [decide_eq_false c0] at h9;cases h9
        exact hh.elim)
     | (have hh:False:=absurd (by assumption) c0
        exact hh.elim)
     | skip
    refine eS 1 (.int .i64 x.back) hx rfl fun w9 p9 => ?_;have h9':dF w9 b s ⟨x.back,x.r.e⟩:=p9.this;have hp9:=aA (cs:=jX s ⟨x.back,x.r.e⟩) h9';clear hpT;refine_lift tK (fun _ => ?_) (fun _ => ?_)
    all_goals first
     | (have hh:False:=aE
        exact hh.elim)
     | (have hh:False:=by have h9:=‹(!decide (x.r.e=0))=false›;rw [decide_eq_false c0] at h9;cases h9
        exact hh.elim)
     | (have hh:False:=absurd (by assumption) c0
        exact hh.elim)
     | skip
    go_ret;rw [← hst];exact ⟨rfl,h9',hm.trans p9.mv⟩
   ·rw [if_neg cb] at hst;refine_lift OV (fun _ _ _ => ?_) (fun _ _ _ _ _ => ?_)
    all_goals first
     | (have hh:False:=aE
        exact hh.elim)
     | (have hh:False:=by have h9:=‹(!decide (x.r.e=0))=false›;rw [decide_eq_false c0] at h9;cases h9
        exact hh.elim)
     | (have hh:False:=absurd (by assumption) c0
        exact hh.elim)
     | skip
    go_ret;rw [← hst];exact ⟨rfl,hx,hm⟩
theorem AG {r:RdS} (h:dF w b s r) (hr:r.Ok s) (hs:s.length≤100000000):Calls Tryz.prog 151 #[.pointer (some ⟨b,0,none⟩)] w (nU w b s (aI (r.host s).1) (r.host s).2):=by
 obtain ⟨n1,n2⟩:=lL hr hs;have hH:=fun w=>GM (eT s r).1 w aE;have hcn:=HW h hr hs;unfold RdS.host NX;generalize eT s r=N at *;go_enter Tryz.func151,Tryz.ntmps151
 refine_lift cC fun _ _ => ?_;refine bK hcn fun w1 h1 m1 => ?_;by_cases hl:(aP N.1).isSome=true
 ·rw [if_pos hl] at hH;refine_lift aX ?_;refine cY (hH _) fun w2 x2 => ?_;refine_lift aX ?_;go_ret;rw [if_pos hl];exact ⟨rfl,x2.at h1,m1.trans (x2.mv _)⟩
 ·rw [if_neg hl] at hH;refine_lift aX ?_;refine cY (hH _) fun w2 x2 => ?_;refine_lift aX ?_;go_ret;rw [if_neg hl];exact ⟨rfl,x2.at h1,m1.trans (x2.mv _)⟩
theorem WV {r:RdS} (h:dF w b s r) (hr:r.Ok s) (hs:s.length≤1000000) (kind n:Int) (hn0:0≤n) (hn1:n≤65535):Calls Tryz.prog 90 #[.pointer (some ⟨b,0,none⟩), .int .i64 kind, .int .i64 n] w (nU w b s (aI (r.data s kind n).1) (r.data s kind n).2):=by
 have hp:=aA (cs:=jX s r) h;have a0:=hr.lo;have a2:=hr.far;have hs8:s.length≤100000000:=aE;have hcw:=fM h 3;unfold RdS.data;dsimp only;go_enter Tryz.func90,Tryz.ntmps90
 by_cases c0:r.e=0∧r.at_ + n≤(s.length:Int)
 ·obtain ⟨c00,c01⟩:=c0;have hw0:r.want (decide (r.at_ + n≤(s.length:Int))) 3=r:=gY (decide_eq_true c01);rw [hw0];rw [if_neg (by simpa using c00)];clear hcw;by_cases c1:kind=2∨kind=5∨kind=12
  ·have hb2:=gS hr hs8
   (repeat' first | ((with_reducible refine cQ ?_);go_step) | ((with_reducible refine bM ?_);first | refine gR ?_ | (refine cV ?_ ?_ <;> intro hc)) | fail)
   all_goals first
    | (have hh:False:=aE
       exact hh.elim)
    | (have hh:False:=by have h9:=‹(!decide (r.e=0))=true›;rw [decide_eq_true c00] at h9;cases h9
       exact hh.elim)
    | skip
   all_goals (
    generalize hend:r.at_ + n=en at *;refine bK (AG h hr hs8) fun w2 h2 m2 => ?_;have hpK:=aA (cs:=jX s ((r.host s).2)) h2;clear hp;by_cases ce:((r.host s).2).e=0
    ·by_cases ca:((r.host s).2).at_=en
     ·refine_lift yP (fun hc _ => ?_) (fun hc => ?_) (fun _ _ hc _ => ?_)
      all_goals first
       | (have hh:False:=aE
          exact hh.elim)
       | (have hh:False:=by have h9:=‹(!decide (((r.host s).2).at_=en))=true›;rw [decide_eq_true ca] at h9;cases h9
          exact hh.elim)
       | (have hh:False:=absurd ce (by assumption)
          exact hh.elim)
       | skip
      go_ret;rw [if_pos c1];dsimp only;rw [decide_eq_true ca,show ((r.host s).2).want true 2=(r.host s).2 from gY rfl];exact ⟨rfl,h2,m2⟩
     ·have hwK:=fM h2 2;refine_lift yP (fun hc _ => ?_) (fun hc => ?_) (fun _ _ hc _ => ?_)
      all_goals first
       | (have hh:False:=aE
          exact hh.elim)
       | (have hh:False:=by have h9:=‹(!decide (((r.host s).2).at_=en))=false›;rw [decide_eq_false ca] at h9;cases h9
          exact hh.elim)
       | (have hh:False:=absurd ce (by assumption)
          exact hh.elim)
       | skip
      refine bK hwK fun w9 h9' m9 => ?_;refine_lift aX ?_;go_ret;rw [if_pos c1];dsimp only;rw [decide_eq_false ca];exact ⟨rfl,h9',m2.trans m9⟩
    ·have hwn:∀ is er,((r.host s).2).want is er=(r.host s).2:=fun is er=>by unfold RdS.want;rw [if_neg (fun h=>ce h.1)]
     refine_lift jS fun hc => ?_
     all_goals first
      | (have hh:False:=aE
         exact hh.elim)
      | (have hh:False:=absurd (by assumption) ce
         exact hh.elim)
      | skip
     go_ret;rw [if_pos c1];dsimp only;rw [hwn];exact ⟨rfl,h2,m2⟩
   )
  ·by_cases c2:kind=15
   ·have ht2:=gJ s r 2;have hb2:=hr.take hs8 (n:=2) aE;have hb3:=gS hb2 hs8
    (repeat' first | ((with_reducible refine cQ ?_);go_step) | ((with_reducible refine bM ?_);first | refine gR ?_ | (refine cV ?_ ?_ <;> intro hc)) | fail)
    all_goals first
     | (have hh:False:=aE
        exact hh.elim)
     | (have hh:False:=by have h9:=‹(!decide (r.e=0))=true›;rw [decide_eq_true c00] at h9;cases h9
        exact hh.elim)
     | skip
    generalize hend:r.at_ + n=en at *;refine bK (tI h hr hs8 2 aE aE) fun w2 h2 m2 => ?_;refine_lift aX ?_;refine bK (AG h2 hb2 hs8) fun w3 h3 m3 => ?_;have hpK:=aA (cs:=jX s (((r.take s 2).2.host s).2)) h3;clear hp;by_cases ce:(((r.take s 2).2.host s).2).e=0
    ·by_cases ca:(((r.take s 2).2.host s).2).at_=en
     ·refine_lift yP (fun hc _ => ?_) (fun hc => ?_) (fun _ _ hc _ => ?_)
      all_goals first
       | (have hh:False:=aE
          exact hh.elim)
       | (have hh:False:=by have h9:=‹(!decide ((((r.take s 2).2.host s).2).at_=en))=true›;rw [decide_eq_true ca] at h9;cases h9
          exact hh.elim)
       | (have hh:False:=absurd ce (by assumption)
          exact hh.elim)
       | skip
      go_ret;rw [if_neg c1,if_pos c2];dsimp only;rw [decide_eq_true ca,show (((r.take s 2).2.host s).2).want true 2=((r.take s 2).2.host s).2 from gY rfl];exact ⟨rfl,h3,(m2.trans m3)⟩
     ·have hwK:=fM h3 2;refine_lift yP (fun hc _ => ?_) (fun hc => ?_) (fun _ _ hc _ => ?_)
      all_goals first
       | (have hh:False:=aE
          exact hh.elim)
       | (have hh:False:=by have h9:=‹(!decide ((((r.take s 2).2.host s).2).at_=en))=false›;rw [decide_eq_false ca] at h9;cases h9
          exact hh.elim)
       | (have hh:False:=absurd ce (by assumption)
          exact hh.elim)
       | skip
      refine bK hwK fun w9 h9' m9 => ?_;refine_lift aX ?_;go_ret;rw [if_neg c1,if_pos c2];dsimp only;rw [decide_eq_false ca];exact ⟨rfl,h9',(m2.trans m3).trans m9⟩
    ·have hwn:∀ is er,(((r.take s 2).2.host s).2).want is er=((r.take s 2).2.host s).2:=fun is er=>by unfold RdS.want;rw [if_neg (fun h=>ce h.1)]
     refine_lift jS fun hc => ?_
     all_goals first
      | (have hh:False:=aE
         exact hh.elim)
      | (have hh:False:=absurd (by assumption) ce
         exact hh.elim)
      | skip
     go_ret;rw [if_neg c1,if_pos c2];dsimp only;rw [hwn];exact ⟨rfl,h3,(m2.trans m3)⟩
   ·by_cases c3:kind=6
    ·have hb2:=gS hr hs8;have hb3:=gS hb2.2 hs8;have ht4:=gJ s ((r.host s).2.host s).2 20
     (repeat' first | ((with_reducible refine cQ ?_);go_step) | ((with_reducible refine bM ?_);first | refine gR ?_ | (refine cV ?_ ?_ <;> intro hc)) | fail)
     all_goals first
      | (have hh:False:=aE
         exact hh.elim)
      | (have hh:False:=by have h9:=‹(!decide (r.e=0))=true›;rw [decide_eq_true c00] at h9;cases h9
         exact hh.elim)
      | skip
     generalize hend:r.at_ + n=en at *;refine bK (AG h hr hs8) fun w2 h2 m2 => ?_;refine_lift cC fun _ _ => ?_;refine bK (AG h2 hb2.2 hs8) fun w3 h3 m3 => ?_;refine_lift aX ?_;refine bK (tI h3 hb3.2 hs8 20 aE aE) fun w4 h4 m4 => ?_;have hpK:=aA (cs:=jX s ((((r.host s).2.host s).2.take s 20).2)) h4;clear hp;by_cases ce:((((r.host s).2.host s).2.take s 20).2).e=0
     ·by_cases ca:((((r.host s).2.host s).2.take s 20).2).at_=en
      ·refine_lift yP (fun hc _ => ?_) (fun hc => ?_) (fun _ _ hc _ => ?_)
       all_goals first
        | (have hh:False:=aE
           exact hh.elim)
        | (have hh:False:=by have h9:=‹(!decide (((((r.host s).2.host s).2.take s 20).2).at_=en))=true›;rw [decide_eq_true ca] at h9;cases h9
           exact hh.elim)
        | (have hh:False:=absurd ce (by assumption)
           exact hh.elim)
        | skip
       go_ret;rw [if_neg c1,if_neg c2,if_pos c3];dsimp only;rw [decide_eq_true ca,show ((((r.host s).2.host s).2.take s 20).2).want true 2=(((r.host s).2.host s).2.take s 20).2 from gY rfl];exact ⟨rfl,h4,(m2.trans (m3.trans m4))⟩
      ·have hwK:=fM h4 2;refine_lift yP (fun hc _ => ?_) (fun hc => ?_) (fun _ _ hc _ => ?_)
       all_goals first
        | (have hh:False:=aE
           exact hh.elim)
        | (have hh:False:=by have h9:=‹(!decide (((((r.host s).2.host s).2.take s 20).2).at_=en))=false›;rw [decide_eq_false ca] at h9;cases h9
           exact hh.elim)
        | (have hh:False:=absurd ce (by assumption)
           exact hh.elim)
        | skip
       refine bK hwK fun w9 h9' m9 => ?_;refine_lift aX ?_;go_ret;rw [if_neg c1,if_neg c2,if_pos c3];dsimp only;rw [decide_eq_false ca];exact ⟨rfl,h9',(m2.trans (m3.trans m4)).trans m9⟩
     ·have hwn:∀ is er,((((r.host s).2.host s).2.take s 20).2).want is er=(((r.host s).2.host s).2.take s 20).2:=fun is er=>by unfold RdS.want;rw [if_neg (fun h=>ce h.1)]
      refine_lift jS fun hc => ?_
      all_goals first
       | (have hh:False:=aE
          exact hh.elim)
       | (have hh:False:=absurd (by assumption) ce
          exact hh.elim)
       | skip
      go_ret;rw [if_neg c1,if_neg c2,if_pos c3];dsimp only;rw [hwn];exact ⟨rfl,h4,(m2.trans (m3.trans m4))⟩
    ·(repeat' first | ((with_reducible refine cQ ?_);go_step) | ((with_reducible refine bM ?_);first | refine gR ?_ | (refine cV ?_ ?_ <;> intro hc)) | fail)
     all_goals first
      | (have hh:False:=aE
         exact hh.elim)
      | (have hh:False:=by have h9:=‹(!decide (r.e=0))=true›;rw [decide_eq_true c00] at h9;cases h9
         exact hh.elim)
      | skip
     generalize hend:r.at_ + n=en at *;refine bK (tI h hr hs8 n hn0 aE) fun w2 h2 m2 => ?_;have hpK:=aA (cs:=jX s ((r.take s n).2)) h2;clear hp;by_cases ce:((r.take s n).2).e=0
     ·by_cases ca:((r.take s n).2).at_=en
      ·refine_lift yP (fun hc _ => ?_) (fun hc => ?_) (fun _ _ hc _ => ?_)
       all_goals first
        | (have hh:False:=aE
           exact hh.elim)
        | (have hh:False:=by have h9:=‹(!decide (((r.take s n).2).at_=en))=true›;rw [decide_eq_true ca] at h9;cases h9
           exact hh.elim)
        | (have hh:False:=absurd ce (by assumption)
           exact hh.elim)
        | skip
       go_ret;rw [if_neg c1,if_neg c2,if_neg c3];dsimp only;rw [decide_eq_true ca,show ((r.take s n).2).want true 2=(r.take s n).2 from gY rfl];exact ⟨rfl,h2,m2⟩
      ·have hwK:=fM h2 2;refine_lift yP (fun hc _ => ?_) (fun hc => ?_) (fun _ _ hc _ => ?_)
       all_goals first
        | (have hh:False:=aE
           exact hh.elim)
        | (have hh:False:=by have h9:=‹(!decide (((r.take s n).2).at_=en))=false›;rw [decide_eq_false ca] at h9;cases h9
           exact hh.elim)
        | (have hh:False:=absurd ce (by assumption)
           exact hh.elim)
        | skip
       refine bK hwK fun w9 h9' m9 => ?_;refine_lift aX ?_;go_ret;rw [if_neg c1,if_neg c2,if_neg c3];dsimp only;rw [decide_eq_false ca];exact ⟨rfl,h9',m2.trans m9⟩
     ·have hwn:∀ is er,((r.take s n).2).want is er=(r.take s n).2:=fun is er=>by unfold RdS.want;rw [if_neg (fun h=>ce h.1)]
      refine_lift jS fun hc => ?_
      all_goals first
       | (have hh:False:=aE
          exact hh.elim)
       | (have hh:False:=absurd (by assumption) ce
          exact hh.elim)
       | skip
      go_ret;rw [if_neg c1,if_neg c2,if_neg c3];dsimp only;rw [hwn];exact ⟨rfl,h2,m2⟩
 ·have hne:(r.want (decide (r.at_ + n≤(s.length:Int))) 3).e≠0:=by
   unfold RdS.want;split
   ·exact fun e=>by cases e
   ·rename_i c;intro e;exact c0 ⟨e,by
     by_cases h9:r.at_ + n≤(s.length:Int)
     ·exact h9
     ·exact absurd ⟨e,decide_eq_false h9⟩ c⟩
  have hw3:r.want (decide (r.at_ + n≤(s.length:Int))) 3=r.want false 3:=by
   by_cases h8:r.e=0
   ·rw [decide_eq_false (fun h=>c0 ⟨h8,h⟩)]
   ·unfold RdS.want;rw [if_neg (fun h=>h8 h.1),if_neg (fun h=>h8 h.1)]
  rw [if_pos hne,hw3];by_cases h8:r.e=0
  ·have h9:¬ r.at_ + n≤(s.length:Int):=fun h=>c0 ⟨h8,h⟩;refine_lift VB (fun _ _ hc _ _ => ?_) (fun _ _ hc _ _ _ => ?_)
   all_goals first
    | (have hh:False:=aE
       exact hh.elim)
    | (have hh:False:=by have h9:=‹(!decide (r.e=0))=true›;rw [decide_eq_true h8] at h9;cases h9
       exact hh.elim)
    | skip
   refine bK hcw fun w1 h1 m1 => ?_;refine_lift aX ?_;go_ret;exact ⟨rfl,h1,m1⟩
  ·(repeat' first | ((with_reducible refine cQ ?_);go_step) | ((with_reducible refine bM ?_);first | refine gR ?_ | (refine cV ?_ ?_ <;> intro hc)) | fail)
   all_goals first
    | (have hh:False:=aE
       exact hh.elim)
    | (have hh:False:=by have h9:=‹(!decide (r.e=0))=false›;rw [decide_eq_false h8] at h9;cases h9
       exact hh.elim)
    | skip
   refine bK hcw fun w1 h1 m1 => ?_;refine_lift aX ?_;go_ret;exact ⟨rfl,h1,m1⟩
end Go.Proofs.X
