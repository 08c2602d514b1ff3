/- Laws and walks that the proof of the statement is made of (part 10). -/
import Derived.Test.YtdblpgbielpngaaGreatP9
set_option linter.unusedSimpArgs false
set_option linter.unusedVariables false
set_option maxRecDepth 100000
set_option maxHeartbeats 20000000
namespace Go.Proofs.X
open Go.RowKit
variable {cs:Array Value} {held:Bool} {qt:Int} {ps rs:List (List UInt8 × Nat)} {ls:List (List UInt8)} {css css0 es:List (List Value)} {d l m n o qn s t x y z:List UInt8} {B a b base c e fuel i j k p q:Nat} {fz:Nat × Nat} {row:Option Nat} {r u v:Value} {w w' w0 w1 w2:World}
theorem TR (is:Bool) (n:Int) (w:World):Calls Tryz.prog 34 #[.bool is, .int .i64 n] w (bC w (.int .i64 (if is=true then n else 0))):=by
 go_enter Tryz.func34,Tryz.ntmps34
 cases is with
 | true =>
  refine_lift aX ?_;go_ret;exact ⟨rfl,Ext.refl _⟩
 | false =>
  refine_lift aX ?_;go_ret;exact ⟨rfl,Ext.refl _⟩
structure RecW where
 name:List UInt8
 kind:Nat
 cls:Nat
 r3:RdS
def iD (s:List UInt8) (r:RdS):RecW :=
 ⟨(eT s r).1,((eT s r).2.number s 2).1,(((eT s r).2.number s 2).2.number s 2).1,(((eT s r).2.number s 2).2.number s 2).2⟩
def HM (s:List UInt8) (last:Bool) (n i:Nat) (x:RecW):RdS :=
 ((x.r3.number s 4).2.number s 2).2.want (last && (decide ((i:Int)=(n:Int) - 1) && (decide (x.name=[]) && (decide ((512:Int)≤(x.cls:Nat)) && (decide (((x.r3.number s 4).1:Int)=0) && decide ((((x.r3.number s 4).2.number s 2).1:Int)=0)))))) 2
def lV (s:List UInt8) (x:RecW):Nat × RdS:=(x.r3.want (decide (((x.cls:Nat):Int)=1)) 2).number s 4
def qJ (s:List UInt8) (x:RecW):List UInt8 × RdS:=((lV s x).2.number s 2).2.data s x.kind ((lV s x).2.number s 2).1
def yB (s:List UInt8) (x:RecW):Rec:=⟨x.name,x.kind,(lV s x).1,(qJ s x).1⟩
def wQ (s:List UInt8) (i:Nat) (x:RecW):RdS:=(qJ s x).2.want (decide ((i:Int) < 200) && decide (aU (yB s x)=0)) 2
def iN (s:List UInt8) (last:Bool) (n:Nat):Nat→Nat→List Rec→RdS→List Rec × Nat × RdS
 | 0,_,l,r=>(l,0,r)
 | f + 1,i,l,r=>if r.e≠0 then (l,0,r) else
   if (iD s r).kind=41∧(iD s r).r3.e=0 then (l,(iD s r).cls,HM s last n i (iD s r))
   else iN s last n f (i + 1) (l ++ [yB s (iD s r)]) (wQ s i (iD s r))
def dX (s:List UInt8) (r:RdS) (n:Nat) (last:Bool):List Rec × Nat × RdS:=iN s last n n 0 [] (r.want (decide ((n:Int)≤200 + (if last=true then 1 else 0))) 2)
def HN (w:World) (b:Nat) (s:List UInt8) (o:List Rec × Nat × RdS) (e:Ending) (w':World):Prop:=∃ v,e=.returned (.tuple #[v, .int .i64 (o.2.1:Nat)])∧Own w.heap.size 4 67 w' v (aJ o.1)∧dT w' b s o.2.2∧Mv (some b) w w'
theorem HO {r:RdS} (hr:r.Ok s) (hs:s.length≤100000000) (kind:Int) {n:Int} (hn:0≤n):(r.data s kind n).2.Ok s:=by
 have hw:=hr.want (decide (r.at_ + n≤(s.length:Int))) (er:=3) bG;unfold RdS.data;dsimp only;split
 ·exact hw
 ·refine RdS.Ok.want ?_ _ bG;split
  ·exact (gS hw hs).2
  ·split
   ·exact (gS (hw.take hs aE) hs).2
   ·split
    ·exact (gS (gS hw hs).2 hs).2.take hs aE
    ·exact hw.take hs hn
theorem nR {r:RdS} (hr:r.Ok s) (hs:s.length≤100000000):(iD s r).r3.Ok s:=bH (bH (lL hr hs).2 hs aE) hs aE
theorem MS {x:RecW} (hr:x.r3.Ok s) (hs:s.length≤100000000) (i:Nat):(wQ s i x).Ok s:=by
 unfold wQ qJ lV;exact RdS.Ok.want (HO (bH (bH (hr.want _ bG) hs aE) hs aE) hs _ (Int.natCast_nonneg _)) _ bG
theorem yC {r:RdS} (h:dT w b s r) (hr:r.Ok s) (hs:s.length≤1000000) (n:Nat) (hn1:n≤65535) (last:Bool):Calls Tryz.prog 42 #[.pointer (some ⟨b,0,none⟩), .int .i64 n, .bool last] w (HN w b s (dX s r n last)):=by
 have hs8:s.length≤100000000:=aE;have hwr:=hr.want (decide ((n:Int)≤200 + (if last=true then 1 else 0))) (er:=2) bG;have hgo:iN s last n n 0 [] (r.want (decide ((n:Int)≤200 + (if last=true then 1 else 0))) 2)=dX s r n last:=rfl;generalize dX s r n last=RES at *;go_enter Tryz.func42,Tryz.ntmps42
 refine_lift cC fun _ _ => ?_;refine cY (TR last 1 _) fun w1 x1 => ?_;have h1:dT w1 b s r:=x1.at h;have hcw:=iU h1 (decide ((n:Int)≤200 + (if last=true then 1 else 0))) 2;have hfl:(if last=true then (1:Int) else 0)≤1∧0≤(if last=true then (1:Int) else 0):=by split <;> decide
 generalize hF:(if last=true then (1:Int) else 0)=F at *;generalize r.want (decide ((n:Int)≤200 + F)) 2=r0 at *;refine_lift aX ?_;refine bK hcw fun w2 h2 m2 => ?_;have m02:=(x1.mv (some b)).trans m2;have hbw:b < w.heap.size:=(Array.getElem?_eq_some_iff.1 h).1;refine_lift cC fun _ _ => ?_;go_loopw [6,7,8,9,10,11,12] (fun lv sz iv _ _ _ _ wr=>∃ (i:Nat) (l:List Rec) (r':RdS),i≤n∧iv=.int .i64 i∧sz=.int .i64 0∧Own w.heap.size 4 67 wr lv (aJ l)∧l.length=i∧dT wr b s r'∧r'.Ok s∧Mv (some b) w wr∧iN s last n (n - i) i l r'=RES) (fun _ _ iv _ _ _ _ _=>n - (intOf iv).toNat)
 case atStart=>exact ⟨0,[],r0,Nat.zero_le _,rfl,rfl,Own.nil _ _ _ _,rfl,h2,hwr,m02,hgo⟩
 case round =>
  obtain ⟨i,l,r',hi,rfl,rfl,ho,hli,hR,hok,hm,hg⟩:=hrel;have hpr:=aA (cs:=jX s r') hR;by_cases c1:i < n
  ·by_cases c2:r'.e=0
   ·obtain ⟨f',hf'⟩:∃ f',n - i=f' + 1:=⟨n - i - 1,aE⟩;rw [hf'] at hg;unfold iN at hg;rw [if_neg (by simpa using c2)] at hg;have hX:=nR hok hs8;have hXe:iD s r'=⟨(eT s r').1,((eT s r').2.number s 2).1,(((eT s r').2.number s 2).2.number s 2).1,(((eT s r').2.number s 2).2.number s 2).2⟩:=rfl;obtain ⟨hn1',hn2'⟩:=lL hok hs8;have hcn:=MN hR hok hs8;generalize hN:eT s r'=N at *;obtain ⟨nm,q1⟩:=N;dsimp only at *;have hq2:=bH (n:=2) hn2' hs8 aE;have hk1:=bQ s q1 2 aE;have hc1:=fun w' (h':dT w' b s q1)=>fC h' hn2' hs8 2 aE aE;generalize q1.number s 2=K at *;obtain ⟨kind,q2⟩:=K;dsimp only at *;have hq3:=bH (n:=2) hq2 hs8 aE;have hk2:=bQ s q2 2 aE;have hc2:=fun w' (h':dT w' b s q2)=>fC h' hq2 hs8 2 aE aE;generalize q2.number s 2=C at *;obtain ⟨cls,q3⟩:=C;dsimp only at *;rw [hXe] at hg;have hk1':kind < 65536:=by simpa using hk1
    have hk2':cls < 65536:=by simpa using hk2
    (repeat' first | ((with_reducible refine cQ ?_);go_step) | ((with_reducible refine bM ?_);first | refine gR ?_ | (refine cV ?_ ?_ <;> intro hc)) | fail)
    all_goals first
     | (exfalso;omega)
     | skip
    refine bK hcn fun w3 h3 m3 => ?_;have ho3:=ho.mv m3 (.inr (ho.neBlock hR bG));refine_lift aX ?_;refine aS (v:=.agg #[aI nm, .int .i64 0, .int .i64 0,aI []]) (Runs.build rfl (by kernel_rfl)) ?_;refine aD ?_;refine fO (z:=TM) fun w4 x4 s4 h4 => ?_;refine aD ?_;refine dS (v:=.agg #[aI nm, .int .i64 0, .int .i64 0,aI []]) h4 (fI rfl rfl rfl rfl) fun w5 p5 => ?_;have x5:=cH x4 p5;have hx5:w5.heap[w3.heap.size]? = some (.cells [aI nm, .int .i64 0, .int .i64 0,aI []].toArray 67 (0,0)):=p5.this;have hb5:dT w5 b s q1:=x5.at h3;have ho5:=ho3.ext x5;have hv5:=HG ho3 w3.heap.size (Nat.le_refl _);have hm5:=(hm.trans m3).trans (x5.mv (some b));have hbn:b < w3.heap.size:=(Array.getElem?_eq_some_iff.1 h3).1;have hne:some w3.heap.size≠some b:=by intro e;have:=Option.some.inj e;omega
    have hwc:w.heap.size≤w3.heap.size:=(hm.trans m3).size;generalize w3.heap.size=c at *;clear h4 p5 x4 hpr hcn;refine_lift cC fun _ _ => ?_;refine bK (hc1 _ hb5) fun w6 h6 m6 => ?_;have hx6:=m6.at hx5 hne;have hpx6:=aA hx6;have ho6:=ho5.mv m6 (.inr (ho5.neBlock hb5 bG));refine_lift aX ?_;refine eS 1 (.int .i64 (kind:Nat)) hx6 rfl fun w7 p7 => ?_;have hx7:w7.heap[c]? = some (.cells [aI nm, .int .i64 (kind:Nat), .int .i64 0,aI []].toArray 67 (0,0)):=p7.this;have h7:dT w7 b s q2:=p7.mv.at h6 (by intro e;exact hne e.symm);have ho7:=ho6.mv p7.mv hv5;have hm7:=(hm5.trans m6).fresh p7.mv hwc;clear hpx6;refine_lift cC fun _ _ => ?_;refine bK (hc2 _ h7) fun w8 h8 m8 => ?_;have hx8:=m8.at hx7 hne;have hpx8:=aA hx8;have hp8:=aA (cs:=jX s q3) h8;have ho8:=ho7.mv m8 (.inr (ho7.neBlock h7 bG));have hm8:=hm7.trans m8;by_cases ck:kind=41∧q3.e=0
    ·obtain ⟨ck,ce⟩:=ck;rw [if_pos ⟨ck,ce⟩] at hg
     (repeat' first | ((with_reducible refine cQ ?_);go_step) | ((with_reducible refine bM ?_);first | refine gR ?_ | (refine cV ?_ ?_ <;> intro hc)) | fail)
     all_goals first
      | (exfalso;omega)
      | skip
     have hq4:=bH (n:=4) hq3 hs8 aE;have hk3:=bQ s q3 4 aE;have hc3:=fC h8 hq3 hs8 4 aE aE;generalize hT:q3.number s 4=T at *;obtain ⟨ttl,q4⟩:=T;dsimp only at *;have hk4:=bQ s q4 2 aE;have hc4:=fun w' (h':dT w' b s q4)=>fC h' hq4 hs8 2 aE aE;generalize hD:q4.number s 2=D at *;obtain ⟨dl,q5⟩:=D;dsimp only at *;refine bK hc3 fun w9 h9 m9 => ?_;have hx9:=m9.at hx8 hne;have ho9:=ho8.mv m9 (.inr (ho8.neBlock h8 bG));have hm9:=hm8.trans m9;refine_lift aX ?_;refine bK (hc4 _ h9) fun w10 h10 m10 => ?_;have hx10:=m10.at hx9 hne;have hpx10:=aA hx10;have ho10:=ho9.mv m10 (.inr (ho9.neBlock h9 bG));have hm10:=hm9.trans m10;clear hpx8 hp8;have hcw2:=iU h10 (last && (decide ((i:Int)=(n:Int) - 1) && (decide (nm=[]) && (decide ((512:Int)≤(cls:Nat)) && (decide ((ttl:Int)=0) && decide ((dl:Int)=0)))))) 2;have hg2:(l,cls,q5.want (last && (decide ((i:Int)=(n:Int) - 1) && (decide (nm=[]) && (decide ((512:Int)≤(cls:Nat)) && (decide ((ttl:Int)=0) && decide ((dl:Int)=0)))))) 2)=RES:=by rw [← hg];simp only [HM,hT,hD]
     generalize q5.want (last && (decide ((i:Int)=(n:Int) - 1) && (decide (nm=[]) && (decide ((512:Int)≤(cls:Nat)) && (decide ((ttl:Int)=0) && decide ((dl:Int)=0)))))) 2=qe at *;clear hg
     (repeat' first | ((with_reducible refine cQ ?_);go_step) | ((with_reducible refine bM ?_);first | refine gR ?_ | (refine cV ?_ ?_ <;> intro hc)) | fail)
     all_goals refine cP (vs:=[.pointer (some ⟨b,0,none⟩), .bool (last && (decide ((i:Int)=(n:Int) - 1) && (decide (nm=[]) && (decide ((512:Int)≤(cls:Nat)) && (decide ((ttl:Int)=0) && decide ((dl:Int)=0)))))), .int .i64 2]) (enters_of Tryz.func39 rfl rfl) rfl ?_ hcw2 ?_
     all_goals first
      | (refine congrArg (fun z=>[Value.pointer (some ⟨b,0,none⟩),Value.bool z, .int .i64 2]) ?_;simp only [*,decide_true,decide_false,Bool.and_true,Bool.true_and,Bool.and_false,Bool.false_and,and_self,not_false_eq_true];done)
      | skip
     all_goals rintro _ w11 ⟨rfl,h11,m11⟩
     all_goals refine ⟨_,rfl,?_⟩
     all_goals refine aD ?_
     all_goals have ho11:=ho10.mv m11 (.inr (ho10.neBlock h10 bG))
     all_goals have hm11:=hm10.trans m11
     all_goals refine_lift aX ?_
     all_goals go_ret2
     all_goals rw [← hg2]
     all_goals exact ⟨_,rfl,ho11,h11,hm11⟩
    ·rw [if_neg ck] at hg;have hw3:=hq3.want (decide ((cls:Int)=1)) (er:=2) bG;have hcw3:=iU h8 (decide ((cls:Int)=1)) 2;have hN9:wQ s i ⟨nm,kind,cls,q3⟩=(qJ s ⟨nm,kind,cls,q3⟩).2.want (decide ((i:Int) < 200) && decide (aU (yB s ⟨nm,kind,cls,q3⟩)=0)) 2:=rfl;have hR9:yB s ⟨nm,kind,cls,q3⟩=⟨nm,kind,(lV s ⟨nm,kind,cls,q3⟩).1,(qJ s ⟨nm,kind,cls,q3⟩).1⟩:=rfl;have hD9:qJ s ⟨nm,kind,cls,q3⟩=((lV s ⟨nm,kind,cls,q3⟩).2.number s 2).2.data s kind ((lV s ⟨nm,kind,cls,q3⟩).2.number s 2).1:=rfl;have hT9:lV s ⟨nm,kind,cls,q3⟩=(q3.want (decide ((cls:Int)=1)) 2).number s 4:=rfl;generalize q3.want (decide ((cls:Int)=1)) 2=y1 at *;have hy2:=bH (n:=4) hw3 hs8 aE;have hk3:=bQ s y1 4 aE;have hc3:=fun w' (h':dT w' b s y1)=>fC h' hw3 hs8 4 aE aE;generalize y1.number s 4=T at *;obtain ⟨ttl,y2⟩:=T;rw [hT9] at hD9 hR9;dsimp only at *;have hy3:=bH (n:=2) hy2 hs8 aE;have hk4:=bQ s y2 2 aE;have hc4:=fun w' (h':dT w' b s y2)=>fC h' hy2 hs8 2 aE aE;generalize y2.number s 2=D at *;obtain ⟨dl,y3⟩:=D;dsimp only at *;have hk4':dl < 65536:=by simpa using hk4
     have hy4:=HO hy3 hs8 kind (n:=(dl:Nat)) (Int.natCast_nonneg _);have hc5:=fun w' (h':dT w' b s y3)=>YS h' hy3 hs kind (dl:Nat) (Int.natCast_nonneg _) aE;generalize y3.data s kind (dl:Nat)=E9 at *;obtain ⟨dat,y4⟩:=E9;rw [hD9] at hR9 hN9;dsimp only at *;rw [hR9] at hN9 hg;rw [hN9] at hg;clear hN9 hR9 hD9 hT9;have hy5:=hy4.want (decide ((i:Int) < 200) && decide (aU ⟨nm,kind,ttl,dat⟩=0)) (er:=2) bG;have hc6:=fun w' (h':dT w' b s y4)=>iU h' (decide ((i:Int) < 200) && decide (aU ⟨nm,kind,ttl,dat⟩=0)) 2;generalize y4.want (decide ((i:Int) < 200) && decide (aU ⟨nm,kind,ttl,dat⟩=0)) 2=y5 at *
     (repeat' first | ((with_reducible refine cQ ?_);go_step) | ((with_reducible refine bM ?_);first | refine gR ?_ | (refine cV ?_ ?_ <;> intro hc)) | fail)
     all_goals first
      | (exfalso;omega)
      | skip
     all_goals refine wZ hcw3 ?_
     all_goals rintro _ w9 ⟨rfl,h9,m9⟩
     all_goals refine ⟨_,rfl,?_⟩
     all_goals refine aD ?_
     all_goals have hx9:=m9.at hx8 hne
     all_goals have hpx9:=aA hx9
     all_goals have ho9:=ho8.mv m9 (.inr (ho8.neBlock h8 bG))
     all_goals have hm9:=hm8.trans m9
     all_goals clear hpx8 hp8
     all_goals refine_lift cC fun _ _ => ?_
     all_goals refine wZ (hc3 _ h9) ?_
     all_goals rintro _ w10 ⟨rfl,h10,m10⟩
     all_goals refine ⟨_,rfl,?_⟩
     all_goals refine aD ?_
     all_goals have hx10:=m10.at hx9 hne
     all_goals have hpx10:=aA hx10
     all_goals have ho10:=ho9.mv m10 (.inr (ho9.neBlock h9 bG))
     all_goals have hm10:=hm9.trans m10
     all_goals clear hpx9
     all_goals refine_lift aX ?_
     all_goals refine eS 2 (.int .i64 (ttl:Nat)) hx10 rfl ?_
     all_goals intro w11 p11
     all_goals have hx11:w11.heap[c]? = some (.cells [aI nm, .int .i64 (kind:Nat), .int .i64 (ttl:Nat),aI []].toArray 67 (0,0)):=p11.this
     all_goals have h11:dT w11 b s y2:=p11.mv.at h10 (by intro e;exact hne e.symm)
     all_goals have ho11:=ho10.mv p11.mv hv5
     all_goals have hm11:=hm10.fresh p11.mv hwc
     all_goals clear hpx10
     all_goals refine_lift cC fun _ _ => ?_
     all_goals refine bE 5 (fun w'=>Pts w' (.pointer (some ⟨c,0,none⟩)) [aI nm, .int .i64 (kind:Nat), .int .i64 (ttl:Nat),aI []]) aR ?_
     all_goals intro w12 x12 _
     all_goals have hx12:=x12.at hx11
     all_goals have h12:dT w12 b s y2:=x12.at h11
     all_goals have ho12:=ho11.ext x12
     all_goals have hm12:=hm11.trans (x12.mv _)
     all_goals refine ⟨aA hx12,?_⟩
     all_goals refine cI 0 ?_;refine cI 1 ?_;refine cI 2 ?_;refine cI 3 ?_
     all_goals refine fR 4 ?_
     all_goals refine wZ (hc4 _ h12) ?_
     all_goals rintro _ w13 ⟨rfl,h13,m13⟩
     all_goals refine ⟨_,rfl,?_⟩
     all_goals refine aD ?_
     all_goals have hx13:=m13.at hx12 hne
     all_goals have ho13:=ho12.mv m13 (.inr (ho12.neBlock h12 bG))
     all_goals have hm13:=hm12.trans m13
     all_goals refine aG ⟨bJ (aA hx13),?_⟩
     all_goals refine fR 5 ?_
     all_goals refine wZ (hc5 _ h13) ?_
     all_goals rintro _ w14 ⟨rfl,h14,m14⟩
     all_goals refine ⟨_,rfl,?_⟩
     all_goals refine aD ?_
     all_goals have hx14:=m14.at hx13 hne
     all_goals have hpx14:=aA hx14
     all_goals have ho14:=ho13.mv m14 (.inr (ho13.neBlock h13 bG))
     all_goals have hm14:=hm13.trans m14
     all_goals refine aG ⟨bF rfl,?_⟩
     all_goals refine fR 6 ?_
     all_goals ((with_reducible refine bM ?_);(first | (refine iX ?_;refine fG ?_) | (refine nV ?_;refine oW ?_;(with_reducible refine bM ?_);refine iX ?_;refine fG ?_)))
     all_goals refine aG ⟨bF rfl,?_⟩
     all_goals refine fR 7 ?_
     all_goals refine eS 3 (aI dat) hx14 rfl ?_
     all_goals intro w15 p15
     all_goals have hx15:w15.heap[c]? = some (.cells [aI nm, .int .i64 (kind:Nat), .int .i64 (ttl:Nat),aI dat].toArray 67 (0,0)):=p15.this
     all_goals have hpx15:=aA hx15
     all_goals have h15:dT w15 b s y4:=p15.mv.at h14 (by intro e;exact hne e.symm)
     all_goals have ho15:=ho14.mv p15.mv hv5
     all_goals have hm15:=hm14.fresh p15.mv hwc
     all_goals clear hpx14
     all_goals refine aG ⟨bF rfl,?_⟩
     all_goals refine qR ?_
     all_goals refine_lift rT (fun _ _ hc => ?_) (fun _ _ hc => ?_)
     all_goals first
      | (refine cY (Aw ⟨nm,kind,ttl,dat⟩ _) fun w16 x16 => ?_
         have h16:=x16.at h15;have hx16:=x16.at hx15;have hpx16:=aA hx16;have ho16:=ho15.ext x16;have hm16:=hm15.trans (x16.mv _);refine_lift aX ?_)
      | (have h16:=h15
         have hx16:=hx15;have hpx16:=hpx15;have ho16:=ho15;have hm16:=hm15)
     all_goals clear hpx15
     all_goals refine cP (vs:=[.pointer (some ⟨b,0,none⟩), .bool (decide ((i:Int) < 200) && decide (aU ⟨nm,kind,ttl,dat⟩=0)), .int .i64 2]) (enters_of Tryz.func39 rfl rfl) rfl ?_ (hc6 _ h16) ?_
     all_goals first
      | (refine congrArg (fun z=>[Value.pointer (some ⟨b,0,none⟩),Value.bool z, .int .i64 2]) ?_;simp [*];done)
      | skip
     all_goals rintro _ w17 ⟨rfl,h17,m17⟩
     all_goals refine ⟨_,rfl,?_⟩
     all_goals refine aD ?_
     all_goals have hpx17:Pts w17 (.pointer (some ⟨c,0,none⟩)) [aI nm, .int .i64 (kind:Nat), .int .i64 (ttl:Nat),aI dat]:=aA (m17.at hx16 hne)
     all_goals have ho17:=ho16.mv m17 (.inr (ho16.neBlock h16 bG))
     all_goals have hm17:=hm16.trans m17
     all_goals clear hpx16
     all_goals refine_lift aX ?_
     all_goals refine nG (e:=67) (k:=4) (bytes:=48) (xs:=[.agg #[aI nm, .int .i64 (kind:Nat), .int .i64 (ttl:Nat),aI dat]]) (by simp [Value.cells]) ?_
     all_goals intro u18 w18 x18 _ sl18 o18
     all_goals refine aD ?_
     all_goals have h18:dT w18 b s y5:=x18.at h17
     all_goals have ho18:=ho17.ext x18
     all_goals have hm18:=hm17.trans (x18.mv _)
     all_goals refine aZ (v0:=u6) (es:=aJ l) (fs:=[[aI nm, .int .i64 (kind:Nat), .int .i64 (ttl:Nat),aI dat]]) rfl ho18 rfl sl18 (by simp [aI,Value.oneCell']) hm18.size (by simp [aJ];omega) ?_
     all_goals intro v19 w19 o19 m19 _
     all_goals refine aD ?_
     all_goals have h19:dT w19 b s y5:=m19.at h18 (fun e=>(ho18.neBlock h18 bG) e.symm)
     all_goals have hm19:=hm18.fresh' m19 (fun c hc=>(ho18.block c hc).1)
     all_goals refine_lift aX ?_
     all_goals refine ⟨⟨i + 1,l ++ [⟨nm,kind,ttl,dat⟩],y5,aE,by go_num,rfl,by simpa [aJ,Rec.cells] using o19,by simp [hli],h19,hy5,hm19,?_⟩,by simp [intOf];omega⟩
     all_goals rw [show n - (i + 1)=f' by omega]
     all_goals exact hg
   ·obtain ⟨f',hf'⟩:∃ f',n - i=f' + 1:=⟨n - i - 1,aE⟩;rw [hf'] at hg;unfold iN at hg;rw [if_pos c2] at hg;refine_lift RP (fun hc => ?_) (fun hc _ => ?_)
    all_goals first
     | (exfalso;omega)
     | skip
    go_ret2;rw [← hg];exact ⟨_,rfl,ho,hR,hm⟩
  ·have hn0:n - i=0:=aE;rw [hn0] at hg;unfold iN at hg;refine_lift jS fun hc => ?_
   all_goals first
    | (exfalso;omega)
    | skip
   go_ret2;rw [← hg];exact ⟨_,rfl,ho,hR,hm⟩
theorem mP {fn:Func} {t u v x:Tmp} (h:fn.results=#[.tmp t, .tmp u, .tmp v, .tmp x]) (ts:Array Value) (P:Program) (w:World):(results fn ts).run P w=.ok (.tuple #[ts.getD t undef,ts.getD u undef,ts.getD v undef,ts.getD x undef]) w:=by simp [results,h]
def bA (f k:Nat):Bool := !decide (((f &&& k:Nat):Int)=0)
def IC:RdS:=⟨0,0⟩
def fW (s:List UInt8):Nat × RdS:=IC.number s 2
def fP (s:List UInt8):Nat × RdS:=(fW s).2.number s 2
def tC (s:List UInt8) (e:Ending) (w w':World):Prop :=
 e=.returned (.tuple (if s.length < 12 then #[.int .i64 0, .int .i64 0, .bool false, .int .i64 3] else #[.int .i64 ((fW s).1:Nat), .int .i64 (((fP s).1 / 2048 &&& 15:Nat):Int), .bool (bA (fP s).1 32768), .int .i64 0]))∧Ext w w'
theorem MT (s:List UInt8) (hs:s.length≤100000000):IC.Ok s:=by
 constructor
 all_goals (simp [IC];try omega)
theorem YW (s:List UInt8) (hs:s.length≤1000000):Calls Tryz.prog 15 #[aI s] w (fun e w'=>tC s e w w'):=by
 have hs8:s.length≤100000000:=aE;have h0:=MT s hs8;unfold tC fP fW;go_enter Tryz.func15,Tryz.ntmps15
 have h1:=bH (n:=2) h0 hs8 aE;have l1:=bQ s IC 2 aE;have c1:=fun w' b (h':dT w' b s IC)=>fC h' h0 hs8 2 aE aE;generalize IC.number s 2=R1 at *;obtain ⟨id,r1⟩:=R1;dsimp only at *;have l2:=bQ s r1 2 aE;have c2:=fun w' b (h':dT w' b s r1)=>fC h' h1 hs8 2 aE aE;generalize r1.number s 2=R2 at *;obtain ⟨fl,r2⟩:=R2;dsimp only at *;by_cases cl:s.length < 12
 ·rw [if_pos cl];refine_lift jS fun _ => ?_
  all_goals first
   | (exfalso;omega)
   | skip
  refine bodyPost_ret (mP rfl _ _ _) rfl ?_;exact ⟨rfl,Ext.refl _⟩
 ·rw [if_neg cl];refine_lift qQ ?_;intro _ _ _ _
  all_goals first
   | (exfalso;omega)
   | skip
  refine aS (v:=.agg #[aI s, .int .i64 0, .int .i64 0]) (Runs.build rfl (by kernel_rfl)) ?_;refine aD ?_;refine zV (vs:=[aI s, .int .i64 0, .int .i64 0]) fun w1 x1 s1 hb1 => ?_;refine aD ?_;have hR1:dT w1 w.heap.size s IC:=hb1;refine_lift cC fun _ _ => ?_;refine bK (c1 _ _ hR1) fun w2 h2 m2 => ?_;refine_lift aX ?_;refine bK (c2 _ _ h2) fun w3 h3 m3 => ?_;refine_lift cC fun _ _ => ?_;have l2':fl < 65536:=by simpa using l2
  refine aS (Runs.andN (m:=fl / 2048) (n:=15) (by show Value.int .i64 _=_;simp) rfl aE bG) ?_;refine aD ?_;refine_lift aX ?_;refine aS (Runs.andN (m:=fl) (n:=32768) rfl rfl aE bG) ?_;refine aD ?_;refine_lift aX ?_;refine bodyPost_ret (mP rfl _ _ _) rfl ?_;exact ⟨rfl,x1.move (m2.trans m3) (by rintro k ⟨⟩;exact Nat.le_refl _)⟩
def OA (x:RecW):RdS:=x.r3.want (decide (((x.cls:Nat):Int)=1) && qG (x.name,((x.kind:Nat):Int))) 2
def DA (s:List UInt8):Nat→List rC→RdS→List rC × RdS
 | 0,l,r=>(l,r)
 | f + 1,l,r=>if r.e≠0 then (l,r) else DA s f (l ++ [((iD s r).name,(((iD s r).kind:Nat):Int))]) (OA (iD s r))
def OB (s:List UInt8):RdS:=(fP s).2.want (decide ((((fP s).1 &&& 112:Nat):Int)=0)) 2
def lN (s:List UInt8):Nat × RdS:=(OB s).number s 2
def qK (s:List UInt8):Nat × RdS:=(lN s).2.number s 2
def sL (s:List UInt8):Nat × RdS:=(qK s).2.number s 2
def uT (s:List UInt8):Nat × RdS:=(sL s).2.number s 2
def QA (s:List UInt8):RdS:=(uT s).2.want (decide (((lN s).1:Int)≤10)) 2
def KO (s:List UInt8):List rC × RdS:=DA s (lN s).1 [] (QA s)
def TS (s:List UInt8):List Rec × Nat × RdS:=dX s (KO s).2 (qK s).1 false
def TT (s:List UInt8):List Rec × Nat × RdS:=dX s (TS s).2.2 (sL s).1 false
def HP (s:List UInt8):List Rec × Nat × RdS:=dX s (TT s).2.2 (uT s).1 true
def TU (s:List UInt8):RdS:=(HP s).2.2.want (decide ((HP s).2.2.at_=(s.length:Int))) 2
def Aq:MsgR:=⟨0,false,0,false,false,false,false,0,[],[],[],[],0⟩
def dD (s:List UInt8):MsgR × Int :=
 if (TU s).e=0 then (⟨((fW s).1:Nat),bA (fP s).1 32768,(((fP s).1 / 2048 &&& 15:Nat):Int),bA (fP s).1 1024,bA (fP s).1 512,bA (fP s).1 256,bA (fP s).1 128,(((fP s).1 &&& 15:Nat):Int),(KO s).1,(TS s).1,(TT s).1,(HP s).1,((HP s).2.1:Nat)⟩,0)
 else (Aq,(TU s).e)
def yD (s:List UInt8) (e:Ending) (w w':World):Prop:=∃ q a u x,e=.returned (.tuple #[.agg (aM (dD s).1 q a u x).toArray, .int .i64 (dD s).2])∧MsgV w' (dD s).1 q a u x∧Ext w w'
theorem TV {x:RecW} (hr:x.r3.Ok s):(OA x).Ok s:=hr.want _ bG
theorem TW (hs:s.length≤100000000):∀ (f:Nat) (l:List rC) (r:RdS),r.Ok s→(DA s f l r).2.Ok s:=by
 intro f;induction f with
 | zero=>intro l r h;exact h
 | succ f ih =>
  intro l r h;unfold DA;split
  ·exact h
  ·exact ih _ _ (TV (nR h hs))
theorem TX (hs:s.length≤100000000) (last:Bool) (n:Nat):∀ (f i:Nat) (l:List Rec) (r:RdS),r.Ok s→(iN s last n f i l r).2.2.Ok s:=by
 intro f;induction f with
 | zero=>intro i l r h;exact h
 | succ f ih =>
  intro i l r h;unfold iN;have hX:=nR h hs;split
  ·exact h
  ·split
   ·exact RdS.Ok.want (bH (bH hX hs aE) hs aE) _ bG
   ·exact ih _ _ _ (MS hX hs _)
theorem oG (hs:s.length≤100000000) {r:RdS} (h:r.Ok s) (n:Nat) (last:Bool):(dX s r n last).2.2.Ok s:=TX hs _ _ _ _ _ _ (h.want _ bG)
theorem TY {a b:Value} (h1:a.oneCell'=true) (h2:b.oneCell'=true):(Value.agg #[a,b]).cells.all (·.oneCell')=true:=by simp [Value.cells,h1,h2]
theorem KP (s:List UInt8) (hs:s.length≤1000000):Calls Tryz.prog 14 #[aI s] w (fun e w'=>yD s e w w'):=by
 have hs8:s.length≤100000000:=aE;have o0:=MT s hs8;have o1:(fW s).2.Ok s:=bH o0 hs8 aE;have o2:(fP s).2.Ok s:=bH o1 hs8 aE;have o3:(OB s).Ok s:=o2.want _ bG;have o4:(lN s).2.Ok s:=bH o3 hs8 aE;have o5:(qK s).2.Ok s:=bH o4 hs8 aE;have o6:(sL s).2.Ok s:=bH o5 hs8 aE;have o7:(uT s).2.Ok s:=bH o6 hs8 aE;have o8:(QA s).Ok s:=o7.want _ bG;have o9:(KO s).2.Ok s:=TW hs8 _ _ _ o8;have o10:(TS s).2.2.Ok s:=oG hs8 o9 _ _;have o11:(TT s).2.2.Ok s:=oG hs8 o10 _ _;have l1:(fW s).1 < 65536:=by have:=bQ s IC 2 aE;simpa [fW] using this
 have l2:(fP s).1 < 65536:=by have:=bQ s (fW s).2 2 aE;simpa [fP] using this
 have n1:(lN s).1 < 65536:=by have:=bQ s (OB s) 2 aE;simpa [lN] using this
 have n2:(qK s).1 < 65536:=by have:=bQ s (lN s).2 2 aE;simpa [qK] using this
 have n3:(sL s).1 < 65536:=by have:=bQ s (qK s).2 2 aE;simpa [sL] using this
 have n4:(uT s).1 < 65536:=by have:=bQ s (sL s).2 2 aE;simpa [uT] using this
 have c1:=fun w' b (h':dT w' b s IC)=>fC h' o0 hs8 2 aE aE;have c2:=fun w' b (h':dT w' b s (fW s).2)=>fC h' o1 hs8 2 aE aE;have c3:=fun w' b (h':dT w' b s (fP s).2)=>iU h' (decide ((((fP s).1 &&& 112:Nat):Int)=0)) 2;have c4:=fun w' b (h':dT w' b s (OB s))=>fC h' o3 hs8 2 aE aE;have c5:=fun w' b (h':dT w' b s (lN s).2)=>fC h' o4 hs8 2 aE aE;have c6:=fun w' b (h':dT w' b s (qK s).2)=>fC h' o5 hs8 2 aE aE;have c7:=fun w' b (h':dT w' b s (sL s).2)=>fC h' o6 hs8 2 aE aE;have c8:=fun w' b (h':dT w' b s (uT s).2)=>iU h' (decide (((lN s).1:Int)≤10)) 2;have c10:=fun w' b (h':dT w' b s (KO s).2)=>yC h' o9 hs (qK s).1 aE false;have c11:=fun w' b (h':dT w' b s (TS s).2.2)=>yC h' o10 hs (sL s).1 aE false;have c12:=fun w' b (h':dT w' b s (TT s).2.2)=>yC h' o11 hs (uT s).1 aE true;have c13:=fun w' b (h':dT w' b s (HP s).2.2)=>iU h' (decide ((HP s).2.2.at_=(s.length:Int))) 2;have hQ:DA s (lN s).1 [] (QA s)=KO s:=rfl;change ∀ w' b,dT w' b s IC→Calls _ _ _ _ (nQ w' b s (.int .i64 ((fW s).1:Nat)) (fW s).2) at c1;change ∀ w' b,dT w' b s (fW s).2→Calls _ _ _ _ (nQ w' b s (.int .i64 ((fP s).1:Nat)) (fP s).2) at c2;change ∀ w' b,dT w' b s (fP s).2→Calls _ _ _ _ (nQ w' b s (.bool (decide ((OB s).e=0))) (OB s)) at c3;change ∀ w' b,dT w' b s (OB s)→Calls _ _ _ _ (nQ w' b s (.int .i64 ((lN s).1:Nat)) (lN s).2) at c4;change ∀ w' b,dT w' b s (lN s).2→Calls _ _ _ _ (nQ w' b s (.int .i64 ((qK s).1:Nat)) (qK s).2) at c5;change ∀ w' b,dT w' b s (qK s).2→Calls _ _ _ _ (nQ w' b s (.int .i64 ((sL s).1:Nat)) (sL s).2) at c6;change ∀ w' b,dT w' b s (sL s).2→Calls _ _ _ _ (nQ w' b s (.int .i64 ((uT s).1:Nat)) (uT s).2) at c7;change ∀ w' b,dT w' b s (uT s).2→Calls _ _ _ _ (nQ w' b s (.bool (decide ((QA s).e=0))) (QA s)) at c8;change ∀ w' b,dT w' b s (KO s).2→Calls _ _ _ _ (HN w' b s (TS s)) at c10;change ∀ w' b,dT w' b s (TS s).2.2→Calls _ _ _ _ (HN w' b s (TT s)) at c11;change ∀ w' b,dT w' b s (TT s).2.2→Calls _ _ _ _ (HN w' b s (HP s)) at c12;change ∀ w' b,dT w' b s (HP s).2.2→Calls _ _ _ _ (nQ w' b s (.bool (decide ((TU s).e=0))) (TU s)) at c13;unfold yD dD;generalize fW s=H1 at *;generalize fP s=H2 at *;generalize OB s=W1 at *;generalize lN s=N1 at *;generalize qK s=N2 at *;generalize sL s=N3 at *;generalize uT s=N4 at *;generalize QA s=V1 at *;generalize KO s=Q9 at *;generalize TS s=A9 at *;generalize TT s=U9 at *;generalize HP s=X9 at *;generalize TU s=E9 at *;obtain ⟨id,r1⟩:=H1;obtain ⟨fl,r2⟩:=H2;obtain ⟨k1,r4⟩:=N1;obtain ⟨k2,r5⟩:=N2;obtain ⟨k3,r6⟩:=N3;obtain ⟨k4,r7⟩:=N4;dsimp only at *;go_enter Tryz.func14,Tryz.ntmps14
 refine_lift rI ?_;intro _ _ _;refine fO (z:=fB) fun wa xa sa ha => ?_;refine aD ?_;refine_lift cC fun _ _ => ?_;refine aS (v:=.agg #[aI s, .int .i64 0, .int .i64 0]) (Runs.build rfl (by kernel_rfl)) ?_;refine aD ?_;refine zV (vs:=[aI s, .int .i64 0, .int .i64 0]) fun wb xb sb hb => ?_;refine aD ?_;have hR1:dT wb wa.heap.size s IC:=hb;have xab:=xa.trans xb;have hab:=xa.size;have hbl:wa.heap.size < wb.heap.size:=aE;have hal:w.heap.size < wa.heap.size:=aE;have ha1:=xb.at ha;generalize hb9:wa.heap.size=b at *;clear ha hb;refine_lift cC fun _ _ => ?_;refine bK (c1 _ _ hR1) fun w1 h1 m1 => ?_;refine_lift aX ?_;refine aS (v:=.agg (aM ⟨(id:Nat),false,0,false,false,false,false,0,[],[],[],[],0⟩ (.slice none 0 0) (.slice none 0 0) (.slice none 0 0) (.slice none 0 0)).toArray) (Runs.build rfl (by kernel_rfl)) ?_;refine aD ?_;refine fO (z:=fB) fun w2 x2 s2 hz2 => ?_;refine aD ?_;refine dS (v:=.agg (aM ⟨(id:Nat),false,0,false,false,false,false,0,[],[],[],[],0⟩ (.slice none 0 0) (.slice none 0 0) (.slice none 0 0) (.slice none 0 0)).toArray) hz2 (bY (w:=w2) (m:=⟨(id:Nat),false,0,false,false,false,false,0,[],[],[],[],0⟩) ⟨Sl.nil _ _,Sl.nil _ _,Sl.nil _ _,Sl.nil _ _⟩) fun w3 p3 => ?_;have hM3:w3.heap[w1.heap.size]? = some (.cells (aM ⟨(id:Nat),false,0,false,false,false,false,0,[],[],[],[],0⟩ (.slice none 0 0) (.slice none 0 0) (.slice none 0 0) (.slice none 0 0)).toArray 48 (0,0)):=p3.this;have x13:=cH x2 p3;have h3:dT w3 b s r1:=x13.at h1;have hsz:=m1.size;have hne:some w1.heap.size≠some b:=by intro e;have:=Option.some.inj e;omega
 have hcw:w.heap.size≤w1.heap.size:=aE;have hbw:w.heap.size≤b:=aE;have hb1:b < w1.heap.size:=aE;have ha1':wb.heap[w.heap.size]? = _:=ha1;have ha2:=m1.at ha1 (by intro e;have:=Option.some.inj e;omega);have ha3:=x13.at ha2;have x3:Ext w w3:=(xab.move m1 (by rintro k ⟨⟩;omega)).trans x13;clear ha1 ha1' ha2 hz2 p3 x2 hR1;have hac:w.heap.size < w1.heap.size:=aE;generalize hc9:w1.heap.size=c at *;refine_lift cC fun _ _ => ?_;have hna:some w.heap.size≠some b:=by intro e;have:=Option.some.inj e;omega
 have hnc:some w.heap.size≠some c:=by intro e;have:=Option.some.inj e;omega
 refine_lift aX ?_;refine bK (c2 _ _ h3) fun w4 h4 m4 => ?_;have hM4:=m4.at hM3 hne;have ha4:=m4.at ha3 hna;have x4:Ext w w4:=x3.move m4 (by rintro k ⟨⟩;exact hbw);clear h3 hM3 ha3 x3 m4;refine_lift cC fun _ _ => ?_;refine aS (Runs.andN (m:=fl) (n:=112) rfl rfl aE bG) ?_;refine aD ?_;refine_lift aX ?_;refine bK (c3 _ _ h4) fun w5 h5 m5 => ?_;have hM5:=m5.at hM4 hne;have ha5:=m5.at ha4 hna;have x5:Ext w w5:=x4.move m5 (by rintro k ⟨⟩;exact hbw);clear h4 hM4 ha4 x4 m5;refine_lift cC fun _ _ => ?_;refine aS (Runs.andN (m:=fl) (n:=32768) rfl rfl aE bG) ?_;refine aD ?_;refine_lift aX ?_;refine aS (Runs.andN (m:=fl) (n:=1024) rfl rfl aE bG) ?_;refine aD ?_;refine_lift aX ?_;refine aS (Runs.andN (m:=fl) (n:=512) rfl rfl aE bG) ?_;refine aD ?_;refine_lift aX ?_;refine aS (Runs.andN (m:=fl) (n:=256) rfl rfl aE bG) ?_;refine aD ?_;refine_lift aX ?_;refine aS (Runs.andN (m:=fl) (n:=128) rfl rfl aE bG) ?_;refine aD ?_;refine_lift aX ?_;refine eS 1 (.bool (bA fl 32768)) hM5 rfl fun w6 p6 => ?_;have hM6:w6.heap[c]? = some (.cells (aM ⟨((id:Nat):Int),(bA fl 32768),0,false,false,false,false,0,[],[],[],[],0⟩ (.slice none 0 0) (.slice none 0 0) (.slice none 0 0) (.slice none 0 0)).toArray 48 (0,0)):=p6.this;have h6:=p6.mv.at h5 (by intro e;exact hne e.symm);have ha6:=p6.mv.at ha5 hnc;have x6:=cH x5 p6;clear h5 hM5 ha5 x5 p6;refine_lift aX ?_;refine eS 3 (.bool (bA fl 1024)) hM6 rfl fun w7 p7 => ?_;have hM7:w7.heap[c]? = some (.cells (aM ⟨((id:Nat):Int),(bA fl 32768),0,(bA fl 1024),false,false,false,0,[],[],[],[],0⟩ (.slice none 0 0) (.slice none 0 0) (.slice none 0 0) (.slice none 0 0)).toArray 48 (0,0)):=p7.this;have h7:=p7.mv.at h6 (by intro e;exact hne e.symm);have ha7:=p7.mv.at ha6 hnc;have x7:=cH x6 p7;clear h6 hM6 ha6 x6 p7;refine_lift aX ?_;refine eS 4 (.bool (bA fl 512)) hM7 rfl fun w8 p8 => ?_;have hM8:w8.heap[c]? = some (.cells (aM ⟨((id:Nat):Int),(bA fl 32768),0,(bA fl 1024),(bA fl 512),false,false,0,[],[],[],[],0⟩ (.slice none 0 0) (.slice none 0 0) (.slice none 0 0) (.slice none 0 0)).toArray 48 (0,0)):=p8.this;have h8:=p8.mv.at h7 (by intro e;exact hne e.symm);have ha8:=p8.mv.at ha7 hnc;have x8:=cH x7 p8;clear h7 hM7 ha7 x7 p8;refine_lift aX ?_;refine eS 5 (.bool (bA fl 256)) hM8 rfl fun w9 p9 => ?_;have hM9:w9.heap[c]? = some (.cells (aM ⟨((id:Nat):Int),(bA fl 32768),0,(bA fl 1024),(bA fl 512),(bA fl 256),false,0,[],[],[],[],0⟩ (.slice none 0 0) (.slice none 0 0) (.slice none 0 0) (.slice none 0 0)).toArray 48 (0,0)):=p9.this;have h9:=p9.mv.at h8 (by intro e;exact hne e.symm);have ha9:=p9.mv.at ha8 hnc;have x9:=cH x8 p9;clear h8 hM8 ha8 x8 p9;refine_lift aX ?_;refine eS 6 (.bool (bA fl 128)) hM9 rfl fun w10 p10 => ?_;have hM10:w10.heap[c]? = some (.cells (aM ⟨((id:Nat):Int),(bA fl 32768),0,(bA fl 1024),(bA fl 512),(bA fl 256),(bA fl 128),0,[],[],[],[],0⟩ (.slice none 0 0) (.slice none 0 0) (.slice none 0 0) (.slice none 0 0)).toArray 48 (0,0)):=p10.this;have h10:=p10.mv.at h9 (by intro e;exact hne e.symm);have ha10:=p10.mv.at ha9 hnc;have x10:=cH x9 p10;clear h9 hM9 ha9 x9 p10;refine_lift cC fun _ _ => ?_;refine aS (Runs.andN (m:=fl / 2048) (n:=15) (by show Value.int .i64 _=_;simp) rfl aE bG) ?_;refine aD ?_;refine_lift aX ?_;refine aS (Runs.andN (m:=fl) (n:=15) rfl rfl aE bG) ?_;refine aD ?_;refine_lift aX ?_;refine eS 2 (.int .i64 ((fl / 2048 &&& 15:Nat):Int)) hM10 rfl fun w11 p11 => ?_;have hM11:w11.heap[c]? = some (.cells (aM ⟨((id:Nat):Int),(bA fl 32768),(((fl / 2048 &&& 15:Nat)):Int),(bA fl 1024),(bA fl 512),(bA fl 256),(bA fl 128),0,[],[],[],[],0⟩ (.slice none 0 0) (.slice none 0 0) (.slice none 0 0) (.slice none 0 0)).toArray 48 (0,0)):=p11.this;have h11:=p11.mv.at h10 (by intro e;exact hne e.symm);have ha11:=p11.mv.at ha10 hnc;have x11:=cH x10 p11;clear h10 hM10 ha10 x10 p11;refine_lift aX ?_;refine eS 7 (.int .i64 ((fl &&& 15:Nat):Int)) hM11 rfl fun w12 p12 => ?_;have hM12:w12.heap[c]? = some (.cells (aM ⟨((id:Nat):Int),(bA fl 32768),(((fl / 2048 &&& 15:Nat)):Int),(bA fl 1024),(bA fl 512),(bA fl 256),(bA fl 128),((fl &&& 15:Nat):Int),[],[],[],[],0⟩ (.slice none 0 0) (.slice none 0 0) (.slice none 0 0) (.slice none 0 0)).toArray 48 (0,0)):=p12.this;have h12:=p12.mv.at h11 (by intro e;exact hne e.symm);have ha12:=p12.mv.at ha11 hnc;have x12:=cH x11 p12;clear h11 hM11 ha11 x11 p12;refine_lift cC fun _ _ => ?_;refine bK (c4 _ _ h12) fun w13 h13 m13 => ?_;have hM13:=m13.at hM12 hne;have ha13:=m13.at ha12 hna;have x13:Ext w w13:=x12.move m13 (by rintro k ⟨⟩;exact hbw);clear h12 hM12 ha12 x12 m13;refine_lift aX ?_;refine bK (c5 _ _ h13) fun w14 h14 m14 => ?_;have hM14:=m14.at hM13 hne;have ha14:=m14.at ha13 hna;have x14:Ext w w14:=x13.move m14 (by rintro k ⟨⟩;exact hbw);clear h13 hM13 ha13 x13 m14;refine_lift aX ?_;refine bK (c6 _ _ h14) fun w15 h15 m15 => ?_;have hM15:=m15.at hM14 hne;have ha15:=m15.at ha14 hna;have x15:Ext w w15:=x14.move m15 (by rintro k ⟨⟩;exact hbw);clear h14 hM14 ha14 x14 m15;refine_lift aX ?_;refine bK (c7 _ _ h15) fun w16 h16 m16 => ?_;have hM16:=m16.at hM15 hne;have ha16:=m16.at ha15 hna;have x16:Ext w w16:=x15.move m16 (by rintro k ⟨⟩;exact hbw);clear h15 hM15 ha15 x15 m16;refine_lift cC fun _ _ => ?_;refine bK (c8 _ _ h16) fun w17 h17 m17 => ?_;have hM17:=m17.at hM16 hne;have ha17:=m17.at ha16 hna;have x17:Ext w w17:=x16.move m17 (by rintro k ⟨⟩;exact hbw);clear h16 hM16 ha16 x16 m17;refine_lift cC fun _ _ => ?_;go_loopw [11,12,13] (fun iv _ _ wr=>∃ (i:Nat) (l:List rC) (r':RdS) (qv:Value),i≤k1∧iv=.int .i64 i∧l.length=i∧dT wr b s r'∧r'.Ok s∧Ext w wr∧wr.heap[w.heap.size]? = some (.cells fB.toArray 48 (0,0))∧wr.heap[c]? = some (.cells (aM ⟨((id:Nat):Int),(bA fl 32768),(((fl / 2048 &&& 15:Nat)):Int),(bA fl 1024),(bA fl 512),(bA fl 256),(bA fl 128),((fl &&& 15:Nat):Int),l,[],[],[],0⟩ qv (.slice none 0 0) (.slice none 0 0) (.slice none 0 0)).toArray 48 (0,0))∧Own w.heap.size 2 45 wr qv (cR l)∧DA s (k1 - i) l r'=Q9) (fun iv _ _ _=>k1 - (intOf iv).toNat)
 case atStart=>exact ⟨0,[],V1,(.slice none 0 0),Nat.zero_le _,rfl,rfl,h17,o8,x17,ha17,hM17,Own.nil _ _ _ _,hQ⟩
 case round =>
  obtain ⟨i,l,r',qv,hi,rfl,hli,hR,hok,hx,ha,hM,hq,hg⟩:=hrel;have hpr:=aA (cs:=jX s r') hR;by_cases c0:i < k1∧r'.e=0
  ·obtain ⟨c1',c2'⟩:=c0;obtain ⟨f',hf'⟩:∃ f',k1 - i=f' + 1:=⟨k1 - i - 1,aE⟩;rw [hf'] at hg
   all_goals skip
   unfold DA at hg;rw [if_neg (by simpa using c2')] at hg;have hX:=nR hok hs8;have hXe:iD s r'=⟨(eT s r').1,((eT s r').2.number s 2).1,(((eT s r').2.number s 2).2.number s 2).1,(((eT s r').2.number s 2).2.number s 2).2⟩:=rfl;obtain ⟨hn1',hn2'⟩:=lL hok hs8;have hcn:=MN hR hok hs8;generalize hN:eT s r'=N at *;obtain ⟨nm,q1⟩:=N;dsimp only at *;have hq2:=bH (n:=2) hn2' hs8 aE;have hk1:=bQ s q1 2 aE;have hc1:=fun w' (h':dT w' b s q1)=>fC h' hn2' hs8 2 aE aE;generalize q1.number s 2=K at *;obtain ⟨kind,q2⟩:=K;dsimp only at *;have hq3:=bH (n:=2) hq2 hs8 aE;have hk2:=bQ s q2 2 aE;have hc2:=fun w' (h':dT w' b s q2)=>fC h' hq2 hs8 2 aE aE;generalize q2.number s 2=C at *;obtain ⟨cls,q3⟩:=C;dsimp only at *;rw [hXe] at hg;have hQn:OA ⟨nm,kind,cls,q3⟩=q3.want (decide ((cls:Int)=1) && qG (nm,((kind:Nat):Int))) 2:=rfl;rw [hQn] at hg;clear hQn;have hy5:=hq3.want (decide ((cls:Int)=1) && qG (nm,((kind:Nat):Int))) (er:=2) bG;have hcq:=fun w' (h':dT w' b s q3)=>iU h' (decide ((cls:Int)=1) && qG (nm,((kind:Nat):Int))) 2;generalize q3.want (decide ((cls:Int)=1) && qG (nm,((kind:Nat):Int))) 2=y5 at *;have hk1':kind < 65536:=by simpa using hk1
   have hk2':cls < 65536:=by simpa using hk2
   (repeat' first | ((with_reducible refine cQ ?_);go_step) | ((with_reducible refine bM ?_);first | refine gR ?_ | (refine cV ?_ ?_ <;> intro hc)) | fail)
   all_goals first
    | (exfalso;omega)
    | skip
   refine bK hcn fun w18 h18 m18 => ?_;have hM18:=m18.at hM hne;have ha18:=m18.at ha hna;have x18:Ext w w18:=hx.move m18 (by rintro k ⟨⟩;exact hbw);have hq18:=hq.mv m18 (.inr (hq.neBlock hR bG));refine_lift aX ?_;refine aS (v:=.agg #[aI nm, .int .i64 0]) (Runs.build rfl (by kernel_rfl)) ?_;refine aD ?_;refine fO (z:=[aI [], .int .i64 0]) fun w19 x19 s19 hz19 => ?_;refine aD ?_;refine dS (v:=.agg #[aI nm, .int .i64 0]) hz19 (TY rfl rfl) fun w20 p20 => ?_;have hD20:w20.heap[w18.heap.size]? = some (.cells [aI nm, .int .i64 0].toArray 45 (0,0)):=p20.this;have x1820:=cH x19 p20;have h20:dT w20 b s q1:=x1820.at h18;have hM20:=x1820.at hM18;have ha20:=x1820.at ha18;have x20:=x18.trans x1820;have hq20:=hq18.ext x1820;have hv20:=HG hq18 w18.heap.size (Nat.le_refl _);have hdw:w.heap.size≤w18.heap.size:=x18.size;have hbd:b < w18.heap.size:=(Array.getElem?_eq_some_iff.1 h18).1;have hcd:c < w18.heap.size:=(Array.getElem?_eq_some_iff.1 hM18).1;have had:w.heap.size < w18.heap.size:=(Array.getElem?_eq_some_iff.1 ha18).1;have hneD:some w18.heap.size≠some b:=by intro e;have:=Option.some.inj e;omega
   have hncD:some c≠some w18.heap.size:=by intro e;have:=Option.some.inj e;omega
   have hnaD:some w.heap.size≠some w18.heap.size:=by intro e;have:=Option.some.inj e;omega
   clear hz19 p20 x19 hpr hcn h18 hM18 ha18 hq18 x18 hR hM ha hx hq m18;generalize w18.heap.size=d at *;refine_lift cC fun _ _ => ?_;refine bK (hc1 _ h20) fun w21 h21 m21 => ?_;have hM21:=m21.at hM20 hne;have ha21:=m21.at ha20 hna;have hD21:=m21.at hD20 hneD;have x21:Ext w w21:=x20.move m21 (by rintro k ⟨⟩;exact hbw);have hq21:=hq20.mv m21 (.inr (hq20.neBlock h20 bG));refine_lift aX ?_;refine eS 1 (.int .i64 (kind:Nat)) hD21 rfl fun w22 p22 => ?_;have hD22:w22.heap[d]? = some (.cells [aI nm, .int .i64 (kind:Nat)].toArray 45 (0,0)):=p22.this;have h22:dT w22 b s q2:=p22.mv.at h21 (by intro e;exact hneD e.symm);have hM22:=p22.mv.at hM21 hncD;have ha22:=p22.mv.at ha21 hnaD;have x22:=cH x21 p22;have hq22:=hq21.mv p22.mv hv20;clear p22;refine_lift cC fun _ _ => ?_;refine bK (hc2 _ h22) fun w23 h23 m23 => ?_;have hM23:=m23.at hM22 hne;have ha23:=m23.at ha22 hna;have hD23:=m23.at hD22 hneD;have hpD:=aA hD23;have x23:Ext w w23:=x22.move m23 (by rintro k ⟨⟩;exact hbw);have hq23:=hq22.mv m23 (.inr (hq22.neBlock h22 bG));refine_lift rT (fun _ _ hc => ?_) (fun _ _ hc => ?_)
   all_goals first
    | (refine cY (CE (nm,((kind:Nat):Int)) _) fun w24 x24 => ?_
       have h24:=x24.at h23;have hM24:=x24.at hM23;have ha24:=x24.at ha23;have hD24:=x24.at hD23;have y24:=x23.trans x24;have hq24:=hq23.ext x24;refine_lift aX ?_)
    | (have h24:=h23
       have hM24:=hM23;have ha24:=ha23;have hD24:=hD23;have y24:=x23;have hq24:=hq23)
   all_goals clear hpD
   all_goals refine cP (vs:=[.pointer (some ⟨b,0,none⟩), .bool (decide ((cls:Int)=1) && qG (nm,((kind:Nat):Int))), .int .i64 2]) (enters_of Tryz.func39 rfl rfl) rfl ?_ (hcq _ h24) ?_
   all_goals first
    | (refine congrArg (fun z=>[Value.pointer (some ⟨b,0,none⟩),Value.bool z, .int .i64 2]) ?_;simp [*];done)
    | skip
   all_goals rintro _ w25 ⟨rfl,h25,m25⟩
   all_goals refine ⟨_,rfl,?_⟩
   all_goals refine aD ?_
   all_goals have hM25:=m25.at hM24 hne
   all_goals have ha25:=m25.at ha24 hna
   all_goals have hD25:=m25.at hD24 hneD
   all_goals have hpD:=aA hD25
   all_goals have hpM:=aA (cs:=aM ⟨((id:Nat):Int),(bA fl 32768),(((fl / 2048 &&& 15:Nat)):Int),(bA fl 1024),(bA fl 512),(bA fl 256),(bA fl 128),((fl &&& 15:Nat):Int),l,[],[],[],0⟩ qv (.slice none 0 0) (.slice none 0 0) (.slice none 0 0)) hM25
   all_goals have x25:Ext w w25:=y24.move m25 (by rintro k ⟨⟩;exact hbw)
   all_goals have hq25:=hq24.mv m25 (.inr (hq24.neBlock h24 bG))
   all_goals refine_lift aX ?_
   all_goals refine nG (e:=45) (k:=2) (bytes:=24) (xs:=[.agg #[aI nm, .int .i64 (kind:Nat)]]) (by simp [Value.cells]) ?_
   all_goals intro u26 w26 x26 _ sl26 o26
   all_goals refine aD ?_
   all_goals have h26:=x26.at h25
   all_goals have hM26:=x26.at hM25
   all_goals have ha26:=x26.at ha25
   all_goals have hq26:=hq25.ext x26
   all_goals have y26:=x25.trans x26
   all_goals refine aZ (v0:=qv) (es:=cR l) (fs:=[[aI nm, .int .i64 (kind:Nat)]]) rfl hq26 rfl sl26 (by simp [aI,Value.oneCell']) y26.size (by simp [cR];omega) ?_
   all_goals intro v27 w27 o27 m27 _
   all_goals refine aD ?_
   all_goals have h27:=m27.at h26 (fun e=>(hq26.neBlock h26 bG) e.symm)
   all_goals have hM27:=m27.at hM26 (fun e=>(hq26.neBlock hM26 bG) e.symm)
   all_goals have ha27:=m27.at ha26 (fun e=>(hq26.neBlock ha26 bG) e.symm)
   all_goals have y27:Ext w w27:=y26.move m27 (fun k e=>(hq26.block k e).1)
   all_goals clear hpD hpM
   all_goals refine_lift aX ?_
   all_goals refine eS 8 v27 hM27 o27.one ?_
   all_goals intro w28 p28
   all_goals have hM28:w28.heap[c]? = some (.cells (aM ⟨((id:Nat):Int),(bA fl 32768),(((fl / 2048 &&& 15:Nat)):Int),(bA fl 1024),(bA fl 512),(bA fl 256),(bA fl 128),((fl &&& 15:Nat):Int),(l ++ [(nm,((kind:Nat):Int))]),[],[],[],0⟩ v27 (.slice none 0 0) (.slice none 0 0) (.slice none 0 0)).toArray 48 (0,0)):=p28.this
   all_goals have h28:=p28.mv.at h27 (by intro e;exact hne e.symm)
   all_goals have ha28:=p28.mv.at ha27 hnc
   all_goals have y28:=cH y27 p28
   all_goals have o28:=cM o27 p28 hM27
   all_goals refine_lift aX ?_
   all_goals refine ⟨⟨i + 1,l ++ [(nm,((kind:Nat):Int))],y5,v27,aE,by go_num,by simp [hli],h28,hy5,y28,ha28,hM28,by simpa [cR] using o28,?_⟩,by simp [intOf];omega⟩
   all_goals rw [show k1 - (i + 1)=f' by omega]
   all_goals exact hg
  ·have hQ9:Q9=(l,r'):=by
    rw [← hg];by_cases c1':i < k1
    ·obtain ⟨f',hf'⟩:∃ f',k1 - i=f' + 1:=⟨k1 - i - 1,aE⟩;rw [hf'];unfold DA;rw [if_pos (fun h=>c0 ⟨c1',h⟩)]
    ·rw [show k1 - i=0 by omega];rfl
   subst hQ9;dsimp only at *
   (repeat' first | ((with_reducible refine cQ ?_);go_step) | ((with_reducible refine bM ?_);first | refine gR ?_ | (refine cV ?_ ?_ <;> intro hc)) | fail)
   all_goals first
    | (exfalso;omega)
    | skip
   all_goals refine wZ (c10 _ _ hR) ?_
   all_goals rintro _ w30 ⟨va,rfl,o30,h30,m30⟩
   all_goals refine ⟨_,rfl,?_⟩
   all_goals refine aD ?_
   all_goals have hM30:=m30.at hM hne
   all_goals have ha30:=m30.at ha hna
   all_goals have x30:Ext w w30:=hx.move m30 (by rintro k ⟨⟩;exact hbw)
   all_goals have oo30_0:=hq.mv m30 (.inr (hq.neBlock hR bG))
   all_goals refine_lift aX ?_
   all_goals refine eS 9 va hM30 o30.one ?_
   all_goals intro w31 p31
   all_goals have hM31:w31.heap[c]? = some (.cells (aM ⟨((id:Nat):Int),(bA fl 32768),(((fl / 2048 &&& 15:Nat)):Int),(bA fl 1024),(bA fl 512),(bA fl 256),(bA fl 128),((fl &&& 15:Nat):Int),l,A9.1,[],[],0⟩ qv va (.slice none 0 0) (.slice none 0 0)).toArray 48 (0,0)):=p31.this
   all_goals have h31:=p31.mv.at h30 (by intro e;exact hne e.symm)
   all_goals have ha31:=p31.mv.at ha30 hnc
   all_goals have x31:=cH x30 p31
   all_goals have oo31_0:=cM oo30_0 p31 hM30
   all_goals have oo31_1:=cM o30 p31 hM30
   all_goals refine_lift cC fun _ _ => ?_
   all_goals refine wZ (c11 _ _ h31) ?_
   all_goals rintro _ w32 ⟨vu,rfl,o32,h32,m32⟩
   all_goals refine ⟨_,rfl,?_⟩
   all_goals refine aD ?_
   all_goals have hM32:=m32.at hM31 hne
   all_goals have ha32:=m32.at ha31 hna
   all_goals have x32:Ext w w32:=x31.move m32 (by rintro k ⟨⟩;exact hbw)
   all_goals have oo32_0:=oo31_0.mv m32 (.inr (oo31_0.neBlock h31 bG))
   all_goals have oo32_1:=oo31_1.mv m32 (.inr (oo31_1.neBlock h31 bG))
   all_goals refine_lift aX ?_
   all_goals refine eS 10 vu hM32 o32.one ?_
   all_goals intro w33 p33
   all_goals have hM33:w33.heap[c]? = some (.cells (aM ⟨((id:Nat):Int),(bA fl 32768),(((fl / 2048 &&& 15:Nat)):Int),(bA fl 1024),(bA fl 512),(bA fl 256),(bA fl 128),((fl &&& 15:Nat):Int),l,A9.1,U9.1,[],0⟩ qv va vu (.slice none 0 0)).toArray 48 (0,0)):=p33.this
   all_goals have h33:=p33.mv.at h32 (by intro e;exact hne e.symm)
   all_goals have ha33:=p33.mv.at ha32 hnc
   all_goals have x33:=cH x32 p33
   all_goals have oo33_0:=cM oo32_0 p33 hM32
   all_goals have oo33_1:=cM oo32_1 p33 hM32
   all_goals have oo33_2:=cM o32 p33 hM32
   all_goals refine_lift cC fun _ _ => ?_
   all_goals refine wZ (c12 _ _ h33) ?_
   all_goals rintro _ w34 ⟨vx,rfl,o34,h34,m34⟩
   all_goals refine ⟨_,rfl,?_⟩
   all_goals refine aD ?_
   all_goals have hM34:=m34.at hM33 hne
   all_goals have ha34:=m34.at ha33 hna
   all_goals have x34:Ext w w34:=x33.move m34 (by rintro k ⟨⟩;exact hbw)
   all_goals have oo34_0:=oo33_0.mv m34 (.inr (oo33_0.neBlock h33 bG))
   all_goals have oo34_1:=oo33_1.mv m34 (.inr (oo33_1.neBlock h33 bG))
   all_goals have oo34_2:=oo33_2.mv m34 (.inr (oo33_2.neBlock h33 bG))
   all_goals refine_lift aX ?_
   all_goals refine eS 11 vx hM34 o34.one ?_
   all_goals intro w35 p35
   all_goals have hM35:w35.heap[c]? = some (.cells (aM ⟨((id:Nat):Int),(bA fl 32768),(((fl / 2048 &&& 15:Nat)):Int),(bA fl 1024),(bA fl 512),(bA fl 256),(bA fl 128),((fl &&& 15:Nat):Int),l,A9.1,U9.1,X9.1,0⟩ qv va vu vx).toArray 48 (0,0)):=p35.this
   all_goals have h35:=p35.mv.at h34 (by intro e;exact hne e.symm)
   all_goals have ha35:=p35.mv.at ha34 hnc
   all_goals have x35:=cH x34 p35
   all_goals have oo35_0:=cM oo34_0 p35 hM34
   all_goals have oo35_1:=cM oo34_1 p35 hM34
   all_goals have oo35_2:=cM oo34_2 p35 hM34
   all_goals have oo35_3:=cM o34 p35 hM34
   all_goals refine_lift aX ?_
   all_goals refine eS 12 (.int .i64 (X9.2.1:Nat)) hM35 rfl ?_
   all_goals intro w36 p36
   all_goals have hM36:w36.heap[c]? = some (.cells (aM ⟨((id:Nat):Int),(bA fl 32768),(((fl / 2048 &&& 15:Nat)):Int),(bA fl 1024),(bA fl 512),(bA fl 256),(bA fl 128),((fl &&& 15:Nat):Int),l,A9.1,U9.1,X9.1,((X9.2.1:Nat):Int)⟩ qv va vu vx).toArray 48 (0,0)):=p36.this
   all_goals have h36:=p36.mv.at h35 (by intro e;exact hne e.symm)
   all_goals have ha36:=p36.mv.at ha35 hnc
   all_goals have x36:=cH x35 p36
   all_goals have oo36_0:=cM oo35_0 p36 hM35
   all_goals have oo36_1:=cM oo35_1 p36 hM35
   all_goals have oo36_2:=cM oo35_2 p36 hM35
   all_goals have oo36_3:=cM oo35_3 p36 hM35
   all_goals refine_lift qQ fun _ _ _ _ => ?_
   all_goals have hp36:=aA (cs:=jX s X9.2.2) h36
   all_goals refine_lift aX ?_
   all_goals refine wZ (c13 _ _ h36) ?_
   all_goals rintro _ w37 ⟨rfl,h37,m37⟩
   all_goals refine ⟨_,rfl,?_⟩
   all_goals refine aD ?_
   all_goals have hM37:=m37.at hM36 hne
   all_goals have ha37:=m37.at ha36 hna
   all_goals have x37:Ext w w37:=x36.move m37 (by rintro k ⟨⟩;exact hbw)
   all_goals have q0:=oo36_0.mv m37 (.inr (oo36_0.neBlock h36 bG))
   all_goals have q1:=oo36_1.mv m37 (.inr (oo36_1.neBlock h36 bG))
   all_goals have q2:=oo36_2.mv m37 (.inr (oo36_2.neBlock h36 bG))
   all_goals have q3:=oo36_3.mv m37 (.inr (oo36_3.neBlock h36 bG))
   all_goals have hmsg:MsgV w37 ⟨((id:Nat):Int),(bA fl 32768),(((fl / 2048 &&& 15:Nat)):Int),(bA fl 1024),(bA fl 512),(bA fl 256),(bA fl 128),((fl &&& 15:Nat):Int),l,A9.1,U9.1,X9.1,((X9.2.1:Nat):Int)⟩ qv va vu vx:=⟨q0.sl,q1.sl,q2.sl,q3.sl⟩
   all_goals clear hp36
   all_goals have hp37:=aA (cs:=jX s E9) h37
   all_goals have hpM:=aA (cs:=aM ⟨((id:Nat):Int),(bA fl 32768),(((fl / 2048 &&& 15:Nat)):Int),(bA fl 1024),(bA fl 512),(bA fl 256),(bA fl 128),((fl &&& 15:Nat):Int),l,A9.1,U9.1,X9.1,((X9.2.1:Nat):Int)⟩ qv va vu vx) hM37
   all_goals unfold aM at hpM
   all_goals refine_lift rT (fun _ _ _ => ?_) (fun _ _ _ => ?_)
   ·have ce:¬ E9.e=0:=by simpa using ‹(!decide (E9.e=0))=true›
    refine bE 6 (fun w'=>Pts w' (.pointer (some ⟨b,0,none⟩)) (jX s E9)) aR ?_;intro w38 x38 _;have h38:=x38.at h37;have ha38:=x38.at ha37;have y38:=x37.trans x38;refine ⟨aA h38,?_⟩;refine IX (i:=0) (v:=.agg fB.toArray) rfl rfl (fun _=>Runs.build0 (by kernel_rfl)) ?_;refine aD ?_;refine cI 1 ?_;refine cI 2 ?_;refine cI 3 ?_;refine cI 4 ?_;refine fR 5 ?_;refine dS (v:=.agg fB.toArray) ha38 aR fun w39 p39 => ?_;have h39:=p39.mv.at h38 (by intro e;exact hna e.symm);have x39:=cH y38 p39;refine aG ⟨bJ (aA h39),?_⟩;refine fR 6 ?_
    ((with_reducible refine bM ?_);(first | (refine iX ?_;refine fG ?_) | (refine nV ?_;refine oW ?_;(with_reducible refine bM ?_);refine iX ?_;refine fG ?_)))
    refine aG ⟨bF rfl,?_⟩;refine qR ?_;refine_lift aX ?_;refine nH (cs:=fB) p39.this ?_;rw [if_neg ce];exact ⟨.slice none 0 0, .slice none 0 0, .slice none 0 0, .slice none 0 0,rfl,⟨Sl.nil _ _,Sl.nil _ _,Sl.nil _ _,Sl.nil _ _⟩,x39⟩
   ·have ce:E9.e=0:=by simpa using ‹(!decide (E9.e=0))=false›
    refine dS (v:=.agg (aM ⟨((id:Nat):Int),(bA fl 32768),(((fl / 2048 &&& 15:Nat)):Int),(bA fl 1024),(bA fl 512),(bA fl 256),(bA fl 128),((fl &&& 15:Nat):Int),l,A9.1,U9.1,X9.1,((X9.2.1:Nat):Int)⟩ qv va vu vx).toArray) ha37 (bY hmsg) fun w38 p38 => ?_;have x38:=cH x37 p38;have y0:=cM q0 p38 ha37;have y1:=cM q1 p38 ha37;have y2:=cM q2 p38 ha37;have y3:=cM q3 p38 ha37;refine_lift aX ?_;refine nH (cs:=aM ⟨((id:Nat):Int),(bA fl 32768),(((fl / 2048 &&& 15:Nat)):Int),(bA fl 1024),(bA fl 512),(bA fl 256),(bA fl 128),((fl &&& 15:Nat):Int),l,A9.1,U9.1,X9.1,((X9.2.1:Nat):Int)⟩ qv va vu vx) p38.this ?_;rw [if_pos ce];exact ⟨qv,va,vu,vx,rfl,⟨y0.sl,y1.sl,y2.sl,y3.sl⟩,x38⟩
   ·have ce:¬ E9.e=0:=by simpa using ‹(!decide (E9.e=0))=true›
    refine bE 6 (fun w'=>Pts w' (.pointer (some ⟨b,0,none⟩)) (jX s E9)) aR ?_;intro w38 x38 _;have h38:=x38.at h37;have ha38:=x38.at ha37;have y38:=x37.trans x38;refine ⟨aA h38,?_⟩;refine IX (i:=0) (v:=.agg fB.toArray) rfl rfl (fun _=>Runs.build0 (by kernel_rfl)) ?_;refine aD ?_;refine cI 1 ?_;refine cI 2 ?_;refine cI 3 ?_;refine cI 4 ?_;refine fR 5 ?_;refine dS (v:=.agg fB.toArray) ha38 aR fun w39 p39 => ?_;have h39:=p39.mv.at h38 (by intro e;exact hna e.symm);have x39:=cH y38 p39;refine aG ⟨bJ (aA h39),?_⟩;refine fR 6 ?_
    ((with_reducible refine bM ?_);(first | (refine iX ?_;refine fG ?_) | (refine nV ?_;refine oW ?_;(with_reducible refine bM ?_);refine iX ?_;refine fG ?_)))
    refine aG ⟨bF rfl,?_⟩;refine qR ?_;refine_lift aX ?_;refine nH (cs:=fB) p39.this ?_;rw [if_neg ce];exact ⟨.slice none 0 0, .slice none 0 0, .slice none 0 0, .slice none 0 0,rfl,⟨Sl.nil _ _,Sl.nil _ _,Sl.nil _ _,Sl.nil _ _⟩,x39⟩
   ·have ce:E9.e=0:=by simpa using ‹(!decide (E9.e=0))=false›
    refine dS (v:=.agg (aM ⟨((id:Nat):Int),(bA fl 32768),(((fl / 2048 &&& 15:Nat)):Int),(bA fl 1024),(bA fl 512),(bA fl 256),(bA fl 128),((fl &&& 15:Nat):Int),l,A9.1,U9.1,X9.1,((X9.2.1:Nat):Int)⟩ qv va vu vx).toArray) ha37 (bY hmsg) fun w38 p38 => ?_;have x38:=cH x37 p38;have y0:=cM q0 p38 ha37;have y1:=cM q1 p38 ha37;have y2:=cM q2 p38 ha37;have y3:=cM q3 p38 ha37;refine_lift aX ?_;refine nH (cs:=aM ⟨((id:Nat):Int),(bA fl 32768),(((fl / 2048 &&& 15:Nat)):Int),(bA fl 1024),(bA fl 512),(bA fl 256),(bA fl 128),((fl &&& 15:Nat):Int),l,A9.1,U9.1,X9.1,((X9.2.1:Nat):Int)⟩ qv va vu vx) p38.this ?_;rw [if_pos ce];exact ⟨qv,va,vu,vx,rfl,⟨y0.sl,y1.sl,y2.sl,y3.sl⟩,x38⟩
def Stands (s:List UInt8) (p:Nat) (y:List UInt8):Prop:=∃ a b,s=a ++ y ++ b∧a.length=p
theorem Stands.mono (h:Stands s p y) (hp:s <+: t):Stands t p y:=by
 obtain ⟨a,b,rfl,ha⟩:=h;obtain ⟨u,rfl⟩:=hp;exact ⟨a,b ++ u,bP,ha⟩
theorem Stands.left (h:Stands s p (y ++ z)):Stands s p y:=by
 obtain ⟨a,b,rfl,ha⟩:=h;exact ⟨a,z ++ b,bP,ha⟩
theorem Stands.right (h:Stands s p (y ++ z)):Stands s (p + y.length) z:=by
 obtain ⟨a,b,rfl,ha⟩:=h;exact ⟨a ++ y,b,bP,by simp [ha]⟩
theorem Stands.le (h:Stands s p y):p + y.length≤s.length:=by
 obtain ⟨a,b,rfl,ha⟩:=h;simp [ha]
theorem Stands.end_ (h:l ++ y <+: t):Stands t l.length y:=Stands.mono ⟨l,[],bP,rfl⟩ h
theorem Stands.get (h:Stands s p y):(s.drop p).take y.length=y:=by
 obtain ⟨a,b,rfl,rfl⟩:=h;rw [List.append_assoc,List.drop_left,List.take_left]
theorem Stands.take (h:Stands s p y) (k:Nat) (hk:y.length=k):RdS.take s ⟨(p:Nat),0⟩ (k:Nat)=(y,⟨((p + k:Nat):Int),0⟩):=by
 have h1:=h.le;subst hk;unfold RdS.take;rw [if_neg bP,if_neg (by dsimp only;omega)];dsimp only;rw [Int.toNat_natCast,Int.toNat_natCast,h.get,Int.natCast_add]
theorem Stands.number (h:Stands s p y) (k:Nat) (hk:y.length=k):RdS.number s ⟨(p:Nat),0⟩ (k:Nat)=(numN y,⟨((p + k:Nat):Int),0⟩):=by
 unfold RdS.number;rw [h.take k hk]
theorem Stands.byte {a:UInt8} (h:Stands s p [a]):RdS.number s ⟨(p:Nat),0⟩ 1=(a.toNat,⟨((p + 1:Nat):Int),0⟩):=by
 have:=h.number 1 rfl
 simpa [numN] using this
inductive NameAt (s:List UInt8):Nat→Nat→List (List UInt8)→Nat→Prop
 | nil {p B:Nat}:Stands s p [0]→NameAt s p B [] (p + 1)
 | lab {p B e:Nat} {x:List UInt8} {ls:List (List UInt8)}:jD x=true→Stands s p (iA x)→NameAt s (p + 1 + x.length) B ls e→NameAt s p B (x :: ls) e
 | ptr {p B to e:Nat} {ls:List (List UInt8)}:Stands s p (aT (49152 ||| to))→to < 16384→to < B→NameAt s to to ls e→NameAt s p B ls (p + 2)
theorem NameAt.mono (hp:s <+: t) (h:NameAt s p B ls e):NameAt t p B ls e:=by
 induction h with
 | nil h=>exact .nil (h.mono hp)
 | lab hx h _ ih=>exact .lab hx (h.mono hp) ih
 | ptr h h1 h2 _ ih=>exact .ptr (h.mono hp) h1 h2 ih
theorem NameAt.lt (h:NameAt s p B ls e):p < s.length:=by
 cases h with
 | nil h=>have:=h.le;simp at this;omega
 | lab _ h _=>have:=h.le;simp [iA] at this;omega
 | ptr h=>have:=h.le;simp [aT] at this;omega
theorem KQ (x:List UInt8) (ls:List (List UInt8)):enc (x :: ls)=iA x ++ enc ls:=by simp [enc,iA]
theorem zI (x:List UInt8):(iA x).length=x.length + 1:=by simp [iA]
theorem WI {n:Nat} (h:n < 16384):49152 ||| n=49152 + n:=by
 have h1:(3:Nat) <<< 14=49152:=rfl;rw [← h1,← Nat.shiftLeft_add_eq_or_of_lt (show n < 2 ^ 14 from h)]
def PlOk (s:List UInt8) (p:List UInt8 × Nat):Prop:=∃ ls e,p.1=enc ls∧ls.all jD=true∧NameAt s p.2 p.2 ls e
theorem PlOk.mono (hp:s <+: t) {p:List UInt8 × Nat} (h:PlOk s p):PlOk t p:=by
 obtain ⟨ls,e,h1,h2,h3⟩:=h;exact ⟨ls,e,h1,h2,h3.mono hp⟩
def Good (x:CZ):Prop:=∀ p ∈ x.2,PlOk x.1 p
theorem Good.mono {l':List UInt8} (h:Good (l,ps)) (hp:l <+: l'):Good (l',ps):=fun p hm=>(h p hm).mono hp
theorem tD:∀ (ls:List (List UInt8)) (l l':List UInt8) (ps:List (List UInt8 × Nat)),l.length=l'.length→∃ t,(dA ls l ps).1=l ++ t∧(dA ls l' ps).1=l' ++ t∧(dA ls l ps).2=(dA ls l' ps).2
 | [],l,l',ps,_=>⟨[0],rfl,rfl,rfl⟩
 | x :: ls,l,l',ps,h=>by
   have step:∀ ps',∃ t,(dA ls (l ++ iA x) ps').1=l ++ t∧(dA ls (l' ++ iA x) ps').1=l' ++ t∧(dA ls (l ++ iA x) ps').2=(dA ls (l' ++ iA x) ps').2:=by
    intro ps';obtain ⟨t,h1,h2,h3⟩:=tD ls (l ++ iA x) (l' ++ iA x) ps' (by simp [h]);exact ⟨iA x ++ t,by rw [h1,List.append_assoc],by rw [h2,List.append_assoc],h3⟩
   unfold dA;rw [← h];split
   ·split
    ·exact ⟨_,rfl,rfl,rfl⟩
    ·exact step _
   ·exact step _
theorem HQ (r:Rec) (l l':List UInt8) (ps:List (List UInt8 × Nat)) (h:l.length=l'.length):∃ t,(dH r l ps).1=l ++ t∧(dH r l' ps).1=l' ++ t∧(dH r l ps).2=(dH r l' ps).2:=by
 unfold dH;split
 ·obtain ⟨t,h1,h2,h3⟩:=tD (dU (fL r.data).main) l l' ps h;rw [h1,h2,h3];obtain ⟨u,k1,k2,k3⟩:=tD (dU (fL r.data).mail) (l ++ t) (l' ++ t) (dA (dU (fL r.data).main) l' ps).2 (by simp [h]);rw [k1,k2,k3];exact ⟨t ++ u ++ r.data.drop (r.data.length - 20),bP,bP,rfl⟩
 ·split
  ·obtain ⟨t,h1,h2,h3⟩:=tD (dU (aQ r.kind r.data).1) (l ++ r.data.take (r.data.length - (aQ r.kind r.data).1.length - 1)) (l' ++ r.data.take (r.data.length - (aQ r.kind r.data).1.length - 1)) ps (by simp [h]);rw [h1,h2,h3];exact ⟨r.data.take (r.data.length - (aQ r.kind r.data).1.length - 1) ++ t,bP,bP,rfl⟩
  ·exact ⟨r.data,rfl,rfl,rfl⟩
theorem gY {r:RdS} {is:Bool} {e:Int} (h:is=true):r.want is e=r:=by
 unfold RdS.want;rw [if_neg (by simp [h])]
def OC (a b:Nat) (r u t w v:Bool):Bool :=
 let f:=(((((flagN r 32768 ||| a * 2048) ||| flagN u 1024) ||| flagN t 512) ||| flagN w 256) ||| flagN v 128) ||| b
 decide (f < 65536) && decide (f &&& 112=0) && decide (f / 2048 &&& 15=a) && decide (f &&& 15=b) && (bA f 32768 == r) && (bA f 1024 == u) && (bA f 512 == t) && (bA f 256 == w) && (bA f 128 == v)
theorem QB:∀ (a b:Fin 16) (r u t w v:Bool),OC a.1 b.1 r u t w v=true:=aR
theorem MU {m:MsgR} (h:MsgOk m):iK m < 65536∧iK m &&& 112=0∧((iK m / 2048 &&& 15:Nat):Int)=m.op∧((iK m &&& 15:Nat):Int)=m.rcode∧bA (iK m) 32768=m.resp∧bA (iK m) 1024=m.auth∧bA (iK m) 512=m.trunc∧bA (iK m) 256=m.want∧bA (iK m) 128=m.avail:=by
 have h1:=h.op;have h2:=h.rc;have:=QB ⟨m.op.toNat,aE⟩ ⟨m.rcode.toNat,aE⟩ m.resp m.auth m.trunc m.want m.avail;simp only [OC,Bool.and_eq_true,decide_eq_true_eq,beq_iff_eq] at this;obtain ⟨⟨⟨⟨⟨⟨⟨⟨a1,a2⟩,a3⟩,a4⟩,a5⟩,a6⟩,a7⟩,a8⟩,a9⟩:=this;refine ⟨a1,a2,?_,?_,a5,a6,a7,a8,a9⟩
 ·refine (congrArg (fun n:Nat=>(n:Int)) a3).trans ?_;omega
 ·refine (congrArg (fun n:Nat=>(n:Int)) a4).trans ?_;omega
structure ZonesAt (w:World) (v:Value) (zs:List (List UInt8 × List RSet)):Prop where
 out:∃ css,Sl 2 w v css∧css.length=zs.length∧∀ (i:Nat) (z:List UInt8 × List RSet),zs[i]? = some z→∃ u,css[i]? = some [aI z.1,u]∧SetsAt w u z.2
theorem ZonesAt.ext {zs:List (List UInt8 × List RSet)} (h:ZonesAt w v zs) (hx:Ext w w'):ZonesAt w' v zs:=by
 obtain ⟨css,h1,h2,h3⟩:=h;exact ⟨css,h1.ext hx,h2,fun i z hi=>let ⟨u,a,b⟩:=h3 i z hi;⟨u,a,b.ext hx⟩⟩
def XN (o:List UInt8) (l:List RSet) (o':List UInt8) (l':List RSet):List RSet:=if VP o l o' l'=0 then l' else l
def XO (room:Int) (o:List UInt8) (l:List RSet) (ds:List DeltaR) (o':List UInt8) (l':List RSet):List DeltaR:=if VP o l o' l'=0 then SY room (ds ++ [Ac o l o l']) else ds
structure JOk (o:List UInt8) (l:List RSet) (room:Int) (ds:List DeltaR):Prop where
 zone:ZoneOk o l
 fits:0≤room∧room≤20
 len:(ds.length:Int)≤room
 each:∀ d ∈ ds,d.gone.length≤4000∧d.new.length≤4000
theorem WJ {o':List UInt8} {l l':List RSet} (h:VP o l o' l'=0):o'=o∧ZoneOk o l'∧uO (eK o l').serial (eK o l).serial=true:=by
 unfold VP at h;split at h
 ·rename_i q;exact absurd h q
 ·rename_i q;split at h
  ·cases h
  ·rename_i q2;have e:o'=o:=by simpa using q2
   subst e;split at h
   ·cases h
   ·rename_i q3;exact ⟨rfl,kI (by simpa using q),by simpa using q3⟩
theorem WK {l l':List RSet} (h:ZoneOk o l) (h':ZoneOk o l'):(Ac o l o l').gone.length≤4000∧(Ac o l o l').new.length≤4000:=by
 rw [(Af (YP h h')).2.2.2];have a:=(SX h).2.2.2;have b:=(SX h').2.2.2;unfold FE;exact ⟨Nat.le_trans (List.length_filter_le _ _) a,Nat.le_trans (List.length_filter_le _ _) b⟩
theorem JOk.next {l:List RSet} {room:Int} {ds:List DeltaR} (h:JOk o l room ds) (o':List UInt8) (l':List RSet):JOk o (XN o l o' l') room (XO room o l ds o' l'):=by
 unfold XN XO;split
 ·rename_i q;obtain ⟨rfl,hz,_⟩:=WJ q;refine ⟨hz,h.fits,?_,?_⟩
  ·rw [TL _ _ h.fits.1];exact Int.min_le_right _ _
  ·intro d hd;rcases List.mem_append.1 (List.mem_of_mem_drop hd) with hd | hd
   ·exact h.each d hd
   ·rw [List.mem_singleton.1 hd];exact WK h.zone hz
 ·exact h
theorem JOk.small {l:List RSet} {room:Int} {ds:List DeltaR} (h:JOk o l room ds):l.length≤100000∧(∀ s ∈ l,s.data.length≤1000000)∧(∀ s ∈ l,∀ d ∈ s.data,d.length≤4611686018427387904)∧ds.length≤1000∧(∀ d ∈ ds,d.gone.length≤100000∧d.new.length≤100000):=by
 obtain ⟨a,b,c,_⟩:=SX h.zone;have hl:=h.len;have hr:=h.fits;refine ⟨aE,fun s hs=>by have:=b s hs;omega,fun s hs d hd=>by have:=c s hs d hd;omega,aE,fun d hd=>by have:=h.each d hd;omega⟩
section
variable {P:Program} {a:Act} {w:World} {d:Option Nat} {ty:TypeId} {ps:String} {af:Array Edge} {g:Option (Nat × Bool)}
theorem Runs.shlN {t u:TypeId} {x y:Operand} {m:Nat} (hx:a.eval x=.int .i64 (m:Nat)) (hy:a.eval y=.int .u64 11) (h:m * 2048 < 4611686018427387904) :
 Runs P (Oper.mk d (.binOp .shl t x y u) ty ps af g) a w (.int .i64 ((m * 2048:Nat):Int)):=by
 have:=Runs.shl (P:=P) (w:=w) (d:=d) (ty:=ty) (ps:=ps) (af:=af) (g:=g) (t:=t) (u:=u) hx hy aE aE (by simp;omega);have e:((m:Nat):Int) * 2 ^ (11:Int).toNat=((m * 2048:Nat):Int):=bP
 rwa [e] at this
end
theorem FS (is:Bool) (n:Nat):(if is=true then (n:Int) else 0)=((flagN is n:Nat):Int):=by unfold flagN;split <;> simp
theorem WrAt.grow {m:Nat} (h:WrAt w0 w b m l ps) (x:Ext w w'):WrAt w0 w' b m l ps:=by
 obtain ⟨h1,h2,h3,h4,⟨v,h5,h6⟩,h7⟩:=h;exact ⟨h1,h2,h3,h4.trans x,⟨v,x.at h5,h6.ext x⟩,h7.at (fun o h=>x.at h)⟩
theorem tE (is:Bool) (n:Nat) (w:World):Calls Tryz.prog 34 #[.bool is, .int .i64 ((n:Nat):Int)] w (bC w (.int .i64 ((flagN is n:Nat):Int))):=by
 rw [← FS];exact TR is n w
theorem YX {a e:Value} {la lu le:List (List Value)} (h1:Sl 4 w a la) (h2:Sl 4 w u lu) (h3:Sl 4 w e le):Tryz.prog.built 85 [(0,a),(1,u),(2,e)]=some #[a,u,e]:=by
 obtain ⟨_,_,rfl,_⟩:=h1.out;obtain ⟨_,_,rfl,_⟩:=h2.out;obtain ⟨_,_,rfl,_⟩:=h3.out
 kernel_rfl
theorem HR {m:Nat} (h:WrAt w0 w b m l ps) (n:Int) (h0:0≤n) (hn:n≤100000000000000) (hl:l.length + 2≤100000000000000):Calls Tryz.prog 33 #[.pointer (some ⟨b,0,none⟩), .int .i64 n] w (zG w0 w b m (l ++ aT n.toNat) ps):=by
 have:=lU h n.toNat aE hl
 rwa [show ((n.toNat:Nat):Int)=n by omega] at this
theorem WL {m:Nat} (h:WrAt w0 w b m l ps) (n:Int) (h0:0≤n) (hn:n≤100000000000000) (hl:l.length + 4≤100000000000000):Calls Tryz.prog 36 #[.pointer (some ⟨b,0,none⟩), .int .i64 n] w (zG w0 w b m (l ++ jC n.toNat) ps):=by
 have:=TN h n.toNat aE hl
 rwa [show ((n.toNat:Nat):Int)=n by omega] at this
theorem wR {mm:MsgR} {q a e:Value} (hm:MsgV w mm q a u e):Calls Tryz.prog 13 #[.agg (aM mm q a u e).toArray] w (bC w (.tuple #[aI (bU mm).1, .int .i64 (bU mm).2])):=by
 go_enter Tryz.func13,Tryz.ntmps13
 refine_lift mS fun _ _ => ?_;refine zV (vs:=aM mm q a u e) fun w1 x1 s1 hb1 => ?_;refine aD ?_;have hpM:=aA (cs:=aM mm q a u e) hb1;unfold aM at hpM;have hm1:=hm.ext x1;refine_lift qQ fun _ _ _ _ => ?_;refine cY (CF mm q a u e _ hm1) fun w2 x2 => ?_;have hb2:=x2.at hb1;have x02:=x1.trans x2;have hm2:=hm1.ext x2;by_cases cc:cS mm=0
 ·refine_lift RN (fun _ _ _ => ?_) (fun _ => ?_)
  all_goals first
   | (exfalso;simp_all;done)
   | skip
  refine rN (kt:=32) rfl ?_;intro w3 x3 s3 hM3;refine aD ?_;refine_lift aX ?_;refine aS (v:=.agg (IB (.slice none 0 0) w2.heap.size).toArray) (Runs.build rfl (by kernel_rfl)) ?_;refine aD ?_;refine zV (vs:=IB (.slice none 0 0) w2.heap.size) fun w4 x4 s4 hb4 => ?_;refine aD ?_;have x24:=x3.trans x4;have hW4:WrAt w2 w4 w3.heap.size w2.heap.size [] []:=⟨x3.size,Nat.le_refl _,by have:=x3.size;omega,x24,⟨.slice none 0 0,hb4,Own.nil _ _ _ _⟩,hM3.at (fun o h=>x4.at h)⟩;have hb4':=x24.at hb2;have hpM4:=aA (cs:=aM mm q a u e) hb4';unfold aM at hpM4;clear hpM;refine_lift cC fun _ _ => ?_;have hid:0≤mm.id∧mm.id≤65535∧0≤mm.op∧mm.op≤15∧0≤mm.rcode∧mm.rcode≤15:=by
   unfold cS at cc;split at cc
   ·rename_i c;simp [gP] at c;omega
   ·cases cc
  have cw:=lU hW4 mm.id.toNat aE bP;refine cP (vs:=[.pointer (some ⟨w3.heap.size,0,none⟩), .int .i64 ((mm.id.toNat:Nat):Int)]) (enters_of Tryz.func33 rfl rfl) rfl (congrArg (fun z=>[Value.pointer (some ⟨w3.heap.size,0,none⟩),Value.int .i64 z]) (show mm.id=((mm.id.toNat:Nat):Int) by omega)) cw ?_;rintro _ w5 ⟨rfl,h5,g5⟩;refine ⟨_,rfl,?_⟩;refine aD ?_;have hb5:=g5 _ _ _ _ bG bG hb4';have hp5:=aA (cs:=aM mm q a u e) hb5;unfold aM at hp5;clear hpM4;refine_lift cC fun _ _ => ?_;refine bE 27 (Ext w5) aR ?_;intro w6 x6 _;refine ⟨x6,?_⟩;refine cI 0 ?_;refine cI 1 ?_;refine cI 2 ?_;refine cI 4 ?_;refine cI 5 ?_;refine uG (i:=6) (v:=.int .i64 ((mm.op.toNat * 2048:Nat):Int)) rfl rfl (fun w' hF=>Runs.shlN (congrArg (Value.int .i64) (show mm.op=((mm.op.toNat:Nat):Int) by omega)) rfl aE) ?_;refine aD ?_;refine cI 8 ?_;refine cI 9 ?_;refine cI 12 ?_;refine cI 13 ?_;refine cI 16 ?_;refine cI 17 ?_;refine cI 20 ?_;refine cI 21 ?_;refine cI 24 ?_;refine cI 25 ?_;have z0:Ext w5 w6:=x6;refine fR 3 ?_;refine cY (tE mm.resp 32768 _) fun w7 x7 => ?_;have z7:Ext w5 w7:=z0.trans x7;refine aG ⟨bJ z7,?_⟩;have hf7:flagN mm.resp 32768 < 65536:=by have:=iF mm.resp 32768;omega
  have ha7:(flagN mm.resp 32768 ||| mm.op.toNat * 2048) < 65536:=PZ hf7 aE;refine uG (i:=7) (v:=.int .i64 (((flagN mm.resp 32768 ||| mm.op.toNat * 2048):Nat):Int)) rfl rfl (fun w' hF=>Runs.orN (m:=flagN mm.resp 32768) (n:=mm.op.toNat * 2048) rfl rfl aE aE) ?_;refine aD ?_;refine fR 10 ?_;refine cY (tE mm.auth 1024 _) fun w8 x8 => ?_;have z8:Ext w5 w8:=z7.trans x8;refine aG ⟨bJ z8,?_⟩;have hf8:flagN mm.auth 1024 < 65536:=by have:=iF mm.auth 1024;omega
  have ha8:((flagN mm.resp 32768 ||| mm.op.toNat * 2048) ||| flagN mm.auth 1024) < 65536:=PZ ha7 hf8;refine uG (i:=11) (v:=.int .i64 ((((flagN mm.resp 32768 ||| mm.op.toNat * 2048) ||| flagN mm.auth 1024):Nat):Int)) rfl rfl (fun w' hF=>Runs.orN (m:=(flagN mm.resp 32768 ||| mm.op.toNat * 2048)) (n:=flagN mm.auth 1024) rfl rfl aE aE) ?_;refine aD ?_;refine fR 14 ?_;refine cY (tE mm.trunc 512 _) fun w9 x9 => ?_;have z9:Ext w5 w9:=z8.trans x9;refine aG ⟨bJ z9,?_⟩;have hf9:flagN mm.trunc 512 < 65536:=by have:=iF mm.trunc 512;omega
  have ha9:(((flagN mm.resp 32768 ||| mm.op.toNat * 2048) ||| flagN mm.auth 1024) ||| flagN mm.trunc 512) < 65536:=PZ ha8 hf9;refine uG (i:=15) (v:=.int .i64 (((((flagN mm.resp 32768 ||| mm.op.toNat * 2048) ||| flagN mm.auth 1024) ||| flagN mm.trunc 512):Nat):Int)) rfl rfl (fun w' hF=>Runs.orN (m:=((flagN mm.resp 32768 ||| mm.op.toNat * 2048) ||| flagN mm.auth 1024)) (n:=flagN mm.trunc 512) rfl rfl aE aE) ?_;refine aD ?_;refine fR 18 ?_;refine cY (tE mm.want 256 _) fun w10 x10 => ?_;have z10:Ext w5 w10:=z9.trans x10;refine aG ⟨bJ z10,?_⟩;have hf10:flagN mm.want 256 < 65536:=by have:=iF mm.want 256;omega
  have ha10:((((flagN mm.resp 32768 ||| mm.op.toNat * 2048) ||| flagN mm.auth 1024) ||| flagN mm.trunc 512) ||| flagN mm.want 256) < 65536:=PZ ha9 hf10;refine uG (i:=19) (v:=.int .i64 ((((((flagN mm.resp 32768 ||| mm.op.toNat * 2048) ||| flagN mm.auth 1024) ||| flagN mm.trunc 512) ||| flagN mm.want 256):Nat):Int)) rfl rfl (fun w' hF=>Runs.orN (m:=(((flagN mm.resp 32768 ||| mm.op.toNat * 2048) ||| flagN mm.auth 1024) ||| flagN mm.trunc 512)) (n:=flagN mm.want 256) rfl rfl aE aE) ?_;refine aD ?_;refine fR 22 ?_;refine cY (tE mm.avail 128 _) fun w11 x11 => ?_;have z11:Ext w5 w11:=z10.trans x11;refine aG ⟨bJ z11,?_⟩;have hf11:flagN mm.avail 128 < 65536:=by have:=iF mm.avail 128;omega
  have ha11:(((((flagN mm.resp 32768 ||| mm.op.toNat * 2048) ||| flagN mm.auth 1024) ||| flagN mm.trunc 512) ||| flagN mm.want 256) ||| flagN mm.avail 128) < 65536:=PZ ha10 hf11;refine uG (i:=23) (v:=.int .i64 (((((((flagN mm.resp 32768 ||| mm.op.toNat * 2048) ||| flagN mm.auth 1024) ||| flagN mm.trunc 512) ||| flagN mm.want 256) ||| flagN mm.avail 128):Nat):Int)) rfl rfl (fun w' hF=>Runs.orN (m:=((((flagN mm.resp 32768 ||| mm.op.toNat * 2048) ||| flagN mm.auth 1024) ||| flagN mm.trunc 512) ||| flagN mm.want 256)) (n:=flagN mm.avail 128) rfl rfl aE aE) ?_;refine aD ?_;have ha12:((((((flagN mm.resp 32768 ||| mm.op.toNat * 2048) ||| flagN mm.auth 1024) ||| flagN mm.trunc 512) ||| flagN mm.want 256) ||| flagN mm.avail 128) ||| mm.rcode.toNat) < 65536:=PZ ha11 aE;refine uG (i:=26) (v:=.int .i64 ((((((((flagN mm.resp 32768 ||| mm.op.toNat * 2048) ||| flagN mm.auth 1024) ||| flagN mm.trunc 512) ||| flagN mm.want 256) ||| flagN mm.avail 128) ||| mm.rcode.toNat):Nat):Int)) rfl rfl (fun w' hF=>Runs.orN (m:=(((((flagN mm.resp 32768 ||| mm.op.toNat * 2048) ||| flagN mm.auth 1024) ||| flagN mm.trunc 512) ||| flagN mm.want 256) ||| flagN mm.avail 128)) (n:=mm.rcode.toNat) rfl (congrArg (Value.int .i64) (show mm.rcode=((mm.rcode.toNat:Nat):Int) by omega)) aE aE) ?_;refine aD ?_;refine fR 27 ?_;have cw2:=lU (h5.grow z11) (iK mm) (by unfold iK;omega) (by simp [aT]);refine bK cw2 fun w12 h12 g12 => ?_;refine aG ⟨bF rfl,?_⟩;refine qR ?_;have hb12:=g12 _ _ _ _ bG bG (z11.at hb5);have hp12:=aA (cs:=aM mm q a u e) hb12;unfold aM at hp12;clear hp5;refine_lift qQ fun _ _ _ _ => ?_;have hl16:=aN mm.ex;have hx02:=x02;have hm12:MsgV w12 mm q a u e:=hm2.ext h12.ext;have hq12:=hm12.qs;have ha12:=hm12.an;have hu12:=hm12.au;have he12:=hm12.ex;refine bE 17 (Ext w12) aR ?_;intro w13 x13 _;refine ⟨x13,?_⟩;refine zU 18 ?_;refine cI 0 ?_;refine cI 1 ?_;refine cI 2 ?_;refine cI 3 ?_;refine cI 4 ?_;refine cI 5 ?_;refine cI 6 ?_;refine cI 7 ?_;refine cI 8 ?_;refine cI 9 ?_;refine cI 10 ?_;refine cI 11 ?_;refine cI 12 ?_;refine cI 13 ?_;refine cI 14 ?_;rw [dC,aN,aN,aN];have hok:=mX cc;have hfl1:=iF (!decide (mm.size=0)) 1;have hql:=hok.ql;have hnl:=hok.nl;have hul:=hok.ul;have hel:=hok.el;refine fR 15 ?_;refine cY (tE (!decide (mm.size=0)) 1 _) fun w14 x14 => ?_;have z14:Ext w12 w14:=x13.trans x14;refine aG ⟨bJ z14,?_⟩;refine fR 16 ?_
  ((with_reducible refine bM ?_);(first | (refine iX ?_;refine fG ?_) | (refine nV ?_;refine oW ?_;(with_reducible refine bM ?_);refine iX ?_;refine fG ?_)))
  rw [show ((mm.ex.length:Nat):Int) + ((flagN (!decide (mm.size=0)) 1:Nat):Int)=((mm.ex.length + flagN (!decide (mm.size=0)) 1:Nat):Int) by omega];refine aG ⟨bJ z14,?_⟩;refine fR 17 ?_;refine aS (v:=.agg ((CK mm).map fun n=>Value.int .i64 (n:Nat)).toArray) (Runs.build rfl (by kernel_rfl)) ?_;refine aD ?_;refine aG ⟨bF rfl,?_⟩;refine qR ?_;have h14:=h12.grow z14;have hcl:(CK mm).length=4:=rfl;have hcb:∀ x ∈ CK mm,x≤65535:=by
   intro x hx;simp only [CK,List.mem_cons,List.not_mem_nil,or_false] at hx;omega
  have hhd:[] ++ aT mm.id.toNat ++ aT (iK mm) ++ (CK mm).flatMap aT=gK mm:=by simp [gK,CK]
  have hb2':=hb2;generalize CK mm=cn at *;have hbl0:([] ++ aT mm.id.toNat ++ aT (iK mm)).length=4:=rfl;generalize ([] ++ aT mm.id.toNat ++ aT (iK mm):List UInt8)=bs at *;generalize hB:w3.heap.size=B at *;generalize hMp:w2.heap.size=M at *;clear hp12;have hpw:∀ wr,Ext w2 wr→Pts wr (.pointer (some ⟨w.heap.size,0,none⟩)) [.int .i64 mm.id, .bool mm.resp, .int .i64 mm.op, .bool mm.auth, .bool mm.trunc, .bool mm.want, .bool mm.avail, .int .i64 mm.rcode,q,a,u,e, .int .i64 mm.size]:=fun wr x=>aA (cs:=aM mm q a u e) (x.at hb2);refine_lift aX ?_;go_loopw [7,72] (fun _ iv wr=>∃ k:Nat,k≤4∧iv=.int .i64 k∧WrAt w2 wr B M (bs ++ (cn.take k).flatMap aT) []∧((cn.take k).flatMap aT).length=2 * k) (fun _ iv _=>4 - (intOf iv).toNat)
  case atStart=>exact ⟨0,aE,rfl,by simpa using h14,rfl⟩
  case round =>
   obtain ⟨k,hk,rfl,hW,hlk⟩:=hrel;by_cases c4:k < 4
   ·have hck:k < cn.length:=aE;have hgk:=List.getElem?_eq_getElem hck;have hmk:=hcb _ (List.getElem_mem hck);refine_lift DI ?_;intro _ _ _ _ _ _;refine aS (v:=.int .i64 (cn[k]:Nat)) (Runs.idxA (i:=k) (n:=4) rfl rfl (by simp [hgk]) aE aR) ?_;refine aD ?_;refine_lift aX ?_;refine bK (lU hW cn[k] aE (by rw [List.length_append];omega)) fun w15 h15 g15 => ?_;refine_lift aX ?_;have hT:(cn.take (k + 1)).flatMap aT=(cn.take k).flatMap aT ++ aT cn[k]:=by rw [List.take_succ_eq_append_getElem hck,List.flatMap_append];simp
    refine ⟨⟨k + 1,aE,by go_num,?_,?_⟩,by simp [intOf];omega⟩
    ·rw [hT,← List.append_assoc];exact h15
    ·rw [hT,List.length_append,hlk];simp [aT];omega
   ·have hk4:k=4:=aE;subst hk4;rw [List.take_of_length_le aE,hhd] at hW;have hlh:(gK mm).length=12:=by simp [gK,aT]
    have hlh':(((mm.qs.take 0).foldl qW (gK mm,[])).1).length=12:=hlh;have hqE:=hq12;have hp16:=hpw wr hW.ext;have hqs16:=hm2.qs.ext hW.ext;have hqc:=dC mm.qs;refine_lift rI fun _ _ _ => ?_;clear hp16;go_loopw [9,82] (fun _ iv wr=>∃ k:Nat,k≤mm.qs.length∧iv=.int .i64 k∧WrAt w2 wr B M ((mm.qs.take k).foldl qW (gK mm,[])).1 ((mm.qs.take k).foldl qW (gK mm,[])).2∧Keys ((mm.qs.take k).foldl qW (gK mm,[])).2∧((mm.qs.take k).foldl qW (gK mm,[])).1.length≤12 + 260 * k) (fun _ iv _=>mm.qs.length - (intOf iv).toNat)
    case atStart=>exact ⟨0,aE,rfl,hW,List.Pairwise.nil,by rw [hlh'];omega⟩
    case round =>
     obtain ⟨k,hk,rfl,hW,hK,hL⟩:=hrel;by_cases ck:k < mm.qs.length
     ·have hqk:=hok.qs _ (List.getElem_mem ck);have hT:(mm.qs.take (k + 1)).foldl qW (gK mm,[])=qW ((mm.qs.take k).foldl qW (gK mm,[])) mm.qs[k]:=by rw [List.take_succ_eq_append_getElem ck,List.foldl_append];rfl
      have hlk:=YV hqk ((mm.qs.take k).foldl qW (gK mm,[]));have hkk:=WH ((mm.qs.take k).foldl qW (gK mm,[])) mm.qs[k] hK;generalize (mm.qs.take k).foldl qW (gK mm,[])=X at *;obtain ⟨hn1,hn2,hn3⟩:=MR hqk;obtain ⟨t9,ht1,ht2⟩:=wP hn1 X;have hq4:=hm2.qs.ext hW.ext;have h4:=hq4.elem (pJ ck);refine_lift DI ?_;intro _ _ _ _ _ _;refine fO (z:=[aI [], .int .i64 0]) fun w3' x3' s3' h3' => ?_;refine aD ?_;refine dS (v:=.agg #[aI mm.qs[k].1, .int .i64 mm.qs[k].2]) h3' (TY rfl rfl) fun w4' p4' => ?_;have x4':=cH x3' p4';have hc4:w4'.heap[wr.heap.size]? = some (.cells [aI mm.qs[k].1, .int .i64 mm.qs[k].2].toArray 45 (0,0)):=p4'.this;have hpq:=aA (cs:=[aI mm.qs[k].1, .int .i64 mm.qs[k].2]) hc4;have hW4:=hW.grow x4';clear p4' h3' x3' h4;generalize wr.heap.size=c at *;refine_lift cC fun _ _ => ?_;refine bK (wM hW4 hK mm.qs[k].1 hn1 aE) fun w16 h16 g16 => ?_;have hc16:=g16 _ _ _ _ bG bG hc4;clear hpq;have hpq:=aA (cs:=[aI mm.qs[k].1, .int .i64 mm.qs[k].2]) hc16;refine_lift cC fun _ _ => ?_;refine bK (HR h16 mm.qs[k].2 aE aE (by rw [ht1,List.length_append];omega)) fun w17 h17 g17 => ?_;refine_lift aX ?_;refine bK (lU h17 1 aE (by rw [ht1];simp [aT];omega)) fun w18 h18 g18 => ?_;refine_lift aX ?_;refine ⟨⟨k + 1,aE,by go_num,?_⟩,by simp [intOf];omega⟩;rw [hT];exact ⟨h18,hkk,aE⟩
     ·have hkq:k=mm.qs.length:=aE;subst hkq;rw [List.take_length] at hW hK hL;have hp16:=hpw wr hW.ext;refine_lift QV fun _ _ _ _ _ => ?_;have hVL:∀ i,i < 3→∃ v l,([a,u,e]:List Value)[i]? = some v∧[mm.an,mm.au,mm.ex][i]? = some l∧Sl 4 w2 v (aJ l)∧l.length≤200∧∀ r ∈ l,aU r=0:=by
       intro i hi
       match i,hi with
       | 0,_=>exact ⟨_,_,rfl,rfl,hm2.an,hok.nl,hok.an⟩
       | 1,_=>exact ⟨_,_,rfl,rfl,hm2.au,hok.ul,hok.au⟩
       | 2,_=>exact ⟨_,_,rfl,rfl,hm2.ex,hok.el,hok.ex⟩
      have hfin:[mm.an,mm.au,mm.ex].foldl (fun x l=>l.foldl lM x) (mm.qs.foldl qW (gK mm,[]))=wO mm:=rfl;refine aS (v:=.agg ([a,u,e]:List Value).toArray) (Runs.build rfl (YX hm2.an hm2.au hm2.ex)) ?_;refine aD ?_;have hLl:[mm.an,mm.au,mm.ex].length=3:=rfl;generalize mm.qs.foldl qW (gK mm,[])=X0 at *;clear hp16 hqs16 hqE hlh';generalize hLL:[mm.an,mm.au,mm.ex]=LL at *;generalize hVV:([a,u,e]:List Value)=VV at *;refine_lift aX ?_;go_loopw [11,13,104] (fun _ _ iv wr=>∃ i:Nat,i≤3∧iv=.int .i64 i∧WrAt w2 wr B M ((LL.take i).foldl (fun x l=>l.foldl lM x) X0).1 ((LL.take i).foldl (fun x l=>l.foldl lM x) X0).2∧Keys ((LL.take i).foldl (fun x l=>l.foldl lM x) X0).2∧((LL.take i).foldl (fun x l=>l.foldl lM x) X0).1.length≤3000 + 1200000 * i) (fun _ _ iv _=>3 - (intOf iv).toNat)
      case atStart=>exact ⟨0,aE,rfl,hW,hK,by simp only [List.take_zero,List.foldl_nil];omega⟩
      case round =>
       obtain ⟨i,hi,rfl,hW,hK,hL⟩:=hrel;by_cases ci:i < 3
       ·obtain ⟨v,l,hv1,hl1,hsl,hll,hlr⟩:=hVL i ci;have hT:(LL.take (i + 1)).foldl (fun x l=>l.foldl lM x) X0=l.foldl lM ((LL.take i).foldl (fun x l=>l.foldl lM x) X0):=by
         rw [List.take_add_one,hl1,List.foldl_append];rfl
        generalize (LL.take i).foldl (fun x l=>l.foldl lM x) X0=X at *;refine_lift DI ?_;intro _ _ _ _ _ _;refine aS (v:=v) (Runs.idxA (i:=i) (n:=3) rfl rfl (by simp [hv1]) aE aR) ?_;refine aD ?_;have hslr:=hsl.ext hW.ext;have hrl:=aN l;refine_lift aX ?_;go_loopw [13,109] (fun _ jv wr=>∃ k:Nat,k≤l.length∧jv=.int .i64 k∧WrAt w2 wr B M ((l.take k).foldl lM X).1 ((l.take k).foldl lM X).2∧Keys ((l.take k).foldl lM X).2∧((l.take k).foldl lM X).1.length≤3000 + 1200000 * i + 6000 * k) (fun _ jv _=>l.length - (intOf jv).toNat)
        case atStart=>exact ⟨0,aE,rfl,hW,hK,by simp only [List.take_zero,List.foldl_nil];omega⟩
        case round =>
         obtain ⟨k,hk,rfl,hW,hK,hL⟩:=hrel;by_cases ck:k < l.length
         ·have hRk:=tB (hlr _ (List.getElem_mem ck));have hT2:(l.take (k + 1)).foldl lM X=lM ((l.take k).foldl lM X) l[k]:=by rw [List.take_succ_eq_append_getElem ck,List.foldl_append];rfl
          generalize (l.take k).foldl lM X=Y at *;have hlk:=TQ hRk Y;have hkk:=PY Y l[k] hK;have hNk:=jW (dU l[k].name) Y.1 Y.2 hK;obtain ⟨t9,ht1,ht2⟩:=wP hRk.nm Y;have hsk:=hsl.ext hW.ext;have h4:=hsk.elem (iH ck);have hk0:=hRk.k0;have hk1:=hRk.k1;have ht0:=hRk.t0;have ht3:=hRk.t1;refine_lift DI ?_;intro _ _ _ _ _ _;refine fO (z:=TM) fun w3' x3' s3' h3' => ?_;refine aD ?_;refine dS (v:=oM l[k]) h3' (fI rfl rfl rfl rfl) fun w4' p4' => ?_;have x4':=cH x3' p4';have hc4:w4'.heap[wr.heap.size]? = some (.cells [aI l[k].name, .int .i64 l[k].kind, .int .i64 l[k].ttl,aI l[k].data].toArray 67 (0,0)):=p4'.this;have hpq:=aA (cs:=[aI l[k].name, .int .i64 l[k].kind, .int .i64 l[k].ttl,aI l[k].data]) hc4;have hW4:=hW.grow x4';clear p4' h3' x3' h4 hsk hslr;generalize wr.heap.size=c at *;refine_lift cC fun _ _ => ?_;refine bK (wM hW4 hK l[k].name hRk.nm aE) fun w20 h20 g20 => ?_;have hc20:=g20 _ _ _ _ bG bG hc4;clear hpq;have hpq:=aA (cs:=[aI l[k].name, .int .i64 l[k].kind, .int .i64 l[k].ttl,aI l[k].data]) hc20;refine_lift cC fun _ _ => ?_;refine bK (HR h20 l[k].kind aE aE (by rw [ht1,List.length_append];omega)) fun w21 h21 g21 => ?_;have hc21:=g21 _ _ _ _ bG bG hc20;clear hpq;have hpq:=aA (cs:=[aI l[k].name, .int .i64 l[k].kind, .int .i64 l[k].ttl,aI l[k].data]) hc21;refine_lift cC fun _ _ => ?_;refine bK (lU h21 1 aE (by rw [ht1];simp [aT];omega)) fun w22 h22 g22 => ?_;have hc22:=g22 _ _ _ _ bG bG hc21;clear hpq;have hpq:=aA (cs:=[aI l[k].name, .int .i64 l[k].kind, .int .i64 l[k].ttl,aI l[k].data]) hc22;refine_lift cC fun _ _ => ?_;refine bK (WL h22 l[k].ttl aE aE (by rw [ht1];simp [aT];omega)) fun w23 h23 g23 => ?_;have hc23:=g23 _ _ _ _ bG bG hc22;clear hpq;have hpq:=aA (cs:=[aI l[k].name, .int .i64 l[k].kind, .int .i64 l[k].ttl,aI l[k].data]) hc23;refine_lift aX ?_;refine bK (WG h23 hNk l[k] hRk.d hRk.soa (by rw [ht1];simp [aT,jC];omega)) fun w24 h24 g24 => ?_;refine_lift aX ?_;refine ⟨⟨k + 1,aE,by go_num,?_⟩,by simp [intOf];omega⟩;rw [hT2];exact ⟨h24,hkk,aE⟩
         ·have hkl:k=l.length:=aE;subst hkl;rw [List.take_length] at hW hK hL;refine_lift jS fun _ => ?_;refine ⟨⟨i + 1,aE,by go_num,?_⟩,by simp [intOf];omega⟩;rw [hT];exact ⟨hW,hK,aE⟩
       ·have hi3:i=3:=aE;subst hi3;rw [List.take_of_length_le aE,hfin] at hW hL;have hp16:=hpw wr hW.ext;have hEb:jO mm=(wO mm).1 ++ uR mm:=rfl;have hK3:Keys (wO mm).2:=by
         rw [List.take_of_length_le aE,hfin] at hK;exact hK
        by_cases cz:mm.size=0
        ·have hZ:WrAt w2 wr B M (jO mm) (wO mm).2:=by
          rw [hEb,show uR mm=[] by unfold uR;rw [if_pos cz],List.append_nil];exact hW
         have hLz:(jO mm).length=(wO mm).1.length:=by rw [hEb,show uR mm=[] by unfold uR;rw [if_pos cz],List.append_nil]
         generalize wO mm=Y at *
         (repeat' first | ((with_reducible refine cQ ?_);go_step) | ((with_reducible refine bM ?_);first | refine gR ?_ | (refine cV ?_ ?_ <;> intro hc)) | fail)
         all_goals first
          | (exfalso;simp_all;done)
          | skip
         obtain ⟨_,_,_,xz,⟨vz,hBz,hoz⟩,_⟩:=hZ;have hpz:=aA (cs:=IB vz M) hBz;have hslz:=hoz.sl;have hbz:(aL (jO mm)).length=(jO mm).length:=by simp [aL]
         have hzl:(jO mm).length≤4000000:=aE;have hEn:bU mm=if 65535 < (jO mm).length then ([],4) else (jO mm,0):=by unfold bU;rw [if_neg (by simpa using cc)]
         generalize jO mm=Z at *;by_cases cl:65535 < Z.length
         ·rw [if_pos cl] at hEn;refine_lift jS fun _ => ?_
          all_goals first
           | (exfalso;omega)
           | skip
          go_ret2;rw [hEn];exact ⟨by kernel_rfl,x02.trans xz⟩
         ·rw [if_neg cl] at hEn;refine_lift jS fun _ => ?_
          all_goals first
           | (exfalso;omega)
           | skip
          go_ret2;rw [hEn];exact ⟨by kernel_rfl,x02.trans xz⟩
        ·have hoE:uR mm=[0] ++ aT 41 ++ aT mm.size.toNat ++ jC 0 ++ aT 0:=by unfold uR;rw [if_neg cz]
         have hsz:0≤mm.size∧mm.size≤65535:=by have:=hok.sz;omega
         generalize wO mm=Y at *
         (repeat' first | ((with_reducible refine cQ ?_);go_step) | ((with_reducible refine bM ?_);first | refine gR ?_ | (refine cV ?_ ?_ <;> intro hc)) | fail)
         all_goals first
          | (exfalso;simp_all;done)
          | skip
         refine bK (NZ hW hK3 [] rfl (by simp [enc]) aE) fun w30 h30 g30 => ?_;refine_lift cC fun _ _ => ?_;refine bK (lU h30 41 aE (by simp [dA];omega)) fun w31 h31 g31 => ?_;have hp31:=hpw w31 h31.ext;clear hp16;refine_lift cC fun _ _ => ?_;refine bK (HR h31 mm.size aE aE (by simp [dA,aT];omega)) fun w32 h32 g32 => ?_;refine_lift cC fun _ _ => ?_;refine bK (TN h32 0 aE (by simp [dA,aT];omega)) fun w33 h33 g33 => ?_;refine_lift aX ?_;refine bK (lU h33 0 aE (by simp [dA,aT,jC];omega)) fun w34 h34 g34 => ?_;have hZ:WrAt w2 w34 B M (jO mm) (dA [] Y.1 Y.2).2:=by
          rw [hEb,hoE]
          simpa [dA] using h34
         have hLz:(jO mm).length≤Y.1.length + 20:=by
          rw [hEb,hoE];simp [aT,jC]
         refine_lift qQ fun _ _ _ _ => ?_;obtain ⟨_,_,_,xz,⟨vz,hBz,hoz⟩,_⟩:=hZ;have hpz:=aA (cs:=IB vz M) hBz;have hslz:=hoz.sl;have hbz:(aL (jO mm)).length=(jO mm).length:=by simp [aL]
         have hzl:(jO mm).length≤4000000:=aE;have hEn:bU mm=if 65535 < (jO mm).length then ([],4) else (jO mm,0):=by unfold bU;rw [if_neg (by simpa using cc)]
         generalize jO mm=Z at *;by_cases cl:65535 < Z.length
         ·rw [if_pos cl] at hEn;refine_lift jS fun _ => ?_
          all_goals first
           | (exfalso;omega)
           | skip
          go_ret2;rw [hEn];exact ⟨by kernel_rfl,x02.trans xz⟩
         ·rw [if_neg cl] at hEn;refine_lift jS fun _ => ?_
          all_goals first
           | (exfalso;omega)
           | skip
          go_ret2;rw [hEn];exact ⟨by kernel_rfl,x02.trans xz⟩
 ·refine_lift RN (fun _ _ _ => ?_) (fun _ => ?_)
  all_goals first
   | (exfalso;simp_all;done)
   | skip
  go_ret2;have hE:bU mm=([],cS mm):=by unfold bU;rw [if_pos cc]
  rw [hE];exact ⟨rfl,x02⟩
theorem KR (v:Value) (l:List rC) (w:World) (hv:Sl 2 w v (cR l)) (hl:l.length≤1000000):Calls Tryz.prog 43 #[v] w (oQ w fun v' w'=>Own w.heap.size 2 45 w' v' (cR l)):=by
 have hlen:=dC l;go_enter Tryz.func43,Tryz.ntmps43
 (repeat' first | ((with_reducible refine cQ ?_);go_step) | ((with_reducible refine bM ?_);first | refine gR ?_ | (refine cV ?_ ?_ <;> intro hc)) | fail)
 ·have hn:=‹IL v=true›;go_ret;have:cR l=[]:=hv.isNil hn;refine ⟨_,rfl,Ext.refl _,?_⟩;rw [this];exact Own.nil _ _ _ _
 ·refine tY (t:=46) (e:=45) (k:=2) (bytes:=24) aR rfl ?_;intro v2 w2 x2 s2 o2;refine aD ?_
  (repeat' first | ((with_reducible refine cQ ?_);go_step) | ((with_reducible refine bM ?_);first | refine gR ?_ | (refine cV ?_ ?_ <;> intro hc)) | fail)
  refine aZ (B:=w.heap.size) (e:=45) rfl o2 rfl (hv.ext x2) uQ x2.size (by simp;omega) ?_;intro v3 w3 o3 m3 _;have x3:=o2.mvx m3 x2 (Nat.le_refl _);refine aD ?_
  (repeat' first | ((with_reducible refine cQ ?_);go_step) | ((with_reducible refine bM ?_);first | refine gR ?_ | (refine cV ?_ ?_ <;> intro hc)) | fail)
  go_ret;exact ⟨_,rfl,x3,by simpa using o3⟩
def iL (size:Int) (stream:Bool):Int:=if stream=true then 65535 else if size < 512 then 512 else min size 1232
theorem WM (m:MsgR) (q a u e:Value) (stream:Bool) (w:World) (hm:MsgV w m q a u e):Calls Tryz.prog 17 #[.agg (aM m q a u e).toArray, .bool stream] w (bC w (.int .i64 (iL m.size stream))):=by
 unfold iL;go_enter Tryz.func17,Tryz.ntmps17
 refine_lift mS fun _ _ => ?_;refine zV (vs:=aM m q a u e) fun w1 x1 s1 hb1 => ?_;refine aD ?_;have hpM:=aA (cs:=aM m q a u e) hb1;unfold aM at hpM;cases stream with
 | true =>
  refine_lift aX ?_;go_ret;exact ⟨rfl,x1⟩
 | false =>
  by_cases c:m.size < 512
  ·refine_lift jS fun _ => ?_
   all_goals first
    | (exfalso;omega)
    | skip
   go_ret;rw [if_neg bG,if_pos c];exact ⟨rfl,x1⟩
  ·refine_lift jS fun _ => ?_
   all_goals first
    | (exfalso;omega)
    | skip
   go_ret;rw [if_neg bG,if_neg c];exact ⟨rfl,x1⟩
def bareR (m:MsgR) (code:Int):MsgR:=⟨m.id,true,m.op,false,false,m.want,false,code,m.qs,[],[],[],if m.size=0 then 0 else 1232⟩
def bareN (m:MsgR) (code:Int):MsgR:=⟨m.id,true,m.op,false,false,m.want,false,code,m.qs,[],[],[],0⟩
def aH:Value:=.slice none 0 0
theorem oN (m:MsgR) (q a u e:Value) (code:Int) (w:World) (hm:MsgV w m q a u e) (hl:m.qs.length≤1000):Calls Tryz.prog 18 #[.agg (aM m q a u e).toArray, .int .i64 code] w (oQ w fun r w'=>∃ q',r=.agg (aM (bareR m code) q' aH aH aH).toArray∧Own w.heap.size 2 45 w' q' (cR m.qs)):=by
 go_enter Tryz.func18,Tryz.ntmps18
 refine_lift DF ?_;intro _ _ _;refine zV (vs:=aM m q a u e) fun w1 x1 s1 hb1 => ?_;refine aD ?_;refine fO (z:=fB) fun w2 x2 s2 h2 => ?_;refine aD ?_;have x02:=x1.trans x2;have hpM:=aA (cs:=aM m q a u e) (x2.at hb1);unfold aM at hpM;have hq2:=hm.qs.ext x02;refine_lift cC fun _ _ => ?_;refine dV (S:=fun w'=>Ext w2 w') aR ?_;intro w3 x3 _;refine jI 0 ?_;refine aD ?_;refine jI 1 ?_;refine aD ?_;refine jI 2 ?_;refine aD ?_;refine jI 3 ?_;refine aD ?_;refine jI 4 ?_;refine aD ?_;refine jI 5 ?_;refine aD ?_;refine jI 6 ?_;refine aD ?_;refine jI 7 ?_;refine aD ?_;refine jI 8 ?_;refine aD ?_;refine UY 9 10 11 12 15 16 5 (fun b1 b2 b3 b4=>(!b2 || b1) && (!b4 || b2) && (!b4 || b3)) (fun b1 b2 b3 b4 => !b2) (fun b1 b2 b3 b4=>b1 && !b4) (fun b1 b2 b3 b4 => !b4) (fun b1 b2 b3 b4=>b2 && b3) (fun b1 b2 b3 b4 v1 v2 v3 w'=>∃ zk,Ext w2 w'∧(b1=true→Own w2.heap.size 2 45 w' v1 (cR m.qs))∧(b2=true→v2=.agg (aM (bareN m code) v1 aH aH aH).toArray)∧(b3=true→v3=.pointer (some ⟨zk,0,none⟩)∧w2.heap.size≤zk∧w'.heap[zk]? = some (.cells (bif b4 then aM (bareN m code) v1 aH aH aH else fB).toArray 48 (0,0)))) ?_ ?_ ?_ ?_ ?_ ?_
 ·exact ⟨0,x3,bP,bP,bP⟩
 ·rintro b1 b2 b3 b4 v1 v2 v3 w4 hq ⟨zk,x4,f1,f2,f3⟩;have hb2:b2=false:=by revert hq;cases b2 <;> simp
  have hb4:b4=false:=by revert hq;subst hb2;cases b4 <;> simp
  subst hb2 hb4;refine aD ?_;refine EF (KR q m.qs _ (hq2.ext x4) aE) fun v5 w5 x5 o5 => ?_;refine aG ⟨x4.trans x5,_,rfl,zk,x4.trans x5,fun _=>o5.weaken x4.size,bP,fun e => ?_⟩;obtain ⟨g1,g2,g3⟩:=f3 e;exact ⟨g1,g2,x5.at g3⟩
 ·rintro b1 b2 b3 b4 v1 v2 v3 w4 hq ⟨zk,x4,f1,f2,f3⟩;have hb1:b1=true:=by revert hq;cases b1 <;> simp
  have hb4:b4=false:=by revert hq;cases b4 <;> simp
  subst hb1 hb4;refine aD ?_;have q1:=(f1 rfl).sl.slf;refine bZ (v:=.agg (aM (bareN m code) v1 aH aH aH).toArray) rfl (Runs.build (vals:=[(0, .int .i64 m.id),(2, .int .i64 m.op),(5, .bool m.want),(1, .bool true),(7, .int .i64 code),(8,v1)]) rfl (by obtain ⟨_,_,_,rfl⟩:=q1;kernel_rfl)) ?_;refine aD ?_;refine aG ⟨x4,_,rfl,zk,x4,fun _=>f1 rfl,fun _=>rfl,f3⟩
 ·rintro b1 b2 b3 b4 v1 v2 v3 w4 hq ⟨zk,x4,f1,f2,f3⟩;have hb4:b4=false:=by revert hq;cases b4 <;> simp
  subst hb4;refine aD ?_;refine fO (z:=fB) fun w5 x5 s5 h5 => ?_;refine aD ?_;refine aG ⟨x4.trans x5,_,rfl,_,x4.trans x5,fun e=>(f1 e).ext x5,f2,fun _=>⟨rfl,x4.size,h5⟩⟩
 ·rintro b1 b2 b3 b4 v1 v2 v3 w4 hq ⟨zk,x4,f1,f2,f3⟩;have hb2:b2=true:=by revert hq;cases b2 <;> simp
  have hb3:b3=true:=by revert hq;cases b3 <;> simp
  have hb1:b1=true:=by revert hq;subst hb2;cases b1 <;> simp
  subst hb1 hb2 hb3;have g2:=f2 rfl;subst g2;obtain ⟨rfl,g5,g6⟩:=f3 rfl;have q1:=(f1 rfl).sl.one;have n1:=(f1 rfl).neBlock g6 bG;refine aD ?_;have hmb:MsgV w4 (bareN m code) v1 aH aH aH:=⟨(f1 rfl).sl,Sl.nil _ _,Sl.nil _ _,Sl.nil _ _⟩;refine dS (v:=.agg (aM (bareN m code) v1 aH aH aH).toArray) g6 (bY hmb) fun w5 p5 => ?_;have x5:=cH x4 p5;refine aG ⟨x5,rfl,zk,x5,fun _=>(f1 rfl).mv p5.mv (.inr n1),bP,fun _=>⟨rfl,g5,p5.this⟩⟩
 ·rintro v1 v2 v3 w9 ⟨zk,x9,f1,f2,f3⟩;have o1:=f1 rfl;have k2:=f2 rfl;obtain ⟨k3,k4,k5⟩:=f3 rfl;clear f1 f2 f3;subst k2 k3;refine aD ?_;refine dR aR ?_;have k5':w9.heap[zk]? = some (.cells (aM (bareN m code) v1 aH aH aH).toArray 48 (0,0)):=k5;have hpz:=aA (cs:=aM (bareN m code) v1 aH aH aH) k5';have hpM9:=hpM.ext x9;unfold aM bareN at hpz;have h9:=x9.at h2;clear hpM;have x09:=x02.trans x9;have hmb:MsgV w9 (bareR m code) v1 aH aH aH:=⟨o1.sl,Sl.nil _ _,Sl.nil _ _,Sl.nil _ _⟩;have hlt1:w1.heap.size < w2.heap.size:=aE;by_cases cz:m.size=0
  ·have hbr:bareR m code=bareN m code:=by unfold bareR bareN;rw [if_pos cz]
   refine_lift rT (fun _ _ _ => ?_) (fun _ _ _ => ?_)
   all_goals first
    | (exfalso;simp_all;done)
    | skip
   refine iQ (v:=.agg (aM (bareR m code) v1 aH aH aH).toArray) rfl rfl (by rw [hbr];rfl) h9 (aR:gL Tryz.prog 48 13=true) rfl (bY hmb) ?_;intro w10 p10;have x10:=cH x09 p10;refine_lift aX ?_;refine xB (cs:=aM (bareR m code) v1 aH aH aH) p10.this ⟨_,rfl,x10,v1,rfl,?_⟩;exact (cM o1 p10 h9).weaken x02.size
  ·have hbr:bareR m code={ bareN m code with size:=1232 }:=by unfold bareR bareN;rw [if_neg cz]
   refine_lift rT (fun _ _ _ => ?_) (fun _ _ _ => ?_)
   all_goals first
    | (exfalso;simp_all;done)
    | skip
   refine eS 12 (.int .i64 1232) k5' rfl fun w10 p10 => ?_;have hz10:w10.heap[zk]? = some (.cells (aM (bareR m code) v1 aH aH aH).toArray 48 (0,0)):=by rw [hbr];exact p10.this
   have x10:=cH x9 p10;have h10:=x10.at h2;have o10:=cM o1 p10 k5';have hmb:MsgV w10 (bareR m code) v1 aH aH aH:=⟨o10.sl,Sl.nil _ _,Sl.nil _ _,Sl.nil _ _⟩;have hpz:=aA (cs:=aM (bareR m code) v1 aH aH aH) hz10;rw [hbr] at hpz;unfold aM bareN at hpz;refine_lift cC fun _ _ => ?_;refine iQ (v:=.agg (aM (bareR m code) v1 aH aH aH).toArray) rfl rfl (by rw [hbr];rfl) h10 (aR:gL Tryz.prog 48 13=true) rfl (bY hmb) ?_;intro w11 p11;have x11:=cH (x02.trans x10) p11;refine_lift aX ?_;refine xB (cs:=aM (bareR m code) v1 aH aH aH) p11.this ⟨_,rfl,x11,v1,rfl,?_⟩;exact (cM o10 p11 h10).weaken x02.size
end Go.Proofs.X
