/- Laws and walks that the proof of the statement is made of (part 15). -/
import Derived.Test.YtdblpgbielpngaaGreatP14
set_option linter.unusedSimpArgs false
set_option linter.unusedVariables false
set_option maxRecDepth 100000
set_option maxHeartbeats 20000000
namespace Go.Proofs.X
open Go.RowKit
variable {cs:Array Value} {held:Bool} {qt:Int} {ps rs:List (List UInt8 × Nat)} {ls:List (List UInt8)} {css css0 es:List (List Value)} {d l m n o qn s t x y z:List UInt8} {B a b base c e fuel i j k p q:Nat} {fz:Nat × Nat} {row:Option Nat} {r u v:Value} {w w' w0 w1 w2:World}
theorem QR {r:RdS} (h0:0≤r.at_) (h:(r.take s 4).2.e=0):(r.take s 4).1=[0,0,0,0]↔numN (r.take s 4).1=0:=by
 have hl:(r.take s 4).1.length=4:=by
  unfold RdS.take at h ⊢;split
  ·rename_i c;rw [if_pos c] at h;exact absurd h c
  ·rename_i c;rw [if_neg c] at h;split
   ·rename_i c2;rw [if_pos c2] at h;cases h
   ·rename_i c2;show ((s.drop r.at_.toNat).take 4).length=4;rw [List.length_take,List.length_drop];omega
 generalize (r.take s 4).1=t at *
 match t,hl with
 | [a,b,c,d],_ =>
  constructor
  ·intro h;rw [h];rfl
  ·intro h;have h1:a.toNat=0∧b.toNat=0∧c.toNat=0∧d.toNat=0:=by
    simp [numN] at h;omega
   have e:∀ x:UInt8,x.toNat=0→x=0:=fun x hx=>UInt8.toNat_inj.1 hx;rw [e a h1.1,e b h1.2.1,e c h1.2.2.1,e d h1.2.2.2]
theorem UN {r:RdS} (hr:r.Ok s) (hs:s.length≤100000000) (kind:Int) (n:Nat) (hn:n≤65535):(r.data s kind n).1.length≤70000:=by
 unfold RdS.data;dsimp only;have h0:=hr.want (decide (r.at_ + n≤(s.length:Int))) (er:=3) bG;generalize r.want (decide (r.at_ + n≤(s.length:Int))) 3=r0 at *;split
 ·exact Nat.zero_le _
 ·dsimp only;split
  ·have:=(gS h0 hs).1;omega
  ·split
   ·have h1:=gJ s r0 2;have h2:=(gS (h0.take hs (n:=2) aE) hs).1;dsimp only;rw [List.length_append];simp at h1;omega
   ·split
    ·have h1:=gS h0 hs;have h2:=gS h1.2 hs;have h3:=gJ s ((r0.host s).2.host s).2 20;dsimp only;rw [List.length_append,List.length_append];simp at h3;omega
    ·have h1:=gJ s r0 n;simp at h1;omega
def OI (w:World) (b:Nat) (s:List UInt8) (o:List Rec × Nat × RdS) (e:Ending) (w':World):Prop:=∃ v,e=.returned (.tuple #[v, .int .i64 (o.2.1:Nat)])∧Own w.heap.size 4 67 w' v (aJ o.1)∧dF w' b s o.2.2∧Mv (some b) w w'
theorem uW {r:RdS} (h:dF w b s r) (hr:r.Ok s) (hs:s.length≤1000000) (n:Nat) (hn1:n≤65535) (last:Bool):Calls Tryz.prog 49 #[.pointer (some ⟨b,0,none⟩), .int .i64 n, .bool last] w (OI w b s (dX s r n last)):=by
 have hs8:s.length≤100000000:=aE;have hwr:=hr.want (decide ((n:Int)≤200 + (if last=true then 1 else 0))) (er:=2) bG;have hgo:iN s last n n 0 [] (r.want (decide ((n:Int)≤200 + (if last=true then 1 else 0))) 2)=dX s r n last:=rfl;generalize dX s r n last=RES at *;generalize hF:(if last=true then (1:Int) else 0)=F at *;go_enter Tryz.func49,Tryz.ntmps49
 refine_lift qQ fun _ _ _ _ => ?_;refine oH (J:=fun a' w'=>w=w'∧∃ ts:List Value,a'=Act.mk ts.toArray []∧ts.length=147∧ts.getD 0 undef=.pointer (some ⟨b,0,none⟩)∧ts.getD 1 undef=.int .i64 n∧ts.getD 2 undef=.bool last∧ts.getD 31 undef=.bool (decide (r.e=0∧200 + F < n))) ?_ ?_
 ·have hp:=aA (cs:=jX s r) h;by_cases c0:r.e=0
  ·by_cases c1:200 + F < (n:Int)
   ·rw [decide_eq_true ⟨c0,c1⟩];cases last with
    | true =>
     obtain rfl:F=1:=hF.symm;refine_lift ED (fun hc hc => ?_) (fun hc => ?_) (fun hc hc => ?_)
     all_goals first
      | (have hh:False:=aE
         exact hh.elim)
      | exact .inl ⟨rfl,rfl,_,rfl,rfl,rfl,rfl,rfl,rfl⟩
      | exact .inl ⟨rfl,rfl,_,rfl,rfl,rfl,rfl,rfl,congrArg Value.bool (decide_eq_true aE)⟩
    | false =>
     obtain rfl:F=0:=hF.symm;refine_lift ED (fun hc hc => ?_) (fun hc => ?_) (fun hc hc => ?_)
     all_goals first
      | (have hh:False:=aE
         exact hh.elim)
      | exact .inl ⟨rfl,rfl,_,rfl,rfl,rfl,rfl,rfl,rfl⟩
      | exact .inl ⟨rfl,rfl,_,rfl,rfl,rfl,rfl,rfl,congrArg Value.bool (decide_eq_true aE)⟩
   ·rw [decide_eq_false (fun h=>c1 h.2)];cases last with
    | true =>
     obtain rfl:F=1:=hF.symm;refine_lift ED (fun hc hc => ?_) (fun hc => ?_) (fun hc hc => ?_)
     all_goals first
      | (have hh:False:=aE
         exact hh.elim)
      | exact .inl ⟨rfl,rfl,_,rfl,rfl,rfl,rfl,rfl,rfl⟩
      | exact .inl ⟨rfl,rfl,_,rfl,rfl,rfl,rfl,rfl,congrArg Value.bool (decide_eq_false aE)⟩
    | false =>
     obtain rfl:F=0:=hF.symm;refine_lift ED (fun hc hc => ?_) (fun hc => ?_) (fun hc hc => ?_)
     all_goals first
      | (have hh:False:=aE
         exact hh.elim)
      | exact .inl ⟨rfl,rfl,_,rfl,rfl,rfl,rfl,rfl,rfl⟩
      | exact .inl ⟨rfl,rfl,_,rfl,rfl,rfl,rfl,rfl,congrArg Value.bool (decide_eq_false aE)⟩
  ·rw [decide_eq_false (fun h=>c0 h.1)];refine_lift xN (fun hc hc hc => ?_) (fun hc hc => ?_) (fun hc => ?_) (fun hc hc hc => ?_)
   all_goals first
    | (have hh:False:=aE
       exact hh.elim)
    | exact .inl ⟨rfl,rfl,_,rfl,rfl,rfl,rfl,rfl,rfl⟩
 ·rintro _ _ ⟨rfl,ts,rfl,hlen,g0,g1,g2,g31⟩;have hW0:dF w b s r:=h;refine AE (fun a' w'=>Mv (some b) w w'∧dF w' b s (r.want (decide ((n:Int)≤200 + F)) 2)∧∃ ts:List Value,a'=Act.mk ts.toArray []∧ts.length=147∧ts.getD 0 undef=.pointer (some ⟨b,0,none⟩)∧ts.getD 1 undef=.int .i64 n∧ts.getD 2 undef=.bool last) (by assumption) ?_ ?_
  ·obtain ⟨f,rfl⟩:∃ f:Nat→Value,ts=[f 0,f 1,f 2,f 3,f 4,f 5,f 6,f 7,f 8,f 9,f 10,f 11,f 12,f 13,f 14,f 15,f 16,f 17,f 18,f 19,f 20,f 21,f 22,f 23,f 24,f 25,f 26,f 27,f 28,f 29,f 30,f 31,f 32,f 33,f 34,f 35,f 36,f 37,f 38,f 39,f 40,f 41,f 42,f 43,f 44,f 45,f 46,f 47,f 48,f 49,f 50,f 51,f 52,f 53,f 54,f 55,f 56,f 57,f 58,f 59,f 60,f 61,f 62,f 63,f 64,f 65,f 66,f 67,f 68,f 69,f 70,f 71,f 72,f 73,f 74,f 75,f 76,f 77,f 78,f 79,f 80,f 81,f 82,f 83,f 84,f 85,f 86,f 87,f 88,f 89,f 90,f 91,f 92,f 93,f 94,f 95,f 96,f 97,f 98,f 99,f 100,f 101,f 102,f 103,f 104,f 105,f 106,f 107,f 108,f 109,f 110,f 111,f 112,f 113,f 114,f 115,f 116,f 117,f 118,f 119,f 120,f 121,f 122,f 123,f 124,f 125,f 126,f 127,f 128,f 129,f 130,f 131,f 132,f 133,f 134,f 135,f 136,f 137,f 138,f 139,f 140,f 141,f 142,f 143,f 144,f 145,f 146]:=⟨fun i=>ts.getD i undef,iG hlen undef⟩;change f 0=_ at g0;change f 1=_ at g1;change f 2=_ at g2;change f 31=_ at g31;rw [g0,g1,g2,g31];clear hlen g0 g1 g2 g31;by_cases c01:r.e=0∧200 + F < (n:Int)
   ·rw [decide_eq_true c01];have hcw:=fM h 2;rw [show r.want false 2=(r.want (decide ((n:Int)≤200 + F)) 2) by rw [decide_eq_false (show ¬ (n:Int)≤200 + F by omega)]] at hcw;refine_lift cC ?_;intro _ _;refine bK hcw fun w2 h2 m2 => ?_;refine_lift aX ?_;exact ⟨rfl,m2,h2,_,rfl,rfl,rfl,rfl,rfl⟩
   ·rw [decide_eq_false c01];have hE:(r.want (decide ((n:Int)≤200 + F)) 2)=r:=by
     unfold RdS.want;rw [if_neg];rintro ⟨h1,h2⟩;have:=of_decide_eq_false h2;exact c01 ⟨h1,aE⟩
    refine_lift jS fun _ => ?_;exact ⟨rfl,Mv.refl _ _,by rw [hE];exact h,_,rfl,rfl,rfl,rfl,rfl⟩
  ·rintro _ w2 ⟨m02,h2,ts2,rfl,hlen,g0,g1,g2⟩;clear g31;obtain ⟨f,rfl⟩:∃ f:Nat→Value,ts2=[f 0,f 1,f 2,f 3,f 4,f 5,f 6,f 7,f 8,f 9,f 10,f 11,f 12,f 13,f 14,f 15,f 16,f 17,f 18,f 19,f 20,f 21,f 22,f 23,f 24,f 25,f 26,f 27,f 28,f 29,f 30,f 31,f 32,f 33,f 34,f 35,f 36,f 37,f 38,f 39,f 40,f 41,f 42,f 43,f 44,f 45,f 46,f 47,f 48,f 49,f 50,f 51,f 52,f 53,f 54,f 55,f 56,f 57,f 58,f 59,f 60,f 61,f 62,f 63,f 64,f 65,f 66,f 67,f 68,f 69,f 70,f 71,f 72,f 73,f 74,f 75,f 76,f 77,f 78,f 79,f 80,f 81,f 82,f 83,f 84,f 85,f 86,f 87,f 88,f 89,f 90,f 91,f 92,f 93,f 94,f 95,f 96,f 97,f 98,f 99,f 100,f 101,f 102,f 103,f 104,f 105,f 106,f 107,f 108,f 109,f 110,f 111,f 112,f 113,f 114,f 115,f 116,f 117,f 118,f 119,f 120,f 121,f 122,f 123,f 124,f 125,f 126,f 127,f 128,f 129,f 130,f 131,f 132,f 133,f 134,f 135,f 136,f 137,f 138,f 139,f 140,f 141,f 142,f 143,f 144,f 145,f 146]:=⟨fun i=>ts2.getD i undef,iG hlen undef⟩;change f 0=_ at g0;change f 1=_ at g1;change f 2=_ at g2;rw [g0,g1,g2];clear hlen g0 g1 g2;have hbw:b < w.heap.size:=(Array.getElem?_eq_some_iff.1 h).1;generalize (r.want (decide ((n:Int)≤200 + F)) 2)=r0 at *;refine_lift cC fun _ _ => ?_;go_loopw [8,9,10,11,12,13,14] (fun lv iv _ _ _ _ _ wr=>∃ (i:Nat) (l:List Rec) (r':RdS),i≤n∧iv=.int .i64 i∧Own w.heap.size 4 67 wr lv (aJ l)∧l.length=i∧dF wr b s r'∧r'.Ok s∧Mv (some b) w wr∧iN s last n (n - i) i l r'=RES) (fun _ iv _ _ _ _ _ _=>n - (intOf iv).toNat)
   case atStart=>exact ⟨0,[],r0,Nat.zero_le _,rfl,Own.nil _ _ _ _,rfl,h2,hwr,m02,hgo⟩
   case round =>
    obtain ⟨i,l,r',hi,rfl,ho,hli,hR,hok,hm,hg⟩:=hrel;have hpr:=aA (cs:=jX s r') hR;by_cases c1:i < n
    ·by_cases c2:r'.e=0
     ·obtain ⟨f',hf'⟩:∃ f',n - i=f' + 1:=⟨n - i - 1,aE⟩;rw [hf'] at hg;unfold iN at hg;rw [if_neg (by simpa using c2)] at hg;have hX:=nR hok hs8;have hXe:iD s r'=⟨(eT s r').1,((eT s r').2.number s 2).1,(((eT s r').2.number s 2).2.number s 2).1,(((eT s r').2.number s 2).2.number s 2).2⟩:=rfl;obtain ⟨hn1',hn2'⟩:=lL hok hs8;have hcn:=HW hR hok hs8;generalize hN:eT s r'=N at *;obtain ⟨nm,q1⟩:=N;dsimp only at *;have hq2:=bH (n:=2) hn2' hs8 aE;have hk1:=bQ s q1 2 aE;have hc1:=fun w' (h':dF w' b s q1)=>eU h' hn2' hs8 2 aE aE;generalize q1.number s 2=K at *;obtain ⟨kind,q2⟩:=K;dsimp only at *;have hq3:=bH (n:=2) hq2 hs8 aE;have hk2:=bQ s q2 2 aE;have hc2:=fun w' (h':dF w' b s q2)=>eU h' hq2 hs8 2 aE aE;generalize q2.number s 2=C at *;obtain ⟨cls,q3⟩:=C;dsimp only at *;rw [hXe] at hg;have hk1':kind < 65536:=by simpa using hk1
      have hk2':cls < 65536:=by simpa using hk2
      (repeat' first | ((with_reducible refine cQ ?_);go_step) | ((with_reducible refine bM ?_);first | refine gR ?_ | (refine cV ?_ ?_ <;> intro hc)) | fail)
      all_goals first
       | (have hh:False:=aE
          exact hh.elim)
       | (have hh:False:=absurd c2 (by assumption)
          exact hh.elim)
       | skip
      refine bK hcn fun w3 h3 m3 => ?_;have ho3:=ho.mv m3 (.inr (ho.neBlock hR bG));refine_lift aX ?_;refine aS (v:=.agg #[aI nm, .int .i64 0, .int .i64 0,aI []]) (Runs.build rfl (by kernel_rfl)) ?_;refine aD ?_;refine fO (z:=TM) fun w4 x4 s4 h4 => ?_;refine aD ?_;refine dS (v:=.agg #[aI nm, .int .i64 0, .int .i64 0,aI []]) h4 (fI rfl rfl rfl rfl) fun w5 p5 => ?_;have x5:=cH x4 p5;have hx5:w5.heap[w3.heap.size]? = some (.cells [aI nm, .int .i64 0, .int .i64 0,aI []].toArray 67 (0,0)):=p5.this;have hb5:dF w5 b s q1:=x5.at h3;have ho5:=ho3.ext x5;have hv5:=HG ho3 w3.heap.size (Nat.le_refl _);have hm5:=(hm.trans m3).trans (x5.mv (some b));have hbn:b < w3.heap.size:=(Array.getElem?_eq_some_iff.1 h3).1;have hne:some w3.heap.size≠some b:=by intro e;have:=Option.some.inj e;omega
      have hwc:w.heap.size≤w3.heap.size:=(hm.trans m3).size;generalize w3.heap.size=c at *;clear h4 p5 x4 hpr hcn;refine_lift cC fun _ _ => ?_;refine bK (hc1 _ hb5) fun w6 h6 m6 => ?_;have hx6:=m6.at hx5 hne;have hpx6:=aA hx6;have ho6:=ho5.mv m6 (.inr (ho5.neBlock hb5 bG));refine_lift aX ?_;refine eS 1 (.int .i64 (kind:Nat)) hx6 rfl fun w7 p7 => ?_;have hx7:w7.heap[c]? = some (.cells [aI nm, .int .i64 (kind:Nat), .int .i64 0,aI []].toArray 67 (0,0)):=p7.this;have h7:dF w7 b s q2:=p7.mv.at h6 (by intro e;exact hne e.symm);have ho7:=ho6.mv p7.mv hv5;have hm7:=(hm5.trans m6).fresh p7.mv hwc;clear hpx6;refine_lift cC fun _ _ => ?_;refine bK (hc2 _ h7) fun w8 h8 m8 => ?_;have hx8:=m8.at hx7 hne;have ho8:=ho7.mv m8 (.inr (ho7.neBlock h7 bG));have hm8:=hm7.trans m8;refine_lift qQ fun _ _ _ _ => ?_;by_cases ck:kind=41∧q3.e=0
      ·obtain ⟨ck,ce⟩:=ck;rw [if_pos ⟨ck,ce⟩] at hg;have hp8:=aA (cs:=jX s q3) h8;have hpx8:=aA (cs:=[aI nm, .int .i64 (kind:Nat), .int .i64 0,aI []]) hx8
       (repeat' first | ((with_reducible refine cQ ?_);go_step) | ((with_reducible refine bM ?_);first | refine gR ?_ | (refine cV ?_ ?_ <;> intro hc)) | fail)
       all_goals first
        | (have hh:False:=aE
           exact hh.elim)
        | (have hh:False:=absurd ce (by assumption)
           exact hh.elim)
        | skip
       have hq4:=hq3.take hs8 (n:=4) aE;have ht4:=gJ s q3 4;have ht4e:=QR (s:=s) (r:=q3) hq3.lo;have hg0:HM s last n i ⟨nm,kind,cls,q3⟩=(((q3.take s 4).2.number s 2).2).want (last && (decide ((i:Int)=(n:Int) - 1) && (decide (nm=[]) && (decide ((512:Int)≤(cls:Nat)) && (decide (((numN (q3.take s 4).1:Nat):Int)=0) && decide ((((q3.take s 4).2.number s 2).1:Int)=0)))))) 2:=rfl;rw [hg0] at hg;clear hg0;have hc3:=tI h8 hq3 hs8 4 aE aE;generalize hT:q3.take s 4=T at *;obtain ⟨t,q4⟩:=T;dsimp only at *;have hk4:=bQ s q4 2 aE;have hc4:=fun w' (h':dF w' b s q4)=>eU h' hq4 hs8 2 aE aE;have he45:=iV (s:=s) (r:=q4) (n:=2);generalize hD:q4.number s 2=D at *;obtain ⟨dl,q5⟩:=D;dsimp only at *;have hz4:q5.e=0→(t=[0,0,0,0]↔numN t=0):=fun e=>ht4e (he45 e).1;refine bK hc3 fun w9 h9' m9 => ?_;have hx9:=m9.at hx8 hne;have ho9:=ho8.mv m9 (.inr (ho8.neBlock h8 bG));have hm9:=hm8.trans m9;refine_lift cC fun _ _ => ?_;refine bK (hc4 _ h9') fun w10 h10 m10 => ?_;have hx10:=m10.at hx9 hne;have hpx10:=aA (cs:=[aI nm, .int .i64 (kind:Nat), .int .i64 0,aI []]) hx10;have hp10:=aA (cs:=jX s q5) h10;have ho10:=ho9.mv m10 (.inr (ho9.neBlock h9' bG));have hm10:=hm9.trans m10;clear hpx8 hp8 ht4 ht4e hc3 hc4;by_cases ce5:q5.e=0
       ·have hz:=hz4 ce5;by_cases cc:last=true∧(i:Int)=(n:Int) - 1∧nm=[]∧512≤((cls:Nat):Int)∧t=[0,0,0,0]∧dl=0
        ·obtain ⟨rfl,hin,rfl,hcl,rfl,rfl⟩:=cc;have hq:q5.want (true && (decide ((i:Int)=(n:Int) - 1) && (decide (([]:List UInt8)=[]) && (decide ((512:Int)≤(cls:Nat)) && (decide (((numN [0,0,0,0]:Nat):Int)=0) && decide (((0:Nat):Int)=0)))))) 2=q5:=gY (by rw [decide_eq_true hin,decide_eq_true hcl];rfl);rw [hq] at hg
         (repeat' first | ((with_reducible refine cQ ?_);go_step) | ((with_reducible refine bM ?_);first | refine gR ?_ | (refine cV ?_ ?_ <;> intro hc)) | fail)
         all_goals first
          | (have hh:False:=aE
             exact hh.elim)
          | (have hh:False:=absurd ce5 (by assumption)
             exact hh.elim)
          | (have hh:False:=by have h9:=‹(!decide ((i:Int)=(n:Int) - 1))=true›;rw [decide_eq_true hin] at h9;cases h9
             exact hh.elim)
          | (have hh:False:=by have h9:=‹(!decide (((0:Nat):Int)=0))=true›;simp at h9
             exact hh.elim)
          | skip
         go_ret2;rw [← hg];exact ⟨_,rfl,ho10,h10,hm10⟩
        ·have hq:q5.want (last && (decide ((i:Int)=(n:Int) - 1) && (decide (nm=[]) && (decide ((512:Int)≤(cls:Nat)) && (decide (((numN t:Nat):Int)=0) && decide (((dl:Nat):Int)=0)))))) 2=q5.want false 2:=by
          congr 1
          rw [Bool.eq_false_iff];intro h9;simp only [Bool.and_eq_true,decide_eq_true_eq] at h9;exact cc ⟨h9.1,h9.2.1,h9.2.2.1,h9.2.2.2.1,hz.2 aE,aE⟩
         rw [hq] at hg;have hcw:=fM h10 2;cases last with
         | true =>
          (repeat' first | ((with_reducible refine cQ ?_);go_step) | ((with_reducible refine bM ?_);first | refine gR ?_ | (refine cV ?_ ?_ <;> intro hc)) | fail)
          all_goals first
           | (have hh:False:=absurd ce5 (by assumption)
              exact hh.elim)
           | (have hh:False:=by
               have a1:=‹(!decide ((i:Int)=(n:Int) - 1))=false›;have a2:=‹(!decide (nm=[]))=false›;have a3:=‹(!decide (t=[0,0,0,0]))=false›;have a4:=‹(!decide (((dl:Nat):Int)=0))=false›;simp at a1 a2 a3 a4;exact cc ⟨rfl,aE,a2,aE,a3,aE⟩
              exact hh.elim)
           | (
            refine bK hcw fun w11 h11 m11 => ?_;refine_lift aX ?_;go_ret2;rw [← hg];exact ⟨_,rfl,ho10.mv m11 (.inr (ho10.neBlock h10 bG)),h11,hm10.trans m11⟩)
         | false =>
          refine_lift LP (fun hc => ?_) (fun _ _ hc => ?_)
          all_goals first
           | (have hh:False:=absurd ce5 (by assumption)
              exact hh.elim)
           | (
            refine bK hcw fun w11 h11 m11 => ?_;refine_lift aX ?_;go_ret2;rw [← hg];exact ⟨_,rfl,ho10.mv m11 (.inr (ho10.neBlock h10 bG)),h11,hm10.trans m11⟩)
       ·have hq:∀ is,q5.want is 2=q5:=fun is=>by unfold RdS.want;rw [if_neg (fun h=>ce5 h.1)]
        rw [hq] at hg
        (repeat' first | ((with_reducible refine cQ ?_);go_step) | ((with_reducible refine bM ?_);first | refine gR ?_ | (refine cV ?_ ?_ <;> intro hc)) | fail)
        all_goals first
         | (have hh:False:=aE
            exact hh.elim)
         | (have hh:False:=absurd (by assumption) ce5
            exact hh.elim)
         | skip
        go_ret2;rw [← hg];exact ⟨_,rfl,ho10,h10,hm10⟩
      ·rw [if_neg ck] at hg;refine oH (J:=fun a' w'=>w8=w'∧∃ ts:List Value,a'=Act.mk ts.toArray []∧ts.length=147∧ts.getD 0 undef=.pointer (some ⟨b,0,none⟩)∧ts.getD 1 undef=.int .i64 n∧ts.getD 2 undef=.bool last∧ts.getD 8 undef=u8∧ts.getD 9 undef=.int .i64 i∧ts.getD 10 undef=.pointer (some ⟨c,0,none⟩)∧ts.getD 11 undef=.int .i64 (cls:Nat)∧ts.getD 3 undef=f 3∧ts.getD 4 undef=f 4∧ts.getD 5 undef=f 5∧ts.getD 15 undef=f 15∧ts.getD 16 undef=f 16∧ts.getD 17 undef=f 17∧ts.getD 18 undef=f 18∧ts.getD 19 undef=f 19∧ts.getD 20 undef=f 20∧ts.getD 21 undef=f 21∧ts.getD 22 undef=f 22∧ts.getD 23 undef=f 23∧ts.getD 24 undef=f 24∧ts.getD 25 undef=f 25∧ts.getD 26 undef=f 26∧ts.getD 27 undef=f 27∧ts.getD 28 undef=f 28∧ts.getD 29 undef=f 29∧ts.getD 30 undef=f 30∧ts.getD 31 undef=f 31∧ts.getD 32 undef=f 32∧ts.getD 33 undef=f 33∧ts.getD 146 undef=f 146∧ts.getD 63 undef=.bool false) ?_ ?_
       ·have hp8:=aA (cs:=jX s q3) h8;have hpx8:=aA (cs:=[aI nm, .int .i64 (kind:Nat), .int .i64 0,aI []]) hx8;by_cases ce:q3.e=0
        ·have ck1:¬ ((kind:Nat):Int)=41:=fun h=>ck ⟨aE,ce⟩;refine_lift tK (fun hc => ?_) (fun hc => ?_)
         all_goals first
          | (have hh:False:=absurd ce (by assumption)
             exact hh.elim)
          | exact .inl ⟨rfl,rfl,_,rfl,rfl,rfl,rfl,rfl,rfl,rfl,rfl,rfl,rfl,rfl,rfl,rfl,rfl,rfl,rfl,rfl,rfl,rfl,rfl,rfl,rfl,rfl,rfl,rfl,rfl,rfl,rfl,rfl,rfl,rfl,rfl,rfl⟩
          | exact .inl ⟨rfl,rfl,_,rfl,rfl,rfl,rfl,rfl,rfl,rfl,rfl,rfl,rfl,rfl,rfl,rfl,rfl,rfl,rfl,rfl,rfl,rfl,rfl,rfl,rfl,rfl,rfl,rfl,rfl,rfl,rfl,rfl,rfl,rfl,rfl,congrArg Value.bool (decide_eq_false ck1)⟩
        ·refine_lift tK (fun hc => ?_) (fun hc => ?_)
         all_goals first
          | (have hh:False:=absurd (by assumption) ce
             exact hh.elim)
          | exact .inl ⟨rfl,rfl,_,rfl,rfl,rfl,rfl,rfl,rfl,rfl,rfl,rfl,rfl,rfl,rfl,rfl,rfl,rfl,rfl,rfl,rfl,rfl,rfl,rfl,rfl,rfl,rfl,rfl,rfl,rfl,rfl,rfl,rfl,rfl,rfl,rfl⟩
       ·rintro _ _ ⟨rfl,ts3,rfl,hlen,g0,g1,g2,g8,g9,g10,g11,g3,g4,g5,g15,g16,g17,g18,g19,g20,g21,g22,g23,g24,g25,g26,g27,g28,g29,g30,g31,g32,g33,g146,g63⟩;obtain ⟨fa,rfl⟩:∃ fa:Nat→Value,ts3=[fa 0,fa 1,fa 2,fa 3,fa 4,fa 5,fa 6,fa 7,fa 8,fa 9,fa 10,fa 11,fa 12,fa 13,fa 14,fa 15,fa 16,fa 17,fa 18,fa 19,fa 20,fa 21,fa 22,fa 23,fa 24,fa 25,fa 26,fa 27,fa 28,fa 29,fa 30,fa 31,fa 32,fa 33,fa 34,fa 35,fa 36,fa 37,fa 38,fa 39,fa 40,fa 41,fa 42,fa 43,fa 44,fa 45,fa 46,fa 47,fa 48,fa 49,fa 50,fa 51,fa 52,fa 53,fa 54,fa 55,fa 56,fa 57,fa 58,fa 59,fa 60,fa 61,fa 62,fa 63,fa 64,fa 65,fa 66,fa 67,fa 68,fa 69,fa 70,fa 71,fa 72,fa 73,fa 74,fa 75,fa 76,fa 77,fa 78,fa 79,fa 80,fa 81,fa 82,fa 83,fa 84,fa 85,fa 86,fa 87,fa 88,fa 89,fa 90,fa 91,fa 92,fa 93,fa 94,fa 95,fa 96,fa 97,fa 98,fa 99,fa 100,fa 101,fa 102,fa 103,fa 104,fa 105,fa 106,fa 107,fa 108,fa 109,fa 110,fa 111,fa 112,fa 113,fa 114,fa 115,fa 116,fa 117,fa 118,fa 119,fa 120,fa 121,fa 122,fa 123,fa 124,fa 125,fa 126,fa 127,fa 128,fa 129,fa 130,fa 131,fa 132,fa 133,fa 134,fa 135,fa 136,fa 137,fa 138,fa 139,fa 140,fa 141,fa 142,fa 143,fa 144,fa 145,fa 146]:=⟨fun i=>ts3.getD i undef,iG hlen undef⟩;change fa 0=_ at g0;change fa 1=_ at g1;change fa 2=_ at g2;change fa 8=_ at g8;change fa 9=_ at g9;change fa 10=_ at g10;change fa 11=_ at g11;change fa 3=_ at g3;change fa 4=_ at g4;change fa 5=_ at g5;change fa 15=_ at g15;change fa 16=_ at g16;change fa 17=_ at g17;change fa 18=_ at g18;change fa 19=_ at g19;change fa 20=_ at g20;change fa 21=_ at g21;change fa 22=_ at g22;change fa 23=_ at g23;change fa 24=_ at g24;change fa 25=_ at g25;change fa 26=_ at g26;change fa 27=_ at g27;change fa 28=_ at g28;change fa 29=_ at g29;change fa 30=_ at g30;change fa 31=_ at g31;change fa 32=_ at g32;change fa 33=_ at g33;change fa 146=_ at g146;change fa 63=_ at g63;rw [g0,g1,g2,g8,g9,g10,g11,g3,g4,g5,g15,g16,g17,g18,g19,g20,g21,g22,g23,g24,g25,g26,g27,g28,g29,g30,g31,g32,g33,g146,g63];clear hlen g0 g1 g2 g8 g9 g10 g11 g3 g4 g5 g15 g16 g17 g18 g19 g20 g21 g22 g23 g24 g25 g26 g27 g28 g29 g30 g31 g32 g33 g146 g63;refine_lift qQ fun _ _ _ _ => ?_;refine oH (J:=fun a' w'=>w8=w'∧∃ ts:List Value,a'=Act.mk ts.toArray []∧ts.length=147∧ts.getD 0 undef=.pointer (some ⟨b,0,none⟩)∧ts.getD 1 undef=.int .i64 n∧ts.getD 2 undef=.bool last∧ts.getD 8 undef=u8∧ts.getD 9 undef=.int .i64 i∧ts.getD 10 undef=.pointer (some ⟨c,0,none⟩)∧ts.getD 11 undef=.int .i64 (cls:Nat)∧ts.getD 3 undef=f 3∧ts.getD 4 undef=f 4∧ts.getD 5 undef=f 5∧ts.getD 15 undef=f 15∧ts.getD 16 undef=f 16∧ts.getD 17 undef=f 17∧ts.getD 18 undef=f 18∧ts.getD 19 undef=f 19∧ts.getD 20 undef=f 20∧ts.getD 21 undef=f 21∧ts.getD 22 undef=f 22∧ts.getD 23 undef=f 23∧ts.getD 24 undef=f 24∧ts.getD 25 undef=f 25∧ts.getD 26 undef=f 26∧ts.getD 27 undef=f 27∧ts.getD 28 undef=f 28∧ts.getD 29 undef=f 29∧ts.getD 30 undef=f 30∧ts.getD 31 undef=f 31∧ts.getD 32 undef=f 32∧ts.getD 33 undef=f 33∧ts.getD 146 undef=f 146∧ts.getD 112 undef=.bool (decide (q3.e=0∧¬ ((cls:Nat):Int)=1))) ?_ ?_
        ·have hp8:=aA (cs:=jX s q3) h8;by_cases ce:q3.e=0
         ·have hb:decide (q3.e=0∧¬ ((cls:Nat):Int)=1) = !decide (((cls:Nat):Int)=1):=by simp [ce]
          rw [hb];refine_lift tK (fun hc => ?_) (fun hc => ?_)
          all_goals first
           | (have hh:False:=absurd ce (by assumption)
              exact hh.elim)
           | exact .inl ⟨rfl,rfl,_,rfl,rfl,rfl,rfl,rfl,rfl,rfl,rfl,rfl,rfl,rfl,rfl,rfl,rfl,rfl,rfl,rfl,rfl,rfl,rfl,rfl,rfl,rfl,rfl,rfl,rfl,rfl,rfl,rfl,rfl,rfl,rfl,rfl⟩
         ·rw [decide_eq_false (fun h=>ce h.1)];refine_lift tK (fun hc => ?_) (fun hc => ?_)
          all_goals first
           | (have hh:False:=absurd (by assumption) ce
              exact hh.elim)
           | exact .inl ⟨rfl,rfl,_,rfl,rfl,rfl,rfl,rfl,rfl,rfl,rfl,rfl,rfl,rfl,rfl,rfl,rfl,rfl,rfl,rfl,rfl,rfl,rfl,rfl,rfl,rfl,rfl,rfl,rfl,rfl,rfl,rfl,rfl,rfl,rfl,rfl⟩
        ·rintro _ _ ⟨rfl,ts4,rfl,hlen,g0,g1,g2,g8,g9,g10,g11,g3,g4,g5,g15,g16,g17,g18,g19,g20,g21,g22,g23,g24,g25,g26,g27,g28,g29,g30,g31,g32,g33,g146,g112⟩;refine AE (fun a' w'=>Mv (some b) w8 w'∧dF w' b s (q3.want (decide ((cls:Int)=1)) 2)∧∃ ts:List Value,a'=Act.mk ts.toArray []∧ts.length=147∧ts.getD 0 undef=.pointer (some ⟨b,0,none⟩)∧ts.getD 1 undef=.int .i64 n∧ts.getD 2 undef=.bool last∧ts.getD 8 undef=u8∧ts.getD 9 undef=.int .i64 i∧ts.getD 10 undef=.pointer (some ⟨c,0,none⟩)∧ts.getD 11 undef=.int .i64 (cls:Nat)∧ts.getD 3 undef=f 3∧ts.getD 4 undef=f 4∧ts.getD 5 undef=f 5∧ts.getD 15 undef=f 15∧ts.getD 16 undef=f 16∧ts.getD 17 undef=f 17∧ts.getD 18 undef=f 18∧ts.getD 19 undef=f 19∧ts.getD 20 undef=f 20∧ts.getD 21 undef=f 21∧ts.getD 22 undef=f 22∧ts.getD 23 undef=f 23∧ts.getD 24 undef=f 24∧ts.getD 25 undef=f 25∧ts.getD 26 undef=f 26∧ts.getD 27 undef=f 27∧ts.getD 28 undef=f 28∧ts.getD 29 undef=f 29∧ts.getD 30 undef=f 30∧ts.getD 31 undef=f 31∧ts.getD 32 undef=f 32∧ts.getD 33 undef=f 33∧ts.getD 146 undef=f 146) (by assumption) ?_ ?_
         ·obtain ⟨fb,rfl⟩:∃ fb:Nat→Value,ts4=[fb 0,fb 1,fb 2,fb 3,fb 4,fb 5,fb 6,fb 7,fb 8,fb 9,fb 10,fb 11,fb 12,fb 13,fb 14,fb 15,fb 16,fb 17,fb 18,fb 19,fb 20,fb 21,fb 22,fb 23,fb 24,fb 25,fb 26,fb 27,fb 28,fb 29,fb 30,fb 31,fb 32,fb 33,fb 34,fb 35,fb 36,fb 37,fb 38,fb 39,fb 40,fb 41,fb 42,fb 43,fb 44,fb 45,fb 46,fb 47,fb 48,fb 49,fb 50,fb 51,fb 52,fb 53,fb 54,fb 55,fb 56,fb 57,fb 58,fb 59,fb 60,fb 61,fb 62,fb 63,fb 64,fb 65,fb 66,fb 67,fb 68,fb 69,fb 70,fb 71,fb 72,fb 73,fb 74,fb 75,fb 76,fb 77,fb 78,fb 79,fb 80,fb 81,fb 82,fb 83,fb 84,fb 85,fb 86,fb 87,fb 88,fb 89,fb 90,fb 91,fb 92,fb 93,fb 94,fb 95,fb 96,fb 97,fb 98,fb 99,fb 100,fb 101,fb 102,fb 103,fb 104,fb 105,fb 106,fb 107,fb 108,fb 109,fb 110,fb 111,fb 112,fb 113,fb 114,fb 115,fb 116,fb 117,fb 118,fb 119,fb 120,fb 121,fb 122,fb 123,fb 124,fb 125,fb 126,fb 127,fb 128,fb 129,fb 130,fb 131,fb 132,fb 133,fb 134,fb 135,fb 136,fb 137,fb 138,fb 139,fb 140,fb 141,fb 142,fb 143,fb 144,fb 145,fb 146]:=⟨fun i=>ts4.getD i undef,iG hlen undef⟩;change fb 0=_ at g0;change fb 1=_ at g1;change fb 2=_ at g2;change fb 8=_ at g8;change fb 9=_ at g9;change fb 10=_ at g10;change fb 11=_ at g11;change fb 3=_ at g3;change fb 4=_ at g4;change fb 5=_ at g5;change fb 15=_ at g15;change fb 16=_ at g16;change fb 17=_ at g17;change fb 18=_ at g18;change fb 19=_ at g19;change fb 20=_ at g20;change fb 21=_ at g21;change fb 22=_ at g22;change fb 23=_ at g23;change fb 24=_ at g24;change fb 25=_ at g25;change fb 26=_ at g26;change fb 27=_ at g27;change fb 28=_ at g28;change fb 29=_ at g29;change fb 30=_ at g30;change fb 31=_ at g31;change fb 32=_ at g32;change fb 33=_ at g33;change fb 146=_ at g146;change fb 112=_ at g112;rw [g0,g1,g2,g8,g9,g10,g11,g3,g4,g5,g15,g16,g17,g18,g19,g20,g21,g22,g23,g24,g25,g26,g27,g28,g29,g30,g31,g32,g33,g146,g112];clear hlen g0 g1 g2 g8 g9 g10 g11 g3 g4 g5 g15 g16 g17 g18 g19 g20 g21 g22 g23 g24 g25 g26 g27 g28 g29 g30 g31 g32 g33 g146 g112;by_cases c01:q3.e=0∧¬ ((cls:Nat):Int)=1
          ·rw [decide_eq_true c01];have hcw:=fM h8 2;rw [show q3.want false 2=(q3.want (decide ((cls:Int)=1)) 2) by rw [decide_eq_false c01.2]] at hcw;refine_lift cC ?_;intro _ _;refine bK hcw fun w9 h9' m9 => ?_;refine_lift aX ?_;exact ⟨rfl,m9,h9',_,rfl,rfl,rfl,rfl,rfl,rfl,rfl,rfl,rfl,rfl,rfl,rfl,rfl,rfl,rfl,rfl,rfl,rfl,rfl,rfl,rfl,rfl,rfl,rfl,rfl,rfl,rfl,rfl,rfl,rfl,rfl,rfl⟩
          ·rw [decide_eq_false c01];have hE:(q3.want (decide ((cls:Int)=1)) 2)=q3:=by
            unfold RdS.want;rw [if_neg];rintro ⟨h1,h2⟩;exact c01 ⟨h1,of_decide_eq_false h2⟩
           refine_lift jS fun _ => ?_;exact ⟨rfl,Mv.refl _ _,by rw [hE];exact h8,_,rfl,rfl,rfl,rfl,rfl,rfl,rfl,rfl,rfl,rfl,rfl,rfl,rfl,rfl,rfl,rfl,rfl,rfl,rfl,rfl,rfl,rfl,rfl,rfl,rfl,rfl,rfl,rfl,rfl,rfl,rfl,rfl⟩
         ·rintro _ w9 ⟨m9,h9',ts5,rfl,hlen,g0,g1,g2,g8,g9,g10,g11,g3,g4,g5,g15,g16,g17,g18,g19,g20,g21,g22,g23,g24,g25,g26,g27,g28,g29,g30,g31,g32,g33,g146⟩;clear g112;obtain ⟨fc,rfl⟩:∃ fc:Nat→Value,ts5=[fc 0,fc 1,fc 2,fc 3,fc 4,fc 5,fc 6,fc 7,fc 8,fc 9,fc 10,fc 11,fc 12,fc 13,fc 14,fc 15,fc 16,fc 17,fc 18,fc 19,fc 20,fc 21,fc 22,fc 23,fc 24,fc 25,fc 26,fc 27,fc 28,fc 29,fc 30,fc 31,fc 32,fc 33,fc 34,fc 35,fc 36,fc 37,fc 38,fc 39,fc 40,fc 41,fc 42,fc 43,fc 44,fc 45,fc 46,fc 47,fc 48,fc 49,fc 50,fc 51,fc 52,fc 53,fc 54,fc 55,fc 56,fc 57,fc 58,fc 59,fc 60,fc 61,fc 62,fc 63,fc 64,fc 65,fc 66,fc 67,fc 68,fc 69,fc 70,fc 71,fc 72,fc 73,fc 74,fc 75,fc 76,fc 77,fc 78,fc 79,fc 80,fc 81,fc 82,fc 83,fc 84,fc 85,fc 86,fc 87,fc 88,fc 89,fc 90,fc 91,fc 92,fc 93,fc 94,fc 95,fc 96,fc 97,fc 98,fc 99,fc 100,fc 101,fc 102,fc 103,fc 104,fc 105,fc 106,fc 107,fc 108,fc 109,fc 110,fc 111,fc 112,fc 113,fc 114,fc 115,fc 116,fc 117,fc 118,fc 119,fc 120,fc 121,fc 122,fc 123,fc 124,fc 125,fc 126,fc 127,fc 128,fc 129,fc 130,fc 131,fc 132,fc 133,fc 134,fc 135,fc 136,fc 137,fc 138,fc 139,fc 140,fc 141,fc 142,fc 143,fc 144,fc 145,fc 146]:=⟨fun i=>ts5.getD i undef,iG hlen undef⟩;change fc 0=_ at g0;change fc 1=_ at g1;change fc 2=_ at g2;change fc 8=_ at g8;change fc 9=_ at g9;change fc 10=_ at g10;change fc 11=_ at g11;change fc 3=_ at g3;change fc 4=_ at g4;change fc 5=_ at g5;change fc 15=_ at g15;change fc 16=_ at g16;change fc 17=_ at g17;change fc 18=_ at g18;change fc 19=_ at g19;change fc 20=_ at g20;change fc 21=_ at g21;change fc 22=_ at g22;change fc 23=_ at g23;change fc 24=_ at g24;change fc 25=_ at g25;change fc 26=_ at g26;change fc 27=_ at g27;change fc 28=_ at g28;change fc 29=_ at g29;change fc 30=_ at g30;change fc 31=_ at g31;change fc 32=_ at g32;change fc 33=_ at g33;change fc 146=_ at g146;rw [g0,g1,g2,g8,g9,g10,g11,g3,g4,g5,g15,g16,g17,g18,g19,g20,g21,g22,g23,g24,g25,g26,g27,g28,g29,g30,g31,g32,g33,g146];clear hlen g0 g1 g2 g8 g9 g10 g11 g3 g4 g5 g15 g16 g17 g18 g19 g20 g21 g22 g23 g24 g25 g26 g27 g28 g29 g30 g31 g32 g33 g146;have hx9:=m9.at hx8 hne;have hpx9:=aA (cs:=[aI nm, .int .i64 (kind:Nat), .int .i64 0,aI []]) hx9;have ho9:=ho8.mv m9 (.inr (ho8.neBlock h8 bG));have hm9:=hm8.trans m9;have hw3:=hq3.want (decide ((cls:Int)=1)) (er:=2) bG;have hN9:wQ s i ⟨nm,kind,cls,q3⟩=(qJ s ⟨nm,kind,cls,q3⟩).2.want (decide ((i:Int) < 200) && decide (aU (yB s ⟨nm,kind,cls,q3⟩)=0)) 2:=rfl;have hR9:yB s ⟨nm,kind,cls,q3⟩=⟨nm,kind,(lV s ⟨nm,kind,cls,q3⟩).1,(qJ s ⟨nm,kind,cls,q3⟩).1⟩:=rfl;have hD9:qJ s ⟨nm,kind,cls,q3⟩=((lV s ⟨nm,kind,cls,q3⟩).2.number s 2).2.data s kind ((lV s ⟨nm,kind,cls,q3⟩).2.number s 2).1:=rfl;have hT9:lV s ⟨nm,kind,cls,q3⟩=(q3.want (decide ((cls:Int)=1)) 2).number s 4:=rfl;generalize q3.want (decide ((cls:Int)=1)) 2=y1 at *;have hy2:=bH (n:=4) hw3 hs8 aE;have hk3:=bQ s y1 4 aE;have hc3:=fun w' (h':dF w' b s y1)=>eU h' hw3 hs8 4 aE aE;generalize y1.number s 4=T at *;obtain ⟨ttl,y2⟩:=T;rw [hT9] at hD9 hR9;dsimp only at *;have hy3:=bH (n:=2) hy2 hs8 aE;have hk4:=bQ s y2 2 aE;have hc4:=fun w' (h':dF w' b s y2)=>eU h' hy2 hs8 2 aE aE;generalize y2.number s 2=D at *;obtain ⟨dl,y3⟩:=D;dsimp only at *;have hk4':dl < 65536:=by simpa using hk4
          have hy4:=HO hy3 hs8 kind (n:=(dl:Nat)) (Int.natCast_nonneg _);have hc5:=fun w' (h':dF w' b s y3)=>WV h' hy3 hs kind (dl:Nat) (Int.natCast_nonneg _) aE;have hdl:=UN (s:=s) hy3 hs8 (kind:Int) (dl:Nat) aE;generalize y3.data s kind (dl:Nat)=E9 at *;obtain ⟨dat,y4⟩:=E9;rw [hD9] at hR9 hN9;dsimp only at *;rw [hR9] at hN9 hg;rw [hN9] at hg;clear hN9 hR9 hD9 hT9;have hy5:=hy4.want (decide ((i:Int) < 200) && decide (aU ⟨nm,kind,ttl,dat⟩=0)) (er:=2) bG;have hc6:=fun w' (h':dF w' b s y4)=>fM h' 2;refine_lift cC fun _ _ => ?_;refine bK (hc3 _ h9') fun w10 h10 m10 => ?_;have hx10:=m10.at hx9 hne;have hpx10:=aA (cs:=[aI nm, .int .i64 (kind:Nat), .int .i64 0,aI []]) hx10;have ho10:=ho9.mv m10 (.inr (ho9.neBlock h9' bG));have hm10:=hm9.trans m10;clear hpx9;refine_lift aX ?_;refine eS 2 (.int .i64 (ttl:Nat)) hx10 rfl fun w11 p11 => ?_;have hx11:w11.heap[c]? = some (.cells [aI nm, .int .i64 (kind:Nat), .int .i64 (ttl:Nat),aI []].toArray 67 (0,0)):=p11.this;have h11:dF w11 b s y2:=p11.mv.at h10 (by intro e;exact hne e.symm);have ho11:=ho10.mv p11.mv hv5;have hm11:=hm10.fresh p11.mv hwc;clear hpx10;refine_lift cC fun _ _ => ?_;refine bK (hc4 _ h11) fun w13 h13 m13 => ?_;have hx13:=m13.at hx11 hne;have hpx13:=aA (cs:=[aI nm, .int .i64 (kind:Nat), .int .i64 (ttl:Nat),aI []]) hx13;have ho13:=ho11.mv m13 (.inr (ho11.neBlock h11 bG));have hm13:=hm11.trans m13;refine_lift cC fun _ _ => ?_;refine bK (hc5 _ h13) fun w14 h14 m14 => ?_;have hx14:=m14.at hx13 hne;have hpx14:=aA (cs:=[aI nm, .int .i64 (kind:Nat), .int .i64 (ttl:Nat),aI []]) hx14;have ho14:=ho13.mv m14 (.inr (ho13.neBlock h13 bG));have hm14:=hm13.trans m14;clear hpx13;refine_lift aX ?_;refine eS 3 (aI dat) hx14 rfl fun w15 p15 => ?_;have hx15:w15.heap[c]? = some (.cells [aI nm, .int .i64 (kind:Nat), .int .i64 (ttl:Nat),aI dat].toArray 67 (0,0)):=p15.this;have hpx15:=aA (cs:=[aI nm, .int .i64 (kind:Nat), .int .i64 (ttl:Nat),aI dat]) hx15;have h15:dF w15 b s y4:=p15.mv.at h14 (by intro e;exact hne e.symm);have hp15:=aA (cs:=jX s y4) h15;have ho15:=ho14.mv p15.mv hv5;have hm15:=hm14.fresh p15.mv hwc;clear hpx14;by_cases c4:y4.e=0
          ·(repeat' first | ((with_reducible refine cQ ?_);go_step) | ((with_reducible refine bM ?_);first | refine gR ?_ | (refine cV ?_ ?_ <;> intro hc)) | fail)
           all_goals first
            | (have hh:False:=aE
               exact hh.elim)
            | (have hh:False:=absurd c4 (by assumption)
               exact hh.elim)
            | skip
           refine cY (BN ⟨nm,kind,ttl,dat⟩ _ (by dsimp only;omega)) fun w16 x16 => ?_;have h16:=x16.at h15;have hx16:=x16.at hx15;have ho16:=ho15.ext x16;have hm16:=hm15.trans (x16.mv _);have hc7:=hc6 _ h16;clear hpx15 hp15;by_cases cK:aU ⟨nm,kind,ttl,dat⟩=0
           ·by_cases ci:(i:Int) < 200
            ·rw [show y4.want (decide ((i:Int) < 200) && decide (aU ⟨nm,kind,ttl,dat⟩=0)) 2=y4 from gY (by rw [decide_eq_true ci,decide_eq_true cK];rfl)] at hg hy5;have hpx16:=aA (cs:=[aI nm, .int .i64 (kind:Nat), .int .i64 (ttl:Nat),aI dat]) hx16;refine_lift RP (fun hc => ?_) (fun hc _ => ?_)
             all_goals first
              | (have hh:False:=aE
                 exact hh.elim)
              | (have hh:False:=by have h9:=‹(!decide (aU ⟨nm,kind,ttl,dat⟩=0))=true›;rw [decide_eq_true cK] at h9;cases h9
                 exact hh.elim)
              | skip
             have hpx17:=aA (cs:=[aI nm, .int .i64 (kind:Nat), .int .i64 (ttl:Nat),aI dat]) hx16;refine_lift aX ?_;refine nG (e:=67) (k:=4) (bytes:=48) (xs:=[.agg #[aI nm, .int .i64 (kind:Nat), .int .i64 (ttl:Nat),aI dat]]) (by simp [Value.cells]) fun u18 w18 x18 _ sl18 o18 => ?_;refine aD ?_;have h18:dF w18 b s y4:=x18.at h16;have ho18:=(ho16).ext x18;have hm18:=(hm16).trans (x18.mv _);refine aZ (v0:=u8) (es:=aJ l) (fs:=[[aI nm, .int .i64 (kind:Nat), .int .i64 (ttl:Nat),aI dat]]) rfl ho18 rfl sl18 (by simp [aI,Value.oneCell']) hm18.size (by simp [aJ];omega) ?_;intro v19 w19 o19 m19 _;refine aD ?_;have h19:dF w19 b s y4:=m19.at h18 (fun e=>(ho18.neBlock h18 bG) e.symm);have hm19:=hm18.fresh' m19 (fun c hc=>(ho18.block c hc).1);refine_lift aX ?_;refine ⟨⟨i + 1,l ++ [⟨nm,kind,ttl,dat⟩],y4,aE,by go_num,by simpa [aJ,Rec.cells] using o19,by simp [hli],h19,hy5,hm19,?_⟩,by simp [intOf];omega⟩;rw [show n - (i + 1)=f' by omega];exact hg
            ·rw [show y4.want (decide ((i:Int) < 200) && decide (aU ⟨nm,kind,ttl,dat⟩=0)) 2=y4.want false 2 by rw [decide_eq_false ci];rfl] at hg hy5;refine_lift RP (fun hc => ?_) (fun hc _ => ?_)
             all_goals first
              | (have hh:False:=aE
                 exact hh.elim)
              | (have hh:False:=by have h9:=‹(!decide (aU ⟨nm,kind,ttl,dat⟩=0))=true›;rw [decide_eq_true cK] at h9;cases h9
                 exact hh.elim)
              | skip
             refine bK hc7 fun w17 h17 m17 => ?_;have hpx17:=aA (cs:=[aI nm, .int .i64 (kind:Nat), .int .i64 (ttl:Nat),aI dat]) (m17.at hx16 hne);refine_lift aX ?_;refine nG (e:=67) (k:=4) (bytes:=48) (xs:=[.agg #[aI nm, .int .i64 (kind:Nat), .int .i64 (ttl:Nat),aI dat]]) (by simp [Value.cells]) fun u18 w18 x18 _ sl18 o18 => ?_;refine aD ?_;have h18:dF w18 b s (y4.want false 2):=x18.at h17;have ho18:=((ho16.mv m17 (.inr (ho16.neBlock h16 bG)))).ext x18;have hm18:=((hm16.trans m17)).trans (x18.mv _);refine aZ (v0:=u8) (es:=aJ l) (fs:=[[aI nm, .int .i64 (kind:Nat), .int .i64 (ttl:Nat),aI dat]]) rfl ho18 rfl sl18 (by simp [aI,Value.oneCell']) hm18.size (by simp [aJ];omega) ?_;intro v19 w19 o19 m19 _;refine aD ?_;have h19:dF w19 b s (y4.want false 2):=m19.at h18 (fun e=>(ho18.neBlock h18 bG) e.symm);have hm19:=hm18.fresh' m19 (fun c hc=>(ho18.block c hc).1);refine_lift aX ?_;refine ⟨⟨i + 1,l ++ [⟨nm,kind,ttl,dat⟩],(y4.want false 2),aE,by go_num,by simpa [aJ,Rec.cells] using o19,by simp [hli],h19,hy5,hm19,?_⟩,by simp [intOf];omega⟩;rw [show n - (i + 1)=f' by omega];exact hg
           ·rw [show y4.want (decide ((i:Int) < 200) && decide (aU ⟨nm,kind,ttl,dat⟩=0)) 2=y4.want false 2 by rw [decide_eq_false cK,Bool.and_false]] at hg hy5;refine_lift ED (fun hc _ => ?_) (fun hc => ?_) (fun hc _ => ?_)
            all_goals first
             | (have hh:False:=aE
                exact hh.elim)
             | (have hh:False:=by have h9:=‹(!decide (aU ⟨nm,kind,ttl,dat⟩=0))=false›;rw [decide_eq_false cK] at h9;cases h9
                exact hh.elim)
             | skip
            refine bK hc7 fun w17 h17 m17 => ?_;have hpx17:=aA (cs:=[aI nm, .int .i64 (kind:Nat), .int .i64 (ttl:Nat),aI dat]) (m17.at hx16 hne);refine_lift aX ?_;refine nG (e:=67) (k:=4) (bytes:=48) (xs:=[.agg #[aI nm, .int .i64 (kind:Nat), .int .i64 (ttl:Nat),aI dat]]) (by simp [Value.cells]) fun u18 w18 x18 _ sl18 o18 => ?_;refine aD ?_;have h18:dF w18 b s (y4.want false 2):=x18.at h17;have ho18:=((ho16.mv m17 (.inr (ho16.neBlock h16 bG)))).ext x18;have hm18:=((hm16.trans m17)).trans (x18.mv _);refine aZ (v0:=u8) (es:=aJ l) (fs:=[[aI nm, .int .i64 (kind:Nat), .int .i64 (ttl:Nat),aI dat]]) rfl ho18 rfl sl18 (by simp [aI,Value.oneCell']) hm18.size (by simp [aJ];omega) ?_;intro v19 w19 o19 m19 _;refine aD ?_;have h19:dF w19 b s (y4.want false 2):=m19.at h18 (fun e=>(ho18.neBlock h18 bG) e.symm);have hm19:=hm18.fresh' m19 (fun c hc=>(ho18.block c hc).1);refine_lift aX ?_;refine ⟨⟨i + 1,l ++ [⟨nm,kind,ttl,dat⟩],(y4.want false 2),aE,by go_num,by simpa [aJ,Rec.cells] using o19,by simp [hli],h19,hy5,hm19,?_⟩,by simp [intOf];omega⟩;rw [show n - (i + 1)=f' by omega];exact hg
          ·rw [show y4.want (decide ((i:Int) < 200) && decide (aU ⟨nm,kind,ttl,dat⟩=0)) 2=y4 by unfold RdS.want;rw [if_neg (fun h=>c4 h.1)]] at hg hy5
           (repeat' first | ((with_reducible refine cQ ?_);go_step) | ((with_reducible refine bM ?_);first | refine gR ?_ | (refine cV ?_ ?_ <;> intro hc)) | fail)
           all_goals first
            | (have hh:False:=absurd (by assumption) c4
               exact hh.elim)
            | skip
           have hpx17:=aA (cs:=[aI nm, .int .i64 (kind:Nat), .int .i64 (ttl:Nat),aI dat]) hx15;refine_lift aX ?_;refine nG (e:=67) (k:=4) (bytes:=48) (xs:=[.agg #[aI nm, .int .i64 (kind:Nat), .int .i64 (ttl:Nat),aI dat]]) (by simp [Value.cells]) fun u18 w18 x18 _ sl18 o18 => ?_;refine aD ?_;have h18:dF w18 b s y4:=x18.at h15;have ho18:=(ho15).ext x18;have hm18:=(hm15).trans (x18.mv _);refine aZ (v0:=u8) (es:=aJ l) (fs:=[[aI nm, .int .i64 (kind:Nat), .int .i64 (ttl:Nat),aI dat]]) rfl ho18 rfl sl18 (by simp [aI,Value.oneCell']) hm18.size (by simp [aJ];omega) ?_;intro v19 w19 o19 m19 _;refine aD ?_;have h19:dF w19 b s y4:=m19.at h18 (fun e=>(ho18.neBlock h18 bG) e.symm);have hm19:=hm18.fresh' m19 (fun c hc=>(ho18.block c hc).1);refine_lift aX ?_;refine ⟨⟨i + 1,l ++ [⟨nm,kind,ttl,dat⟩],y4,aE,by go_num,by simpa [aJ,Rec.cells] using o19,by simp [hli],h19,hy5,hm19,?_⟩,by simp [intOf];omega⟩;rw [show n - (i + 1)=f' by omega];exact hg
     ·obtain ⟨f',hf'⟩:∃ f',n - i=f' + 1:=⟨n - i - 1,aE⟩;rw [hf'] at hg;unfold iN at hg;rw [if_pos c2] at hg;refine_lift RP (fun hc => ?_) (fun hc _ => ?_)
      all_goals first
       | (have hh:False:=aE
          exact hh.elim)
       | (have hh:False:=absurd (by assumption) c2
          exact hh.elim)
       | skip
      go_ret2;rw [← hg];exact ⟨_,rfl,ho,hR,hm⟩
    ·have hg2:(l,0,r')=RES:=by rw [← hg,show n - i=0 by omega];rfl
     refine_lift jS fun hc => ?_
     all_goals first
      | (have hh:False:=aE
         exact hh.elim)
      | fail
      | skip
     go_ret2;rw [← hg2];exact ⟨_,rfl,ho,hR,hm⟩
def GA (s:List UInt8):Nat × RdS:=(fW s).2.number s 1
def uX (s:List UInt8):Nat × RdS:=(GA s).2.number s 1
def US (s:List UInt8):RdS:=(uX s).2.want (decide ((uX s).1 / 16 % 8=0)) 2
def rH (s:List UInt8):Nat × RdS:=(US s).number s 2
def tL (s:List UInt8):Nat × RdS:=(rH s).2.number s 2
def tM (s:List UInt8):Nat × RdS:=(tL s).2.number s 2
def wU (s:List UInt8):Nat × RdS:=(tM s).2.number s 2
def WW (s:List UInt8):RdS:=(wU s).2.want (decide (((rH s).1:Int)≤10)) 2
def UO (s:List UInt8):List rC × RdS:=DA s (rH s).1 [] (WW s)
def CV (s:List UInt8):List Rec × Nat × RdS:=dX s (UO s).2 (tL s).1 false
def CW (s:List UInt8):List Rec × Nat × RdS:=dX s (CV s).2.2 (tM s).1 false
def zQ (s:List UInt8):List Rec × Nat × RdS:=dX s (CW s).2.2 (wU s).1 true
def XR (s:List UInt8):RdS:=(zQ s).2.2.want (decide ((zQ s).2.2.at_=(s.length:Int))) 2
def wV (s:List UInt8):MsgR × Int :=
 if (XR s).e=0 then (⟨((fW s).1:Nat),decide (128≤(GA s).1),(((GA s).1 / 8 % 16:Nat):Int),decide ((GA s).1 / 4 % 2=1),decide ((GA s).1 / 2 % 2=1),decide ((GA s).1 % 2=1),decide (128≤(uX s).1),(((uX s).1 % 16:Nat):Int),(UO s).1,(CV s).1,(CW s).1,(zQ s).1,((zQ s).2.1:Nat)⟩,0)
 else (Aq,(XR s).e)
theorem kM {r:RdS} {is:Bool} {e:Int} (h:¬ r.e=0):r.want is e=r:=by
 unfold RdS.want;rw [if_neg (fun c=>h c.1)]
theorem HX {r:RdS} (h:¬ r.e=0) (f:Nat) (l:List rC):DA s f l r=(l,r):=by
 cases f with
 | zero=>rfl
 | succ f=>unfold DA;rw [if_pos h]
theorem jB {r:RdS} (h:¬ r.e=0) (n:Nat) (last:Bool):dX s r n last=([],0,r):=by
 unfold dX;rw [kM h];cases n with
 | zero=>rfl
 | succ n=>unfold iN;rw [if_pos h]
theorem LD (a b:UInt8):numN [a,b]=a.toNat * 256 + b.toNat:=by simp [numN]
theorem HY {r:RdS} (h0:0≤r.at_) (h:(r.number s 2).2.e=0):∃ a b:UInt8,r.number s 1=(a.toNat,⟨r.at_ + 1,0⟩)∧RdS.number s ⟨r.at_ + 1,0⟩ 1=(b.toNat,⟨r.at_ + 2,0⟩)∧r.number s 2=(a.toNat * 256 + b.toNat,⟨r.at_ + 2,0⟩):=by
 obtain ⟨e0,hl,h2⟩:=iV h;obtain ⟨p,hp⟩:∃ p:Nat,r.at_=(p:Int):=⟨r.at_.toNat,aE⟩;have hr:r=⟨(p:Int),0⟩:=by
  cases r
  simp only at hp e0;rw [hp,e0]
 rw [hr] at hl ⊢;dsimp only at hl ⊢;have hb:s.drop p=s[p]'(aE) :: s[p + 1]'(aE) :: s.drop (p + 2):=by
  rw [List.drop_eq_getElem_cons aE,List.drop_eq_getElem_cons aE]
 have hS:Stands s p ([s[p]'(aE)] ++ [s[p + 1]'(aE)]):=⟨s.take p,s.drop (p + 2),by
  have:=List.take_append_drop p s;rw [hb] at this
  simp,by rw [List.length_take];omega⟩
 refine ⟨s[p]'(aE),s[p + 1]'(aE),hS.left.byte,?_,?_⟩
 ·have:=hS.right.byte;have e1:(p:Int) + 1=((p + 1:Nat):Int):=aE;have e2:(p:Int) + 2=((p + 1 + 1:Nat):Int):=aE;rw [e1,e2];exact this
 ·have:=hS.number 2 rfl;rw [show [s[p]'(aE)] ++ [s[p + 1]'(aE)]=[s[p]'(aE),s[p + 1]'(aE)] from rfl,LD] at this;exact this
def OJ (a b:Nat):Bool :=
 (Nat.beq ((a * 256 + b) &&& 112) 0 == Nat.beq (b / 16 % 8) 0) && ((!Nat.beq ((a * 256 + b) &&& 32768) 0) == Nat.ble 128 a) && Nat.beq ((a * 256 + b) / 2048 &&& 15) (a / 8 % 16) && ((!Nat.beq ((a * 256 + b) &&& 1024) 0) == Nat.beq (a / 4 % 2) 1) && ((!Nat.beq ((a * 256 + b) &&& 512) 0) == Nat.beq (a / 2 % 2) 1) && ((!Nat.beq ((a * 256 + b) &&& 256) 0) == Nat.beq (a % 2) 1) && ((!Nat.beq ((a * 256 + b) &&& 128) 0) == Nat.ble 128 b) && Nat.beq ((a * 256 + b) &&& 15) (b % 16)
theorem UP:((List.range 256).all fun a=>(List.range 256).all fun b=>OJ a b)=true:=aR
theorem QS (f k:Nat):bA f k = !Nat.beq (f &&& k) 0:=by
 unfold bA
 congr 1
 rw [Bool.eq_iff_iff,decide_eq_true_eq];constructor
 ·intro h;rw [Int.natCast_eq_zero.1 h];rfl
 ·intro h;exact Int.natCast_eq_zero.2 (Nat.eq_of_beq_eq_true h)
theorem HZ (a b:Nat):Nat.beq a b=decide (a=b):=by
 rw [Bool.eq_iff_iff,decide_eq_true_eq];exact ⟨Nat.eq_of_beq_eq_true,fun h=>by rw [h];exact Nat.beq_refl b⟩
theorem WX (a b:Nat):Nat.ble a b=decide (a≤b):=by
 rw [Bool.eq_iff_iff,decide_eq_true_eq];exact ⟨Nat.le_of_ble_eq_true,Nat.ble_eq_true_of_le⟩
theorem GB (a b:Nat) (ha:a < 256) (hb:b < 256):decide ((a * 256 + b) &&& 112=0)=decide (b / 16 % 8=0)∧bA (a * 256 + b) 32768=decide (128≤a)∧(a * 256 + b) / 2048 &&& 15=a / 8 % 16∧bA (a * 256 + b) 1024=decide (a / 4 % 2=1)∧bA (a * 256 + b) 512=decide (a / 2 % 2=1)∧bA (a * 256 + b) 256=decide (a % 2=1)∧bA (a * 256 + b) 128=decide (128≤b)∧(a * 256 + b) &&& 15=b % 16:=by
 have h:=List.all_eq_true.1 (List.all_eq_true.1 UP a (List.mem_range.2 ha)) b (List.mem_range.2 hb);simp only [OJ,Bool.and_eq_true,beq_iff_eq] at h;obtain ⟨⟨⟨⟨⟨⟨⟨h1,h2⟩,h3⟩,h4⟩,h5⟩,h6⟩,h7⟩,h8⟩:=h;rw [HZ,HZ] at h1;rw [← QS] at h2 h4 h5 h6 h7;rw [WX] at h2 h7;rw [HZ] at h4 h5 h6;exact ⟨h1,h2,Nat.eq_of_beq_eq_true h3,h4,h5,h6,h7,Nat.eq_of_beq_eq_true h8⟩
theorem NA (s:List UInt8):wV s=dD s:=by
 have hr1:0≤(fW s).2.at_:=by
  unfold fW RdS.number RdS.take IC;dsimp only;split
  ·exact Int.le_refl _
  ·split <;> simp
 by_cases he:(fP s).2.e=0
 ·obtain ⟨a,b,h1,h2,h3⟩:=HY hr1 he;have hA:GA s=(a.toNat,⟨(fW s).2.at_ + 1,0⟩):=h1;have hB:uX s=(b.toNat,⟨(fW s).2.at_ + 2,0⟩):=by unfold uX;rw [hA];exact h2
  have hF:fP s=(a.toNat * 256 + b.toNat,⟨(fW s).2.at_ + 2,0⟩):=h3;obtain ⟨b1,b2,b3,b4,b5,b6,b7,b8⟩:=GB a.toNat b.toNat (UInt8.toNat_lt _) (UInt8.toNat_lt _);have hW:US s=OB s:=by
   unfold US OB;rw [hB,hF];dsimp only;rw [← b1];exact congrArg (fun z=>RdS.want _ z 2) (decide_eq_decide.2 ⟨fun h=>by rw [h];rfl,fun h=>by omega⟩)
  have k1:rH s=lN s:=by unfold rH lN;rw [hW]
  have k2:tL s=qK s:=by unfold tL qK;rw [k1]
  have k3:tM s=sL s:=by unfold tM sL;rw [k2]
  have k4:wU s=uT s:=by unfold wU uT;rw [k3]
  have k5:WW s=QA s:=by unfold WW QA;rw [k4,k1]
  have k6:UO s=KO s:=by unfold UO KO;rw [k5,k1]
  have k7:CV s=TS s:=by unfold CV TS;rw [k6,k2]
  have k8:CW s=TT s:=by unfold CW TT;rw [k7,k3]
  have k9:zQ s=HP s:=by unfold zQ HP;rw [k8,k4]
  have k10:XR s=TU s:=by unfold XR TU;rw [k9]
  unfold wV dD;rw [k10,k9,k8,k7,k6,hA,hB,hF];dsimp only;rw [b2,b3,b4,b5,b6,b7,b8]
 ·have hE:(uX s).2.e=(fP s).2.e∧¬ (uX s).2.e=0:=by
   by_cases h0:(fW s).2.e=0
   ·have h3:(fP s).2.e=3:=by
     unfold fP RdS.number RdS.take at he ⊢;rw [if_neg (by simpa using h0)] at he ⊢;split
     ·rfl
     ·rename_i c;rw [if_neg c] at he;exact absurd rfl he
    have hl:(s.length:Int) - (fW s).2.at_ < 2:=by
     apply Decidable.byContradiction;intro hc;apply he;unfold fP RdS.number RdS.take;rw [if_neg (by simpa using h0),if_neg hc]
    have h4:(uX s).2.e=3:=by
     unfold uX;by_cases ha:(GA s).2.e=0
     ·obtain ⟨_,_,h5⟩:=iV (r:=(fW s).2) (n:=1) ha;have h6:(GA s).2=⟨(fW s).2.at_ + 1,0⟩:=h5;rw [h6];unfold RdS.number RdS.take;rw [if_neg bP,if_pos (by dsimp only;omega)]
     ·rw [eN ha];unfold GA RdS.number RdS.take at ha ⊢;rw [if_neg (by simpa using h0)] at ha ⊢;split
      ·rfl
      ·rename_i c;rw [if_neg c] at ha;exact absurd rfl ha
    exact ⟨h4.trans h3.symm,by rw [h4];decide⟩
   ·have h1:fP s=(0,(fW s).2):=eN h0;have h2:GA s=(0,(fW s).2):=eN h0;have h3:uX s=(0,(fW s).2):=by unfold uX;rw [h2];exact eN h0
    rw [h1,h3];exact ⟨rfl,h0⟩
  obtain ⟨hE1,hE2⟩:=hE;have j0:US s=(uX s).2:=kM hE2;have j1:rH s=(0,(uX s).2):=by unfold rH;rw [j0];exact eN hE2
  have j2:tL s=(0,(uX s).2):=by unfold tL;rw [j1];exact eN hE2
  have j3:tM s=(0,(uX s).2):=by unfold tM;rw [j2];exact eN hE2
  have j4:wU s=(0,(uX s).2):=by unfold wU;rw [j3];exact eN hE2
  have j5:WW s=(uX s).2:=by unfold WW;rw [j4];exact kM hE2
  have j6:(UO s).2=(uX s).2:=by unfold UO;rw [j5,HX hE2]
  have j7:(CV s).2.2=(uX s).2:=by unfold CV;rw [j6,jB hE2]
  have j8:(CW s).2.2=(uX s).2:=by unfold CW;rw [j7,jB hE2]
  have j9:(zQ s).2.2=(uX s).2:=by unfold zQ;rw [j8,jB hE2]
  have j10:XR s=(uX s).2:=by unfold XR;rw [j9];exact kM hE2
  have i0:OB s=(fP s).2:=kM he;have i1:lN s=(0,(fP s).2):=by unfold lN;rw [i0];exact eN he
  have i2:qK s=(0,(fP s).2):=by unfold qK;rw [i1];exact eN he
  have i3:sL s=(0,(fP s).2):=by unfold sL;rw [i2];exact eN he
  have i4:uT s=(0,(fP s).2):=by unfold uT;rw [i3];exact eN he
  have i5:QA s=(fP s).2:=by unfold QA;rw [i4];exact kM he
  have i6:(KO s).2=(fP s).2:=by unfold KO;rw [i5,HX he]
  have i7:(TS s).2.2=(fP s).2:=by unfold TS;rw [i6,jB he]
  have i8:(TT s).2.2=(fP s).2:=by unfold TT;rw [i7,jB he]
  have i9:(HP s).2.2=(fP s).2:=by unfold HP;rw [i8,jB he]
  have i10:TU s=(fP s).2:=by unfold TU;rw [i9];exact kM he
  unfold wV dD;rw [j10,i10,if_neg hE2,if_neg he,hE1]
end Go.Proofs.X
