/- Laws and walks that the proof of the statement is made of (part 8). -/
import Derived.Test.YtgljkfpcadempaaGreatP7
set_option linter.unusedSimpArgs false
set_option linter.unusedVariables false
namespace Go.Proofs.X
open Go.RowKit
set_option maxRecDepth 100000
set_option maxHeartbeats 24000000 in
theorem EK (r:Rec) (w:World) (hl:r.data.length≤4611686018427387904):Calls Tryz.prog 131 #[.agg #[aI r.name, .int .i64 r.kind, .int .i64 r.ttl,aI r.data]] w (bM w (.int .i64 (bC r))):=by
 go_enter Tryz.func131,Tryz.ntmps131
 refine_lift lF fun _ _ => ?_
 refine bJ (vs:=Rec.cells r) rfl rfl ?_
 intro p w1 x1 hp
 refine aA ?_
 have hp:Pts w1 p [aI r.name, .int .i64 r.kind, .int .i64 r.ttl,aI r.data]:=hp
 refine_lift oQ fun _ _ _ _ => ?_
 refine aD (enters_of Tryz.func75 rfl rfl) rfl rfl (pE r.name _) ?_;intro w2 x2;refine aA ?_
 have hp:=hp.ext x2
 have x2:=x1.trans x2
 cases hlab:(aV r.name).isSome with
 | false =>
  simp only [Bool.false_eq_true,↓reduceIte]
  refine_lift bR ?_
  go_ret
  refine ⟨?_,x2⟩
  have:bC r=1:=by unfold bC;simp [hlab]
  rw [this];rfl
 | true =>
  simp only [↓reduceIte]
  (repeat' first | ((with_reducible refine cY ?_);go_step) | ((with_reducible refine cJ ?_);first | refine eS ?_ | (refine dD ?_ ?_ <;> intro hc)) | fail)
  rotate_left
  ·have:bC r=1:=by simp [bC,hc]
   go_ret
   exact ⟨by rw [this];rfl,x2⟩
  ·have:bC r=1:=by simp [bC,hc]
   go_ret
   exact ⟨by rw [this];rfl,x2⟩
  ·have:bC r=1:=by simp [bC,hc]
   go_ret
   exact ⟨by rw [this];rfl,x2⟩
  ·have:bC r=1:=by simp [bC,hc]
   go_ret
   exact ⟨by rw [this];rfl,x2⟩
  ·have:bC r=1:=by simp [bC,hc]
   go_ret
   exact ⟨by rw [this];rfl,x2⟩
  ·have:bC r=1:=by simp [bC,hc]
   go_ret
   exact ⟨by rw [this];rfl,x2⟩
  ·have:bC r=1:=by simp [bC,hc]
   go_ret
   exact ⟨by rw [this];rfl,x2⟩
  ·have:bC r=1:=by simp [bC,hc]
   go_ret
   exact ⟨by rw [this];rfl,x2⟩
  ·have q1:=‹¬r.kind < 1›
   have q2:=‹¬65535 < r.kind›
   have q3:=‹¬r.kind=41›
   have q4:=‹¬r.kind=251›
   have q5:=‹¬r.kind=252›
   have q6:=‹¬r.kind=255›
   have q7:=‹¬r.ttl < 0›
   have q8:=‹¬2147483647 < r.ttl›
   refine aD (enters_of Tryz.func179 rfl rfl) rfl rfl (OY r.kind r.data _ hl) ?_;intro w3 x3;refine aA ?_
   cases hf:(decide (r.data.length≤4000) && fits r.kind r.data) with
   | true =>
    simp only [Bool.and_eq_true,decide_eq_true_eq] at hf
    have:bC r=0:=by simp [bC,q1,q2,q3,q4,q5,q6,q7,q8,hf.2,hlab];omega
    refine_lift bR ?_
    go_ret
    exact ⟨by rw [this];rfl,x2.trans x3⟩
   | false =>
    have:bC r=1:=by
     simp only [Bool.and_eq_false_iff,decide_eq_false_iff_not] at hf
     rcases hf with hf | hf
     ·simp [bC,show 4000 < r.data.length by omega]
     ·simp [bC,hf]
    refine_lift bR ?_
    go_ret
    exact ⟨by rw [this];rfl,x2.trans x3⟩
theorem JY {r q:Rec} {w:World}:(Op.equalIn 10000 106 (.agg #[aI r.name, .int .i64 r.kind, .int .i64 r.ttl,aI r.data]) (.agg #[aI q.name, .int .i64 q.kind, .int .i64 q.ttl,aI q.data])).run Tryz.prog w=.ok (decide (r=q)) w:=by
 have hS:Tryz.prog.underlying 106=some (.struct (Tryz.prog.fieldsOf 106)):=by kernel_rfl
 rw [show (10000:Nat)=9999 + 1 from rfl,run_equalIn_agg w 9999 106 _ _ hS (by kernel_rfl)]
 simp only [Program.fieldsOf,Tryz.underlying106]
 have u3:=Tryz.underlying3
 have u9:=Tryz.underlying9
 have u31:=Tryz.underlying47
 have a3:=Tryz.isAgg3
 have a9:=Tryz.isAgg9
 have a31:=Tryz.isAgg47
 have z3:=Tryz.sizeOf3
 have z9:=Tryz.sizeOf9
 have z31:=Tryz.sizeOf47
 unfold aI
 go_simp
 obtain ⟨a1,a2,a3,a4⟩:=r
 obtain ⟨b1,b2,b3,b4⟩:=q
 simp only [Rec.mk.injEq]
 by_cases h1:a1=b1 <;> by_cases h2:a2=b2 <;> by_cases h3:a3=b3 <;> by_cases h4:a4=b4 <;> simp [h1,h2,h3,h4]
theorem Runs.neqRec {r q:Rec} {x y:Operand} {a:Act} {w:World} {d:Option Nat} {u ty:TypeId} {ps:String} {af:Array Edge} {g:Option (Nat × Bool)}
 (hx:a.eval x=.agg #[aI r.name, .int .i64 r.kind, .int .i64 r.ttl,aI r.data]) (hy:a.eval y=.agg #[aI q.name, .int .i64 q.kind, .int .i64 q.ttl,aI q.data]) :
 Runs Tryz.prog (Oper.mk d (.binOp .neq 106 x y u) ty ps af g) a w (.bool (!decide (r=q))):=by
 constructor
 have hg:=run_eqGuard_agg (P:=Tryz.prog) w .neq 106 x y #[aI r.name, .int .i64 r.kind, .int .i64 r.ttl,aI r.data] #[aI q.name, .int .i64 q.kind, .int .i64 q.ttl,aI q.data] (by kernel_rfl)
 simp only [execOp,hx,hy,Sem.run_bind,hg,Result.andThen_ok,run_neq_struct,JY,Sem.run_pure]
set_option maxHeartbeats 12000000 in
theorem CK (u v:Value) (a b:List Rec) (w:World) (hu:Sl 4 w u (aO a)) (hv:Sl 4 w v (aO b)):Calls Tryz.prog 28 #[u,v] w (bM w (.bool (decide (a=b)))):=by
 have la:=aQ a
 have lb:=aQ b
 have hla:=hu.le
 have hlb:=hv.le
 by_cases hl:a.length=b.length
 ·go_enter Tryz.func28,Tryz.ntmps28
  refine_lift DY (fun _ _ _ => ?_) (fun _ => ?_)
  ·have hbad:=‹(!decide (((aO a).length:Int)=((aO b).length:Int)))=true›
   exfalso;simp at hbad;omega
  go_loopw [5] (fun i wr=>∃ k:Nat,k≤a.length∧i=.int .i64 k∧Ext w wr∧a.take k=b.take k) (fun i _=>a.length - (intOf i).toNat)
  case atStart=>exact ⟨0,Nat.zero_le _,rfl,Ext.refl _,rfl⟩
  case round =>
   obtain ⟨k,hk,rfl,hx,hall⟩:=hrel
   by_cases hlt:k < a.length
   ·have hlt2:k < b.length:=by omega
    have hpa:=(hu.ext hx).elem (gJ hlt)
    have hpb:=(hv.ext hx).elem (gJ hlt2)
    have hua:=hu.ext hx
    have hvb:=hv.ext hx
    refine_lift xG ?_;intro _ _ _ _ _ _
    refine cB (by decide +kernel) (by decide +kernel) ?_
    refine_lift jN ?_
    refine vW (v:=.bool (!decide (a[k]=b[k]))) rfl (fun w' _=>Runs.neqRec rfl rfl) ?_
    refine aA ?_
    refine_lift jN ?_
    intro w3 x3
    refine_lift xD (fun _ => ?_) (fun _ => ?_)
    ·have hne:=‹(!decide (a[k]=b[k]))=true›
     have hab:a≠b:=xQ hlt hlt2 (by simpa using hne)
     go_ret
     exact ⟨by rw [decide_eq_false hab];rfl,hx.trans x3⟩
    ·have heq:=‹(!decide (a[k]=b[k]))=false›
     exact ⟨⟨k + 1,by omega,by go_num,hx.trans x3,iJ hall hlt hlt2 (by simpa using heq)⟩,by simp [intOf];omega⟩
   ·have:k=a.length:=by omega
    subst this
    have hab:a=b:=by rw [List.take_length,hl,List.take_length] at hall;exact hall
    refine_lift jP fun _ => ?_
    go_ret
    exact ⟨by rw [decide_eq_true hab];rfl,hx⟩
 ·have hab:a≠b:=fun h=>hl (by rw [h])
  go_enter Tryz.func28,Tryz.ntmps28
  refine_lift DY (fun _ _ _ => ?_) (fun _ => ?_)
  ·go_ret
   exact ⟨by rw [decide_eq_false hab];rfl,Ext.refl _⟩
  ·have hbad:=‹(!decide (((aO a).length:Int)=((aO b).length:Int)))=false›
   exfalso;simp at hbad;omega
def gL (n:List UInt8):Nat:=((aV n).getD []).length
def iM (o n:List UInt8) (b:List UInt8 × Bool) (s:RSet):List UInt8 × Bool :=
 if s.kind=2∧s.name≠o∧bQ n s.name=true∧(b.2=false∨gL s.name < gL b.1) then (s.name,true) else b
def kI (o:List UInt8) (l:List RSet) (n:List UInt8):List UInt8 × Bool:=l.foldl (iM o n) ([],false)
theorem MB {o n:List UInt8} {l:List RSet} {k:Nat} (hk:k < l.length):kI o (l.take (k + 1)) n=iM o n (kI o (l.take k) n) l[k]:=by
 rw [List.take_succ_eq_append_getElem hk,kI,List.foldl_append];rfl
set_option maxHeartbeats 3000000 in
theorem CL (o:List UInt8) (v:Value) (l:List RSet) (n:List UInt8) (w:World) (hv:SetsAt w v l):Calls Tryz.prog 137 #[.agg #[aI o,v],aI n] w (bM w (.tuple #[aI (kI o l n).1, .bool (kI o l n).2])):=by
 obtain ⟨cv,hv1,hvl⟩:=hv.sl
 have hle:=hv1.le
 go_enter Tryz.func137,Tryz.ntmps137
 refine_lift lF fun _ _ => ?_
 refine bJ (vs:=[aI o,v]) rfl rfl ?_
 intro p w1 x1 hp
 refine aA ?_
 refine_lift dR fun _ _ => ?_
 go_loopw [6,7,8,9] (fun b f i _ wr=>∃ k:Nat,k≤l.length∧i=.int .i64 k∧b=aI (kI o (l.take k) n).1∧f=.bool (kI o (l.take k) n).2∧Ext w1 wr) (fun _ _ i _ _=>l.length - (intOf i).toNat)
 case atStart=>exact ⟨0,Nat.zero_le _,rfl,rfl,rfl,Ext.refl _⟩
 case round =>
  obtain ⟨k,hk,rfl,rfl,rfl,hx⟩:=hrel
  have hxw:Ext w wr:=x1.trans hx
  have hv2:=hv1.ext hxw
  have hp2:=hp.ext hx
  by_cases hlt:k < l.length
  ·obtain ⟨x,h4,h4d⟩:=(hv.ext hxw).elem (List.getElem?_eq_getElem hlt)
   refine_lift xG ?_;intro _ _ _ _ _ _
   refine aL (z:=fX) rfl (by decide +kernel) ?_
   intro w2 x2 s2 h2
   refine aA ?_
   refine aG (v:=.agg #[aI l[k].name, .int .i64 l[k].kind, .int .i64 l[k].ttl,x]) rfl rfl rfl h2 (show aR Tryz.prog 131 4=true by decide +kernel) rfl (eR rfl rfl rfl (h4d.ext x2).one) ?_
   intro w3 p3
   have x3:Ext wr w3:=x2.move p3.mv (by rintro k ⟨⟩;have:=hxw.size;omega)
   have h3:Pts w3 (.pointer (some ⟨wr.heap.size,0,none⟩)) [aI l[k].name, .int .i64 l[k].kind, .int .i64 l[k].ttl,x]:=aE p3.this
   have hp3:=hp2.ext x3
   have hstep:=MB (o:=o) (n:=n) hlt
   generalize hg:kI o (l.take k) n=g at *
   obtain ⟨best,found⟩:=g
   have hsame:¬ (l[k].kind=2∧l[k].name≠o∧bQ n l[k].name=true∧(found=false∨gL l[k].name < gL best))→kI o (l.take (k + 1)) n=(best,found):=fun h=>by
    rw [hstep,iM,if_neg h]
   have hnew:(l[k].kind=2∧l[k].name≠o∧bQ n l[k].name=true∧(found=false∨gL l[k].name < gL best))→kI o (l.take (k + 1)) n=(l[k].name,true):=fun h=>by
    rw [hstep,iM,if_pos h]
   refine_lift DZ (fun hc hc => ?_) (fun hc => ?_) (fun _ _ hc hc => ?_)
   ·have hne:l[k].name≠o:=by simpa using hc
    have hk2:l[k].kind=2:=by assumption
    refine aD (enters_of Tryz.func52 rfl rfl) rfl rfl (mS _ _ _) ?_;intro w4 x4;refine aA ?_
    have hx4:=hx.trans (x3.trans x4)
    have h5:=h3.ext x4
    cases hu:bQ n l[k].name with
    | false =>
     refine_lift bR ?_
     have h:=hsame (fun h=>absurd h.2.2.1 (by rw [hu];decide))
     exact ⟨⟨k + 1,by omega,by go_num,by rw [h],by rw [h],hx4⟩,by simp [intOf];omega⟩
    | true =>
     cases found with
     | false =>
      refine_lift bR ?_
      have h:=hnew ⟨hk2,hne,hu, .inl rfl⟩
      exact ⟨⟨k + 1,by omega,by go_num,by rw [h],by rw [h],hx4⟩,by simp [intOf];omega⟩
     | true =>
      refine_lift bR ?_
      refine aK (enters_of Tryz.func53 rfl rfl) rfl rfl (mP l[k].name _) ?_
      intro v5 w5 x5 o5
      have hl5:=bA ((aV l[k].name).getD [])
      have hs5:=o5.sl
      have h6:=h5.ext x5
      refine aA ?_
      refine_lift bR ?_
      refine aK (enters_of Tryz.func53 rfl rfl) rfl rfl (mP best _) ?_
      intro v6 w6 x6 o6
      have hl6:=bA ((aV best).getD [])
      have hs6:=o6.sl
      have h7:=h6.ext x6
      have hx7:=hx4.trans (x5.trans x6)
      refine aA ?_
      refine_lift xD (fun _ => ?_) (fun _ => ?_)
      ·rename_i hh
       have h:=hnew ⟨hk2,hne,hu, .inr (by simp only [gL];omega)⟩
       exact ⟨⟨k + 1,by omega,by go_num,by rw [h],by rw [h],hx7⟩,by simp [intOf];omega⟩
      ·rename_i hh
       have h:=hsame (fun h=>by have h8:=h.2.2.2;simp only [gL] at h8;rcases h8 with h8 | h8;cases h8;omega)
       exact ⟨⟨k + 1,by omega,by go_num,by rw [h],by rw [h],hx7⟩,by simp [intOf];omega⟩
   ·have h:=hsame (fun h=>by first | exact absurd h.1 hc | exact h.2.1 (by simpa using hc))
    exact ⟨⟨k + 1,by omega,by go_num,by rw [h],by rw [h],hx.trans x3⟩,by simp [intOf];omega⟩
   ·have h:=hsame (fun h=>by first | exact absurd h.1 hc | exact h.2.1 (by simpa using hc))
    exact ⟨⟨k + 1,by omega,by go_num,by rw [h],by rw [h],hx.trans x3⟩,by simp [intOf];omega⟩
  ·have:k=l.length:=by omega
   subst this
   rw [List.take_length]
   refine_lift jP fun _ => ?_
   go_ret2
   exact ⟨rfl,hxw⟩
def oH (o:List UInt8) (l:List RSet) (s:RSet):Bool :=
 !(kI o l s.name).2 || decide (s.kind=1) || decide (s.kind=28) || (decide (s.kind=2) && decide (s.name=(kI o l s.name).1))
def lJ (s t:RSet):Bool:=decide (t.name=s.name) && decide (t.kind≠5)
def dZ (o:List UInt8) (l:List RSet) (s:RSet):Bool :=
 bQ s.name o && !(decide (s.kind=6) && (decide (s.name≠o) || decide (s.data.length≠1))) && !(decide (s.kind=5) && (decide (s.data.length≠1) || l.any (lJ s))) && oH o l s
set_option maxHeartbeats 3000000 in
theorem MC (o:List UInt8) (v:Value) (l:List RSet) (s:RSet) (u:Value) (w:World) (hv:SetsAt w v l) (hu:Sl 1 w u (aP s.data)):Calls Tryz.prog 134 #[.agg #[aI o,v], .agg #[aI s.name, .int .i64 s.kind, .int .i64 s.ttl,u]] w (bM w (.bool (dZ o l s))):=by
 obtain ⟨cv,hv1,hvl⟩:=hv.sl
 have hle:=hv1.le
 have hlen:=bA s.data
 go_enter Tryz.func134,Tryz.ntmps134
 refine_lift lF fun _ _ => ?_
 refine bJ (vs:=[aI o,v]) rfl rfl ?_
 intro p w1 x1 hp
 refine aA ?_
 refine_lift TN ?_
 refine bJ (vs:=[aI s.name, .int .i64 s.kind, .int .i64 s.ttl,u]) rfl rfl ?_
 intro q w2 x2 hq
 refine aA ?_
 have hp2:=hp.ext x2
 have hx2:=x1.trans x2
 refine_lift oQ fun _ _ _ _ => ?_
 refine aD (enters_of Tryz.func52 rfl rfl) rfl rfl (mS _ _ _) ?_;intro w3 x3;refine aA ?_
 have hp3:=hp2.ext x3
 have hq3:=hq.ext x3
 have hx3:=hx2.trans x3
 have hu3:=hu.ext hx3
 have hv3:=hv1.ext hx3
 have hs3:=hv.ext hx3
 cases hn:bQ s.name o with
 | false =>
  refine_lift bR ?_
  go_ret
  exact ⟨by simp [dZ,hn],hx3⟩
 | true =>
  (repeat' first | ((with_reducible refine cY ?_);go_step) | ((with_reducible refine cJ ?_);first | refine eS ?_ | (refine dD ?_ ?_ <;> intro hc)) | fail)
  all_goals try (go_ret;exact ⟨by first | (simp_all [dZ];done) | (simp_all [dZ];intro h;omega),hx3⟩)
  ·have hR:dZ o l s=oH o l s:=by
    have:decide (s.data.length≠1)=false:=by simp_all;omega
    simp_all [dZ]
   refine aD (enters_of Tryz.func137 rfl rfl) rfl rfl (CL o v l s.name _ (hs3)) ?_;intro w4 x4;refine aA ?_
   generalize hcut:kI o l s.name=g at *
   obtain ⟨c,is⟩:=g
   cases is with
   | false =>
    refine_lift bR ?_
    go_ret
    exact ⟨by rw [hR];simp [oH,hcut],(hx3).trans x4⟩
   | true =>
    have hq4:=(hq3).ext x4
    refine_lift QK (fun hc _ hc => ?_) (fun hc => ?_) (fun hc _ hc => ?_)
    all_goals (go_ret;exact ⟨by rw [hR];simp_all [oH],hx3.trans x4⟩)
  ·have h5:s.kind=5:=by assumption
   have hd1:decide (s.data.length≠1)=false:=by simp_all;omega
   go_loopw [5] (fun i wr=>∃ k:Nat,k≤l.length∧i=.int .i64 k∧Ext w3 wr∧(l.take k).any (lJ s)=false) (fun i _=>l.length - (intOf i).toNat)
   case atStart=>exact ⟨0,Nat.zero_le _,rfl,Ext.refl _,rfl⟩
   case round =>
    obtain ⟨k,hk,rfl,hx,hall⟩:=hrel
    have hxw:Ext w wr:=hx3.trans hx
    have hv4:=hv1.ext hxw
    have hp4:=hp3.ext hx
    have hq4:=hq3.ext hx
    by_cases hlt:k < l.length
    ·obtain ⟨x,h4,h4d⟩:=(hv.ext hxw).elem (List.getElem?_eq_getElem hlt)
     refine_lift xG ?_;intro _ _ _ _ _ _
     refine cB (by decide +kernel) (by decide +kernel) ?_
     refine_lift jN ?_
     by_cases q1:l[k].name=s.name
     ·rw [decide_eq_true q1]
      refine_lift jN ?_
      by_cases q2:l[k].kind=5
      ·rw [decide_eq_true q2]
       refine_lift jN ?_
       intro w5 x5
       refine_lift jP fun _ => ?_
       exact ⟨⟨k + 1,by omega,by go_num,hx.trans x5,iL hlt hall (by simp [lJ,q2])⟩,by simp [intOf];omega⟩
      ·rw [decide_eq_false q2]
       refine_lift jN ?_
       intro w5 x5
       refine_lift jP fun _ => ?_
       have hcl:l.any (lJ s)=true:=CG hlt (by simp [lJ,q1,q2])
       go_ret
       exact ⟨by rw [show dZ o l s=false by simp [dZ,hcl,h5]];rfl,hxw.trans x5⟩
     ·rw [decide_eq_false q1]
      refine_lift jN ?_
      intro w5 x5
      refine_lift bR ?_
      exact ⟨⟨k + 1,by omega,by go_num,hx.trans x5,iL hlt hall (by simp [lJ,q1])⟩,by simp [intOf];omega⟩
    ·have:k=l.length:=by omega
     subst this
     rw [List.take_length] at hall
     have hR:dZ o l s=oH o l s:=by simp_all [dZ]
     refine_lift zO fun _ _ _ => ?_
     refine aD (enters_of Tryz.func137 rfl rfl) rfl rfl (CL o v l s.name _ (hs3.ext hx)) ?_;intro w5 x5;refine aA ?_
     generalize hcut:kI o l s.name=g at *
     obtain ⟨c,is⟩:=g
     cases is with
     | false =>
      refine_lift bR ?_
      go_ret
      exact ⟨by rw [hR];simp [oH,hcut],hxw.trans x5⟩
     | true =>
      have hq5:=hq4.ext x5
      refine_lift QK (fun hc _ hc => ?_) (fun hc => ?_) (fun hc _ hc => ?_)
      all_goals (go_ret;exact ⟨by rw [hR];simp_all [oH],hxw.trans x5⟩)
  ·have hR:dZ o l s=oH o l s:=by simp_all [dZ]
   refine aD (enters_of Tryz.func137 rfl rfl) rfl rfl (CL o v l s.name _ (hs3)) ?_;intro w4 x4;refine aA ?_
   generalize hcut:kI o l s.name=g at *
   obtain ⟨c,is⟩:=g
   cases is with
   | false =>
    refine_lift bR ?_
    go_ret
    exact ⟨by rw [hR];simp [oH,hcut],(hx3).trans x4⟩
   | true =>
    have hq4:=(hq3).ext x4
    refine_lift RK (fun hc _ hc => ?_) (fun hc _ hc => ?_) (fun hc => ?_) (fun hc _ => ?_)
    all_goals (go_ret;exact ⟨by rw [hR];simp_all [oH],hx3.trans x4⟩)
def jR (a b:RSet):Bool:=decide (gQ a.name b.name < 0) || (decide (gQ a.name b.name=0) && decide (a.kind < b.kind))
set_option maxHeartbeats 6000000 in
theorem MD (a b:RSet) (u v:Value) (w:World):Calls Tryz.prog 181 #[.agg #[aI a.name, .int .i64 a.kind, .int .i64 a.ttl,u], .agg #[aI b.name, .int .i64 b.kind, .int .i64 b.ttl,v]] w (bM w (.bool (jR a b))):=by
 go_enter Tryz.func181,Tryz.ntmps181
 refine_lift lF fun _ _ => ?_
 refine bJ (vs:=[aI a.name, .int .i64 a.kind, .int .i64 a.ttl,u]) rfl rfl ?_
 intro p w1 x1 hp
 refine aA ?_
 refine bJ (vs:=[aI b.name, .int .i64 b.kind, .int .i64 b.ttl,v]) rfl rfl ?_
 intro q w2 x2 hq
 refine aA ?_
 have hp:=hp.ext x2
 refine_lift dR fun _ _ => ?_
 refine aD (enters_of Tryz.func216 rfl rfl) rfl rfl (HA a.name b.name _) ?_;intro w3 x3;refine aA ?_
 have hp:=hp.ext x3
 have hq:=hq.ext x3
 have x:=(x1.trans x2).trans x3
 refine_lift LK (fun hc hc => ?_) (fun hc => ?_) (fun hc hc => ?_)
 ·have c1:=‹¬gQ a.name b.name < 0›
  have c2:=‹gQ a.name b.name=0›
  go_ret
  exact ⟨by simp [jR,c2],x⟩
 ·have c1:=‹¬gQ a.name b.name < 0›
  have c2:=‹¬gQ a.name b.name=0›
  go_ret
  exact ⟨by rw [jR,decide_eq_false c1,decide_eq_false c2];rfl,x⟩
 ·have c1:=‹gQ a.name b.name < 0›
  go_ret
  exact ⟨by rw [jR,decide_eq_true c1];rfl,x⟩
set_option maxHeartbeats 6000000 in
theorem SB (s:RSet) (v:Value) (w:World) (hv:Sl 1 w v (aP s.data)) (hd:∀ d ∈ s.data,d.length≤4611686018427387904):Calls Tryz.prog 180 #[.agg #[aI s.name, .int .i64 s.kind, .int .i64 s.ttl,v]] w (bM w (.bool (fW s))):=by
 have hlen:=bA s.data
 have hle:=hv.le
 go_enter Tryz.func180,Tryz.ntmps180
 refine_lift lF fun _ _ => ?_
 refine bJ (vs:=[aI s.name, .int .i64 s.kind, .int .i64 s.ttl,v]) rfl rfl ?_
 intro p w1 x1 hp
 refine aA ?_
 have hv1:=hv.ext x1
 refine_lift oQ fun _ _ _ _ => ?_
 cases hb:decide (fold s.name=s.name) with
 | false =>
  have hno:fW s=false:=by simp [fW,hb]
  refine cB (by decide +kernel) (by decide +kernel) ?_
  refine_lift jN ?_
  refine dX (enters_of Tryz.func36 rfl rfl) rfl rfl (fun w' _=>kG s.name w') ?_
  refine aA ?_
  refine_lift jN ?_
  simp only [hb,Bool.not_true,Bool.not_false]
  refine_lift jN ?_
  intro w2 x2
  refine_lift bR ?_
  go_ret
  exact ⟨by rw [hno];rfl,x1.trans x2⟩
 | true =>
  have hfo:fold s.name=s.name:=by simpa using hb
  refine cB (by decide +kernel) (by decide +kernel) ?_
  refine_lift jN ?_
  refine dX (enters_of Tryz.func36 rfl rfl) rfl rfl (fun w' _=>kG s.name w') ?_
  refine aA ?_
  refine_lift jN ?_
  simp only [hb,Bool.not_true,Bool.not_false]
  refine_lift jN ?_
  cases hb1:decide (((aP s.data).length:Int) < 1) with
  | true =>
   have hno:fW s=false:=by simp at hb1;simp [fW];intro _ h;omega
   refine_lift jN ?_
   intro w2 x2
   refine_lift bR ?_
   go_ret
   exact ⟨by rw [hno];rfl,x1.trans x2⟩
  | false =>
   refine_lift jN ?_
   cases hb2:decide ((20:Int) < ((aP s.data).length:Int)) with
   | true =>
    have hno:fW s=false:=by simp at hb2;simp [fW];intro _ _ h;omega
    refine_lift jN ?_
    intro w2 x2
    refine_lift bR ?_
    go_ret
    exact ⟨by rw [hno];rfl,x1.trans x2⟩
   | false =>
    refine_lift jN ?_
    intro w2 x2
    have hl1:1≤s.data.length:=by simp at hb1;omega
    have hl2:s.data.length≤20:=by simp at hb2;omega
    have hp:=hp.ext x2
    have hv2:=hv1.ext x2
    have x12:=x1.trans x2
    clear x1 x2 hv1
    refine_lift dR fun _ _ => ?_
    go_loopw [3] (fun i wr=>∃ k:Nat,k≤s.data.length∧i=.int .i64 k∧Ext w2 wr∧∀ j,j < k→jU s j=false) (fun i _=>s.data.length - (intOf i).toNat)
    case atStart=>exact ⟨0,Nat.zero_le _,rfl,Ext.refl _,by omega⟩
    case round =>
     obtain ⟨k,hk,rfl,hx,hall⟩:=hrel
     have hp:=hp.ext hx
     have hv3:=hv2.ext hx
     by_cases hlt:k < s.data.length
     ·have hq:=hv3.elem (fM hlt)
      have hdk:=hd _ (List.getElem_mem hlt)
      have hbad:jU s k=(decide (bC ⟨s.name,s.kind,s.ttl,s.data[k]⟩≠0) || (decide (0 < k) && !Op.bytesLess (s.data.getD (k - 1) []) s.data[k])):=by
       rw [jU,show s.data.getD k []=s.data[k] by simp [hlt]]
      have hck:∀ w',Calls Tryz.prog 131 #[.agg #[aI s.name, .int .i64 s.kind, .int .i64 s.ttl,aI s.data[k]]] w' (bM w' (.int .i64 (bC ⟨s.name,s.kind,s.ttl,s.data[k]⟩))):=fun w'=>EK ⟨s.name,s.kind,s.ttl,s.data[k]⟩ w' hdk
      refine_lift xG ?_;intro _ _ _ _ _ _
      refine cB (by decide +kernel) (by decide +kernel) ?_
      refine_lift jN ?_
      refine vW (v:=.agg #[aI s.name, .int .i64 s.kind, .int .i64 s.ttl,aI s.data[k]]) rfl (fun w' _=>Runs.build rfl (by kernel_rfl)) ?_
      refine aA ?_
      refine_lift jN ?_
      refine dX (enters_of Tryz.func131 rfl rfl) rfl rfl (fun w' _=>hck w') ?_
      refine aA ?_
      refine_lift jN ?_
      cases hc:decide (bC ⟨s.name,s.kind,s.ttl,s.data[k]⟩=0) with
      | false =>
       have hno:fW s=false:=pI hlt (by rw [hbad];simp at hc;simp [hc])
       simp only [Bool.not_false]
       refine_lift jN ?_
       intro w3 x3
       refine_lift bR ?_
       go_ret
       exact ⟨by rw [hno];rfl,x12.trans (hx.trans x3)⟩
      | true =>
       have hc0:bC ⟨s.name,s.kind,s.ttl,s.data[k]⟩=0:=by simpa using hc
       simp only [Bool.not_true]
       refine_lift jN ?_
       by_cases hk0:k=0
       ·have hb0:jU s k=false:=by rw [hbad,hc0];simp [hk0]
        rw [show decide ((0:Int) < (k:Int))=false by simp [hk0]]
        refine_lift jN ?_
        intro w3 x3
        refine_lift bR ?_
        exact ⟨⟨k + 1,by omega,by go_num,hx.trans x3,fun j hj=>by
         rcases Nat.lt_succ_iff_lt_or_eq.1 hj with h | rfl
         ·exact hall j h
         ·exact hb0⟩,by simp [intOf];omega⟩
       ·rw [show decide ((0:Int) < (k:Int))=true by simp;omega]
        have hq2:Pts wr (dN v (((k:Int) - 1).toNat * 1)) [aI (s.data.getD (k - 1) [])]:=by
         have:=hv3.elem (i:=k - 1) (e:=[aI (s.data.getD (k - 1) [])]) (by rw [fM (show k - 1 < s.data.length by omega)];simp [show k - 1 < s.data.length by omega])
         rwa [show ((k:Int) - 1).toNat=k - 1 by omega]
        refine_lift jN ?_
        have hb0:jU s k = !Op.bytesLess (s.data.getD (k - 1) []) s.data[k]:=by rw [hbad,hc0];simp;omega
        intro w3 x3
        cases hbl:Op.bytesLess (s.data.getD (k - 1) []) s.data[k] with
        | false =>
         have hno:fW s=false:=pI hlt (by rw [hb0,hbl];rfl)
         refine_lift jP fun _ => ?_
         go_ret
         exact ⟨by rw [hno];rfl,x12.trans (hx.trans x3)⟩
        | true =>
         have hb1:jU s k=false:=by rw [hb0,hbl];rfl
         refine_lift jP fun _ => ?_
         exact ⟨⟨k + 1,by omega,rfl,hx.trans x3,fun j hj=>by
          rcases Nat.lt_succ_iff_lt_or_eq.1 hj with h | rfl
          ·exact hall j h
          ·exact hb1⟩,by simp [intOf];omega⟩
     ·have:k=s.data.length:=by omega
      subst this
      have hyes:fW s=true:=by
       simp only [fW,hb,decide_eq_true hl1,decide_eq_true hl2,Bool.true_and,List.all_eq_true,List.mem_range,Bool.not_eq_true']
       exact hall
      refine_lift jP fun _ => ?_
      go_ret
      exact ⟨by rw [hyes];rfl,x12.trans hx⟩
theorem AX (a b:RSet):jR a b=decide (eJ a.name b.name a.kind b.kind < 0):=by
 unfold jR eJ GW
 by_cases h1:gQ a.name b.name < 0
 ·rw [if_pos (by omega)];simp [h1]
 ·by_cases h2:gQ a.name b.name=0
  ·simp [h2]
   by_cases h3:a.kind < b.kind
   ·simp [h3]
   ·simp [h3];split <;> omega
  ·rw [if_pos h2];simp [h1,h2]
set_option maxHeartbeats 6000000 in
theorem ME (v:Value) (l:List RSet) (w:World) (hv:SetsAt w v l) (hd:∀ s ∈ l,∀ d ∈ s.data,d.length≤4611686018427387904):Calls Tryz.prog 132 #[v] w (bM w (.int .i64 (cX l))):=by
 obtain ⟨cv,hv1,hvl⟩:=hv.sl
 have hle:=hv1.le
 go_enter Tryz.func132,Tryz.ntmps132
 refine_lift DY (fun _ _ _ => ?_) (fun _ => ?_)
 ·go_ret
  refine ⟨?_,Ext.refl _⟩
  rw [cX,if_pos (by omega)]
  rfl
 go_loopw [3] (fun i wr=>∃ k:Nat,k≤l.length∧i=.int .i64 k∧Ext w wr∧∀ j,j < k→iB l j=false) (fun i _=>l.length - (intOf i).toNat)
 case atStart=>exact ⟨0,Nat.zero_le _,rfl,Ext.refl _,by omega⟩
 case round =>
  obtain ⟨k,hk,rfl,hx,hall⟩:=hrel
  have hv2:=hv1.ext hx
  by_cases hlt:k < l.length
  ·obtain ⟨x,h1,h1d⟩:=(hv.ext hx).elem (List.getElem?_eq_getElem hlt)
   have hdk:=hd _ (List.getElem_mem hlt)
   have hbad:iB l k=(!fW l[k] || (decide (0 < k) && !jR (l.getD (k - 1) default) l[k])):=by
    rw [iB,List.getElem?_eq_getElem hlt,AX]
    simp only []
    congr 2
    by_cases h:eJ (l.getD (k - 1) default).name l[k].name (l.getD (k - 1) default).kind l[k].kind < 0
    ·rw [decide_eq_true h,decide_eq_false (by omega)];rfl
    ·rw [decide_eq_false h,decide_eq_true (by omega)];rfl
   have hck:∀ w',Ext wr w'→Calls Tryz.prog 180 #[.agg #[aI l[k].name, .int .i64 l[k].kind, .int .i64 l[k].ttl,x]] w' (bM w' (.bool (fW l[k]))):=fun w' x'=>SB l[k] x w' (h1d.ext x') hdk
   refine_lift xG ?_;intro _ _ _ _ _ _
   refine cB (by decide +kernel) (by decide +kernel) ?_
   refine_lift jN ?_
   refine dX (enters_of Tryz.func180 rfl rfl) rfl rfl (fun w' x'=>hck w' x') ?_
   refine aA ?_
   refine_lift jN ?_
   cases hm:fW l[k] with
   | false =>
    have hno:cX l=1:=nN hlt (by rw [hbad,hm];rfl)
    simp only [Bool.not_false]
    refine_lift jN ?_
    intro w3 x3
    refine_lift bR ?_
    go_ret
    exact ⟨by rw [hno];rfl,hx.trans x3⟩
   | true =>
    simp only [Bool.not_true]
    refine_lift jN ?_
    by_cases hk0:k=0
    ·have hb0:iB l k=false:=by rw [hbad,hm];simp [hk0]
     rw [show decide ((0:Int) < (k:Int))=false by simp [hk0]]
     refine_lift jN ?_
     intro w3 x3
     refine_lift bR ?_
     exact ⟨⟨k + 1,by omega,by go_num,hx.trans x3,fun j hj=>by
      rcases Nat.lt_succ_iff_lt_or_eq.1 hj with h | rfl
      ·exact hall j h
      ·exact hb0⟩,by simp [intOf];omega⟩
    ·rw [show decide ((0:Int) < (k:Int))=true by simp;omega]
     have hlp:k - 1 < l.length:=by omega
     obtain ⟨y,h2,h2d⟩:=(hv.ext hx).elem (List.getElem?_eq_getElem hlp)
     have h2:Pts wr (dN v (((k:Int) - 1).toNat * 4)) [aI l[k - 1].name, .int .i64 l[k - 1].kind, .int .i64 l[k - 1].ttl,y]:=by
      rwa [show ((k:Int) - 1).toNat=k - 1 by omega]
     have hpr:l.getD (k - 1) default=l[k - 1]:=by simp [hlp]
     have hah:∀ w',Calls Tryz.prog 181 #[.agg #[aI l[k - 1].name, .int .i64 l[k - 1].kind, .int .i64 l[k - 1].ttl,y], .agg #[aI l[k].name, .int .i64 l[k].kind, .int .i64 l[k].ttl,x]] w' (bM w' (.bool (jR l[k - 1] l[k]))):=fun w'=>MD l[k - 1] l[k] y x w'
     refine_lift jN ?_
     refine dX (enters_of Tryz.func181 rfl rfl) rfl rfl (fun w' x'=>hah w') ?_
     refine aA ?_
     refine_lift jN ?_
     intro w3 x3
     cases ha:jR l[k - 1] l[k] with
     | false =>
      have hno:cX l=1:=nN hlt (by rw [hbad,hm,hpr,ha];simp;omega)
      refine_lift jP fun _ => ?_
      go_ret
      exact ⟨by rw [hno];rfl,hx.trans x3⟩
     | true =>
      have hb0:iB l k=false:=by rw [hbad,hm,hpr,ha];simp
      refine_lift jP fun _ => ?_
      exact ⟨⟨k + 1,by omega,by go_num,hx.trans x3,fun j hj=>by
       rcases Nat.lt_succ_iff_lt_or_eq.1 hj with h | rfl
       ·exact hall j h
       ·exact hb0⟩,by simp [intOf];omega⟩
  ·have:k=l.length:=by omega
   subst this
   have hyes:cX l=0:=by
    rw [cX,if_neg (by omega),if_pos]
    simp only [List.all_eq_true,List.mem_range,Bool.not_eq_true']
    exact hall
   refine_lift jP fun _ => ?_
   go_ret
   exact ⟨by rw [hyes];rfl,hx⟩
theorem Own.nilE {B k e:Nat} {w:World}:Own B k e w (.slice none 0 0) []:=Own.nil _ _ _ _
set_option maxHeartbeats 6000000 in
theorem II (s:RSet) (v:Value) (w:World) (hv:Sl 1 w v (aP s.data)) (hb:s.data.length≤1000000):Calls Tryz.prog 138 #[.agg #[aI s.name, .int .i64 s.kind, .int .i64 s.ttl,v]] w (oA w fun r w'=>∃ x,r=.agg #[aI s.name, .int .i64 s.kind, .int .i64 s.ttl,x]∧Own w.heap.size 1 9 w' x (aP s.data)):=by
 go_enter Tryz.func138,Tryz.ntmps138
 refine_lift zN ?_;intro _ _ _
 refine bJ (vs:=[aI s.name, .int .i64 s.kind, .int .i64 s.ttl,v]) rfl rfl ?_
 intro p w1 x1 hp
 refine aA ?_
 refine aL (z:=fX) rfl (by decide +kernel) ?_
 intro w2 x2 s2 h2
 refine aA ?_
 have hp:=hp.ext x2
 refine_lift dR fun _ _ => ?_
 refine aL (z:=fX) rfl (by decide +kernel) ?_
 intro w3 x3 s3 h3
 refine aA ?_
 have h2:=x3.at h2
 refine aG (v:=.agg #[aI s.name, .int .i64 s.kind, .int .i64 s.ttl,v]) rfl rfl rfl h3 (show aR Tryz.prog 131 4=true by decide +kernel) rfl (eR rfl rfl rfl hv.one) ?_
 intro w4 p4
 have x04:Ext w w4:=((x1.trans x2).trans x3).move p4.mv (by have:=x1.size;rintro k ⟨⟩;omega)
 have h2:=p4.at h2 (by omega)
 have x24:Ext w2 w4:=x3.move p4.mv (by rintro k ⟨⟩;omega)
 have hp4:=hp.ext x24
 have h4:w4.heap[w2.heap.size]? = some (.cells [aI s.name, .int .i64 s.kind, .int .i64 s.ttl,v].toArray 131 (0,0)):=p4.this
 have hz4:=p4.size
 clear p4 h3 x3 hp
 refine_lift dR fun _ _ => ?_
 have s1:=x1.size
 refine bU (v0:=.slice none 0 0) (B:=w4.heap.size) (e:=9) rfl Own.nilE rfl (hv.ext x04) (by simp [aP,aI,Value.oneCell']) (Nat.le_refl _) (by rw [bA];simpa using hb) ?_
 intro x w5 o5 m5 k5
 have x45:Ext w4 w5:=⟨m5.os,m5.tape,m5.output,m5.size,fun k hk=>m5.block k hk (by simp [Value.ownBlock]),m5.drawn⟩
 refine aA ?_
 have h2:=x45.at h2
 have h4:=x45.at h4
 have hp4:=hp4.ext x45
 have hp5:=aE h4
 refine_lift bR ?_
 have o5:Own w4.heap.size 1 9 w5 x (aP s.data):=by simpa using o5
 refine aM (cs:=[aI s.name, .int .i64 s.kind, .int .i64 s.ttl,v]) h4 rfl rfl rfl (by simp) (by decide +kernel) o5.one ?_
 intro w6 p6
 have x46:Ext w w6:=(x04.trans x45).move p6.mv (by have:=x2.size;rintro k ⟨⟩;omega)
 have h2:=p6.at h2 (by omega)
 have o6:Own w4.heap.size 1 9 w6 x (aP s.data):=o5.put p6 (by omega)
 have hp6:=aE (cs:=[aI s.name, .int .i64 s.kind, .int .i64 s.ttl,x]) p6.this
 clear p6 h4 hp5 hp4
 refine_lift dR fun _ _ => ?_
 refine aG (v:=.agg #[aI s.name, .int .i64 s.kind, .int .i64 s.ttl,x]) rfl rfl rfl h2 (show aR Tryz.prog 131 4=true by decide +kernel) rfl (eR rfl rfl rfl o6.sl.one) ?_
 intro w7 p7
 have x7:Ext w w7:=x46.move p7.mv (by rintro k ⟨⟩;omega)
 have o7:Own w4.heap.size 1 9 w7 x (aP s.data):=o6.put p7 (by omega)
 refine_lift bR ?_
 refine bodyPost_ret (bH (cs:=[aI s.name, .int .i64 s.kind, .int .i64 s.ttl,x]) rfl rfl p7.this (show cP Tryz.prog 131 4=true by decide +kernel)) rfl ⟨_,rfl,x7,x,rfl,o7.weaken x04.size⟩
set_option maxHeartbeats 12000000 in
theorem nR (v:Value) (l:List RSet) (n:List UInt8) (kd:Int) (w:World) (hv:SetsAt w v l) (hb:∀ s ∈ l,s.data.length≤1000000):Calls Tryz.prog 79 #[v,aI n, .int .i64 kd] w (oA w fun r w'=>match bB l n kd with
 | some s=>∃ x,r=.tuple #[.agg #[aI s.name, .int .i64 s.kind, .int .i64 s.ttl,x], .bool true]∧Own w.heap.size 1 9 w' x (aP s.data)
 | none=>r=.tuple #[.agg fX.toArray, .bool false]):=by
 obtain ⟨cv,hv1,hvl⟩:=hv.sl
 have hle:=hv1.le
 go_enter Tryz.func79,Tryz.ntmps79
 refine_lift zN ?_;intro _ _ _
 refine aL (z:=fX) rfl (by decide +kernel) ?_
 intro w2 x2 s2 h2
 refine aA ?_
 refine_lift dR fun _ _ => ?_
 go_loopw [8] (fun i wr=>∃ k:Nat,k≤l.length∧i=.int .i64 k∧Ext w2 wr∧(l.take k).find? (LA (fold n) kd)=none) (fun i _=>l.length - (intOf i).toNat)
 case atStart=>exact ⟨0,Nat.zero_le _,rfl,Ext.refl _,rfl⟩
 case round =>
  obtain ⟨k,hk,rfl,hx,hall⟩:=hrel
  have hxw:Ext w wr:=x2.trans hx
  have hv2:=hv1.ext hxw
  have h3:=hx.at h2
  by_cases hlt:k < l.length
  ·obtain ⟨x,h4,h4d⟩:=(hv.ext hxw).elem (List.getElem?_eq_getElem hlt)
   have hbk:=hb _ (List.getElem_mem hlt)
   refine_lift xG ?_;intro _ _ _ _ _ _
   refine cB (by decide +kernel) (by decide +kernel) ?_
   refine_lift jN ?_
   refine dX (enters_of Tryz.func36 rfl rfl) rfl rfl (fun w' _=>kG n w') ?_
   refine aA ?_
   refine_lift jN ?_
   by_cases q1:l[k].name=fold n
   ·rw [decide_eq_true q1]
    refine_lift jN ?_
    intro w5 x5
    have h5:=x5.at h3
    have hv5:=hv2.ext x5
    have hp5:=h4.ext x5
    by_cases q2:l[k].kind=kd
    ·have hh:bB l n kd=some l[k]:=CE hlt hall (by simp [LA,q1,q2])
     rw [decide_eq_true q2]
     refine_lift dR fun _ _ => ?_
     refine aK (enters_of Tryz.func138 rfl rfl) rfl rfl (II l[k] x _ (h4d.ext x5) hbk) ?_
     intro r w6 x6 hr
     obtain ⟨y,rfl,oy⟩:=hr
     refine aA ?_
     have h6:=x6.at h5
     have hs5:=hx.size
     have hs6:=x5.size
     refine aG (v:=.agg #[aI l[k].name, .int .i64 l[k].kind, .int .i64 l[k].ttl,y]) rfl rfl rfl h6 (show aR Tryz.prog 131 4=true by decide +kernel) rfl (eR rfl rfl rfl oy.sl.one) ?_
     intro w7 p7
     have x7:Ext w w7:=((hxw.trans x5).trans x6).move p7.mv (by rintro k ⟨⟩;exact Nat.le_refl _)
     have o7:=oy.put p7 (by omega)
     refine_lift bR ?_
     refine bodyPost_ret (aU (cs:=[aI l[k].name, .int .i64 l[k].kind, .int .i64 l[k].ttl,y]) rfl rfl p7.this (show cP Tryz.prog 131 4=true by decide +kernel)) rfl ⟨_,rfl,x7,?_⟩
     rw [hh]
     exact ⟨y,rfl,o7.weaken (by omega)⟩
    ·rw [decide_eq_false q2]
     refine_lift bR ?_
     exact ⟨⟨k + 1,by omega,by go_num,hx.trans x5,qG hlt hall (by simp [LA,q2])⟩,by simp [intOf];omega⟩
   ·rw [decide_eq_false q1]
    refine_lift jN ?_
    intro w5 x5
    refine_lift bR ?_
    exact ⟨⟨k + 1,by omega,by go_num,hx.trans x5,qG hlt hall (by simp [LA,q1])⟩,by simp [intOf];omega⟩
  ·have:k=l.length:=by omega
   subst this
   have hno:bB l n kd=none:=by rw [List.take_length] at hall;exact hall
   refine_lift zO fun _ _ _ => ?_
   refine cH (v:=.agg fX.toArray) rfl (Runs.build0 (by kernel_rfl)) ?_
   refine aA ?_
   refine aG (v:=.agg fX.toArray) rfl rfl rfl h3 (by decide +kernel) rfl (by decide +kernel) ?_
   intro w7 p7
   have x7:Ext w w7:=hxw.move p7.mv (by rintro k ⟨⟩;exact Nat.le_refl _)
   refine_lift bR ?_
   refine bodyPost_ret (aU (cs:=fX) rfl rfl p7.this (by decide +kernel)) rfl ⟨_,rfl,x7,?_⟩
   rw [hno]
   rfl
set_option maxHeartbeats 12000000 in
theorem MF (o:List UInt8) (v:Value) (l:List RSet) (n:List UInt8) (kd:Int) (w:World) (hv:SetsAt w v l) (hb:∀ s ∈ l,s.data.length≤1000000):Calls Tryz.prog 133 #[.agg #[aI o,v],aI n, .int .i64 kd] w (bM w (.bool (bB l n kd).isSome)):=by
 go_enter Tryz.func133,Tryz.ntmps133
 refine_lift lF fun _ _ => ?_
 refine bJ (vs:=[aI o,v]) rfl rfl ?_
 intro p w0 x0 hp
 refine aA ?_
 have hv1:=hv.ext x0
 refine_lift dR fun _ _ => ?_
 refine aK (enters_of Tryz.func79 rfl rfl) rfl rfl (nR v l n kd _ hv1 hb) ?_
 intro r w1 x1 hr
 cases hf:bB l n kd with
 | none =>
  rw [hf] at hr
  obtain rfl:=hr
  refine_lift bR ?_
  refine aL (z:=fX) rfl (by decide +kernel) ?_
  intro w2 x2 s2 h2
  refine aA ?_
  refine aG (v:=.agg fX.toArray) rfl rfl rfl h2 (by decide +kernel) rfl (by decide +kernel) ?_
  intro w3 p3
  have x3:Ext w w3:=((x0.trans x1).trans x2).move p3.mv (by rintro k ⟨⟩;have:=x0.size;have:=x1.size;omega)
  refine_lift bR ?_
  go_ret
  exact ⟨by rw [hf];rfl,x3⟩
 | some s =>
  rw [hf] at hr
  obtain ⟨x,rfl,ho⟩:=hr
  refine_lift bR ?_
  refine aL (z:=fX) rfl (by decide +kernel) ?_
  intro w2 x2 s2 h2
  refine aA ?_
  refine aG (v:=.agg #[aI s.name, .int .i64 s.kind, .int .i64 s.ttl,x]) rfl rfl rfl h2 (show aR Tryz.prog 131 4=true by decide +kernel) rfl (eR rfl rfl rfl ho.sl.one) ?_
  intro w3 p3
  have x3:Ext w w3:=((x0.trans x1).trans x2).move p3.mv (by rintro k ⟨⟩;have:=x0.size;have:=x1.size;omega)
  refine_lift bR ?_
  go_ret
  exact ⟨by rw [hf];rfl,x3⟩
def dM (o:List UInt8):Int:=if (aV o).isSome then 0 else 1
def bZ (o:List UInt8) (l:List RSet):Int :=
 if dM o≠0∨fold o≠o∨cX l≠0 then 1 else
 if (bB l o 6).isSome=false∨(bB l o 2).isSome=false then 2 else
 if l.any (fun s => !dZ o l s)=true then 2 else 0
set_option maxHeartbeats 3000000 in
theorem yC (o:List UInt8) (v:Value) (l:List RSet) (w:World) (hv:SetsAt w v l) (hb:∀ s ∈ l,s.data.length≤1000000) (hd:∀ s ∈ l,∀ d ∈ s.data,d.length≤4611686018427387904):Calls Tryz.prog 74 #[.agg #[aI o,v]] w (bM w (.int .i64 (bZ o l))):=by
 obtain ⟨cv,hv1,hvl⟩:=hv.sl
 have hle:=hv1.le
 go_enter Tryz.func74,Tryz.ntmps74
 refine_lift lF fun _ _ => ?_
 refine bJ (vs:=[aI o,v]) rfl rfl ?_
 intro p w1 x1 hp
 refine aA ?_
 refine_lift oQ fun _ _ _ _ => ?_
 have c1:∀ w',Calls Tryz.prog 75 #[aI o] w' (bM w' (.int .i64 (dM o))):=fun w'=>pE o w'
 have hv2:=hv.ext x1
 have c3:∀ w',Ext w1 w'→Calls Tryz.prog 132 #[v] w' (bM w' (.int .i64 (cX l))):=fun w' x'=>ME v l w' (hv2.ext x') hd
 refine cB (by decide +kernel) (by decide +kernel) ?_
 refine_lift jN ?_
 refine dX (enters_of Tryz.func75 rfl rfl) rfl rfl (fun w' _=>c1 w') ?_
 refine aA ?_
 refine_lift jN ?_
 by_cases q1:dM o=0
 ·rw [decide_eq_true q1]
  simp only [Bool.not_true]
  refine_lift jN ?_
  refine dX (enters_of Tryz.func36 rfl rfl) rfl rfl (fun w' _=>kG o w') ?_
  refine aA ?_
  refine_lift jN ?_
  by_cases q2:fold o=o
  ·rw [decide_eq_true q2]
   simp only [Bool.not_true]
   refine_lift jN ?_
   refine dX (enters_of Tryz.func132 rfl rfl) rfl rfl (fun w' x'=>c3 w' x') ?_
   refine aA ?_
   refine_lift jN ?_
   intro w2 x2
   by_cases q3:cX l=0
   ·rw [decide_eq_true q3]
    simp only [Bool.not_true]
    refine_lift oQ fun _ _ _ _ => ?_
    have hx2:=x1.trans x2
    have hp2:=hp.ext x2
    have hs2:=hv.ext hx2
    refine aD (enters_of Tryz.func133 rfl rfl) rfl rfl (MF o v l o 6 _ hs2 hb) ?_;intro w3 x3;refine aA ?_
    have hx3:=hx2.trans x3
    have hp3:=hp2.ext x3
    have hs3:=hs2.ext x3
    cases f6:(bB l o 6).isSome with
    | false =>
     refine_lift bR ?_
     go_ret
     exact ⟨by rw [show bZ o l=2 by simp [bZ,q1,q2,q3,f6]];rfl,hx3⟩
    | true =>
     refine_lift bR ?_
     refine aD (enters_of Tryz.func133 rfl rfl) rfl rfl (MF o v l o 2 _ hs3 hb) ?_;intro w4 x4;refine aA ?_
     have hx4:=hx3.trans x4
     have hp4:=hp3.ext x4
     have hs4:=hs3.ext x4
     cases f2:(bB l o 2).isSome with
     | false =>
      refine_lift bR ?_
      go_ret
      exact ⟨by rw [show bZ o l=2 by simp [bZ,q1,q2,q3,f6,f2]];rfl,hx4⟩
     | true =>
      refine_lift dR fun _ _ => ?_
      go_loopw [3] (fun i wr=>∃ k:Nat,k≤l.length∧i=.int .i64 k∧Ext w4 wr∧(l.take k).any (fun s => !dZ o l s)=false) (fun i _=>l.length - (intOf i).toNat)
      case atStart=>exact ⟨0,Nat.zero_le _,rfl,Ext.refl _,rfl⟩
      case round =>
       obtain ⟨k,hk,rfl,hx,hall⟩:=hrel
       have hxw:Ext w wr:=hx4.trans hx
       have hv5:=hv1.ext hxw
       have hp5:=hp4.ext hx
       have hs5:=hv.ext hxw
       by_cases hlt:k < l.length
       ·obtain ⟨x,h5,h5d⟩:=hs5.elem (List.getElem?_eq_getElem hlt)
        have c5:∀ w',Ext wr w'→Calls Tryz.prog 134 #[.agg #[aI o,v], .agg #[aI l[k].name, .int .i64 l[k].kind, .int .i64 l[k].ttl,x]] w' (bM w' (.bool (dZ o l l[k]))):=fun w' x'=>MC o v l l[k] x w' (hs5.ext x') (h5d.ext x')
        refine_lift xG ?_;intro _ _ _ _ _ _
        refine cB (by decide +kernel) (by decide +kernel) ?_
        refine_lift jN ?_
        refine dX (enters_of Tryz.func134 rfl rfl) rfl rfl (fun w' x'=>c5 w' x') ?_
        refine aA ?_
        refine_lift jN ?_
        intro w6 x6
        cases hr:dZ o l l[k] with
        | false =>
         refine_lift jP fun _ => ?_
         go_ret
         exact ⟨by rw [show bZ o l=2 by simp only [bZ,q1,q2,q3,f6,f2];rw [CG (p:=fun s => !dZ o l s) hlt (by simp [hr])];simp];rfl,hxw.trans x6⟩
        | true =>
         refine_lift jP fun _ => ?_
         exact ⟨⟨k + 1,by omega,by go_num,hx.trans x6,iL hlt hall (by simp [hr])⟩,by simp [intOf];omega⟩
       ·have:k=l.length:=by omega
        subst this
        rw [List.take_length] at hall
        refine_lift jP fun _ => ?_
        go_ret
        exact ⟨by rw [show bZ o l=0 by simp only [bZ,q1,q2,q3,f6,f2];rw [hall];simp];rfl,hxw⟩
   ·rw [decide_eq_false q3]
    simp only [Bool.not_false]
    refine_lift bR ?_
    go_ret
    exact ⟨by rw [show bZ o l=1 by simp [bZ,q3]];rfl,x1.trans x2⟩
  ·rw [decide_eq_false q2]
   simp only [Bool.not_false]
   refine_lift jN ?_
   intro w2 x2
   refine_lift bR ?_
   go_ret
   exact ⟨by rw [show bZ o l=1 by simp [bZ,q2]];rfl,x1.trans x2⟩
 ·rw [decide_eq_false q1]
  simp only [Bool.not_false]
  refine_lift jN ?_
  intro w2 x2
  refine_lift bR ?_
  go_ret
  exact ⟨by rw [show bZ o l=1 by simp [bZ,q1]];rfl,x1.trans x2⟩
theorem TPO.ltt {α:Type} {c:α→α→Int} (h:TPO c) {x y z:α} (h1:c x y < 0) (h2:c y z < 0):c x z < 0:=by
 have h3:=h.tr x y z (by omega) (by omega)
 rcases Int.lt_or_eq_of_le h3 with h4 | h4
 ·exact h4
 ·exfalso
  have h5:=(h.eqL h4 (z:=y)).1 (by omega)
  have h6:=h.anti y z
  omega
theorem EL {l:List RSet} (h:cX l=0):∀ i,i < l.length→iB l i=false:=by
 unfold cX at h
 split at h
 ·omega
 ·split at h
  ·rename_i h1
   intro i hi
   rw [List.all_eq_true] at h1
   have:=h1 i (by simpa using hi)
   simpa using this
  ·omega
theorem tV {l:List RSet} (h:cX l=0) {i:Nat} (hi:i < l.length):fW l[i]=true:=by
 have:=EL h i hi
 rw [iB,List.getElem?_eq_getElem hi] at this
 simp only [Bool.or_eq_false_iff,Bool.not_eq_false'] at this
 exact this.1
theorem MG {l:List RSet} (h:cX l=0) {i:Nat} (hi:i + 1 < l.length):eJ l[i].name l[i + 1].name l[i].kind l[i + 1].kind < 0:=by
 have:=EL h (i + 1) hi
 rw [iB,List.getElem?_eq_getElem hi] at this
 simp only [Bool.or_eq_false_iff,Bool.and_eq_false_iff,decide_eq_false_iff_not] at this
 have h2:=this.2.resolve_left (by omega)
 have e:l.getD (i + 1 - 1) default=l[i]:=by simp [show i < l.length by omega]
 rw [e] at h2
 omega
theorem kJ {l:List RSet} (h:cX l=0) (i:Nat):∀ j (hj:i < j) (hl:j < l.length),eJ l[i].name l[j].name l[i].kind l[j].kind < 0
 | 0,hj,_=>by omega
 | j + 1,hj,hl=>by
   have h1:=MG h hl
   by_cases e:i=j
   ·subst e;exact h1
   ·have h2:=kJ h i j (by omega) (by omega)
    exact lG.ltt (x:=(l[i].name,l[i].kind)) (y:=(l[j].name,l[j].kind)) (z:=(l[j + 1].name,l[j + 1].kind)) h2 h1
theorem EM {s:RSet} (h:fW s=true):fold s.name=s.name:=by
 simp only [fW,Bool.and_eq_true,decide_eq_true_eq] at h
 exact h.1.1.1
theorem tW {l:List RSet} (h:cX l=0) {i:Nat} (hi:i < l.length):bB l l[i].name l[i].kind=some l[i]:=by
 have hf:=EM (tV h hi)
 refine CE hi ?_ (by simp [LA,hf])
 rw [List.find?_eq_none]
 intro x hx hh
 obtain ⟨j,hj,rfl⟩:=List.getElem_of_mem hx
 have hj':j < i:=by rw [List.length_take] at hj;omega
 rw [List.getElem_take] at hh
 simp only [LA,hf,Bool.and_eq_true,decide_eq_true_eq] at hh
 have h1:=kJ h j i hj' hi
 rw [hh.1,hh.2] at h1
 have h2:=lG.refl (l[i].name,l[i].kind)
 simp only at h2
 omega
def fQ (o n:List UInt8) (s:RSet):Bool:=decide (s.kind=2) && decide (s.name≠o) && bQ n s.name
def eH (o:List UInt8) (l:List RSet) (n:List UInt8):List UInt8 × Bool:=match l.find? (fQ o n) with
 | some s=>(s.name,true)
 | none=>([],false)
theorem yD {o n:List UInt8} {b:List UInt8 × Bool} {s:RSet} (h:fQ o n s=false):iM o n b s=b:=by
 unfold iM
 rw [if_neg]
 rintro ⟨h1,h2,h3,_⟩
 simp [fQ,h1,h2,h3] at h
theorem EN {o n:List UInt8} {m:List UInt8} {s:RSet} (h:fQ o n s=true):iM o n (m,false) s=(s.name,true):=by
 simp only [fQ,Bool.and_eq_true,decide_eq_true_eq] at h
 unfold iM
 rw [if_pos ⟨h.1.1,h.1.2,h.2, .inl rfl⟩]
theorem CM {o n:List UInt8} {m:List UInt8} {s:RSet} (h:fQ o n s=true→gL m≤gL s.name):iM o n (m,true) s=(m,true):=by
 cases hc:fQ o n s with
 | false=>exact yD hc
 | true =>
  have:=h hc
  unfold iM
  rw [if_neg]
  rintro ⟨_,_,_,h4⟩
  rcases h4 with h4 | h4
  ·cases h4
  ·simp only at h4;omega
theorem AY {o n m:List UInt8}:∀ {l:List RSet},(∀ t ∈ l,fQ o n t=true→gL m≤gL t.name)→l.foldl (iM o n) (m,true)=(m,true)
 | [],_=>rfl
 | t :: l,h=>by
   rw [List.foldl_cons,CM (h t (by simp)),AY fun u hu=>h u (by simp [hu])]
theorem AZ {o n:List UInt8}:∀ {l:List RSet},l.Pairwise (fun s t=>fQ o n s=true→fQ o n t=true→gL s.name≤gL t.name)→kI o l n=eH o l n
 | [],_=>rfl
 | t :: l,h=>by
   obtain ⟨h1,h2⟩:=List.pairwise_cons.1 h
   unfold kI eH
   rw [List.foldl_cons,List.find?_cons]
   cases hc:fQ o n t with
   | true=>simp only [EN hc];exact AY fun u hu=>h1 u hu hc
   | false=>simp only [yD hc];exact AZ h2
theorem uY {n:List UInt8} {a:List (List UInt8)} (h:dB n=some a):gL n=a.length:=by
 rw [fN] at h
 cases hl:aV n with
 | none=>rw [hl] at h;cases h
 | some ls =>
  rw [hl] at h
  cases h
  simp [gL,hl]
theorem gM {n t:List UInt8} (h:bQ n t=true):∃ a b,dB n=some a∧dB t=some b∧a.take b.length=b:=by
 unfold bQ at h
 cases ha:dB n with
 | none=>rw [ha] at h;cases h
 | some a =>
  cases hb:dB t with
  | none=>rw [ha,hb] at h;cases h
  | some b =>
   rw [ha,hb] at h
   exact ⟨a,b,rfl,rfl,by simpa using h⟩
theorem kQ {n t:List UInt8} {a b:List (List UInt8)} (ha:dB n=some a) (hb:dB t=some b):bQ n t=decide (a.take b.length=b):=by
 unfold bQ;rw [ha,hb]
theorem pJ {α:Type} {a b:List α} (h:a.take b.length=b):b.length≤a.length:=by
 have:=congrArg List.length h
 rw [List.length_take] at this
 omega
theorem HF {a b c:List (List UInt8)} (hb:a.take b.length=b) (hc:a.take c.length=c) (h:gP b c≤0):b.length≤c.length:=by
 have e:gP b c=if b.length < c.length then -1 else if c.length < b.length then 1 else 0:=by
  rcases Nat.le_total b.length c.length with hl | hl
  ·refine sU (k:=b.length) ?_ (Nat.le_refl _) hl (.inl rfl)
   rw [List.take_length,← hc,List.take_take,Nat.min_eq_left hl,hb]
  ·refine sU (k:=c.length) ?_ hl (Nat.le_refl _) (.inr rfl)
   rw [List.take_length,← hb,List.take_take,Nat.min_eq_left hl,hc]
 rw [e] at h
 split at h
 ·omega
 ·split at h <;> omega
theorem MH {a b:List UInt8} {j k:Int} (h:eJ a b j k < 0):gQ a b≤0:=by
 unfold eJ at h
 split at h <;> omega
theorem tX {o:List UInt8} {l:List RSet} (h:cX l=0) (n:List UInt8):kI o l n=eH o l n:=by
 refine AZ ?_
 rw [List.pairwise_iff_getElem]
 intro i j hi hj hij h1 h2
 have hc:=MH (kJ h i j hij hj)
 simp only [fQ,Bool.and_eq_true] at h1 h2
 obtain ⟨a,b,ha,hb,e1⟩:=gM h1.2
 obtain ⟨a',c,ha',hc',e2⟩:=gM h2.2
 rw [ha] at ha'
 cases ha'
 rw [uY hb,uY hc']
 refine HF e1 e2 ?_
 unfold gQ at hc
 rw [hb,hc'] at hc
 exact hc
theorem lW {n:List UInt8}:(dB n).isSome=(aV n).isSome:=by
 rw [fN];cases aV n <;> rfl
theorem nS {n:List UInt8} (h:(aV n).isSome=true):bQ n n=true:=by
 rw [← lW] at h
 obtain ⟨a,ha⟩:=Option.isSome_iff_exists.1 h
 rw [kQ ha ha]
 simp
theorem EO {a b c:List UInt8} (h:bQ a b=true) (k:bQ b c=true):bQ a c=true:=by
 obtain ⟨x,y,hx,hy,e1⟩:=gM h
 obtain ⟨y',z,hy',hz,e2⟩:=gM k
 rw [hy] at hy'
 cases hy'
 have hl:=pJ e2
 rw [kQ hx hz,decide_eq_true_eq]
 rw [← e1,List.take_take,Nat.min_eq_left hl] at e2
 exact e2
theorem kK {a b:List UInt8} (h:bQ a b=true):(aV a).isSome=true∧(aV b).isSome=true:=by
 obtain ⟨x,y,hx,hy,_⟩:=gM h
 rw [← lW,← lW,hx,hy]
 exact ⟨rfl,rfl⟩
structure ZoneOk (o:List UInt8) (l:List RSet):Prop where
 lab:(aV o).isSome=true
 fold:fold o=o
 chk:cX l=0
 soa:(bB l o 6).isSome=true
 ns:(bB l o 2).isSome=true
 right:∀ s ∈ l,dZ o l s=true
theorem jC {o:List UInt8} {l:List RSet} (h:bZ o l=0):ZoneOk o l:=by
 unfold bZ at h
 split at h
 ·cases h
 ·rename_i h1
  split at h
  ·cases h
  ·rename_i h2
   split at h
   ·cases h
   ·rename_i h3
    simp only [not_or,ne_eq,Decidable.not_not,Bool.not_eq_false] at h1 h2
    refine ⟨?_,h1.2.1,h1.2.2,h2.1,h2.2,fun s hs => ?_⟩
    ·have:=h1.1
     unfold dM at this
     split at this
     ·assumption
     ·cases this
    ·cases hr:dZ o l s with
     | true=>rfl
     | false=>exact absurd (List.any_eq_true.2 ⟨s,hs,by simp [hr]⟩) h3
theorem mT {o:List UInt8} {l:List RSet} (h:ZoneOk o l):bZ o l=0:=by
 obtain ⟨h1,h2,h3,h4,h5,h6⟩:=h
 have h7:l.any (fun s => !dZ o l s)=false:=by
  rw [List.any_eq_false]
  intro s hs
  simp [h6 s hs]
 unfold bZ dM
 simp [h1,h2,h3,h4,h5,h7]
theorem uZ {o:List UInt8} {l:List RSet} {s:RSet} (h:dZ o l s=true):bQ s.name o=true:=by
 simp only [dZ,Bool.and_eq_true] at h
 exact h.1.1.1
theorem ZoneOk.may {o:List UInt8} {l:List RSet} (h:ZoneOk o l) {s:RSet} (hs:s ∈ l):fW s=true:=by
 obtain ⟨i,hi,rfl⟩:=List.getElem_of_mem hs
 exact tV h.chk hi
theorem ZoneOk.small {o:List UInt8} {l:List RSet} (h:ZoneOk o l) {s:RSet} (hs:s ∈ l):X.fold s.name=s.name∧(aV s.name).isSome=true :=
 ⟨EM (h.may hs),(kK (uZ (h.right s hs))).1⟩
theorem ZoneOk.there {o:List UInt8} {l:List RSet} (h:ZoneOk o l) {s:RSet} (hs:s ∈ l):nQ o l s.name=true:=by
 simp only [nQ,Bool.and_eq_true,List.any_eq_true]
 exact ⟨uZ (h.right s hs),s,hs,nS (h.small hs).2⟩
theorem kR {l:List RSet} {n:List UInt8} {k:Int} {s:RSet} (h:bB l n k=some s):s ∈ l∧s.name=fold n∧s.kind=k:=by
 have h1:=List.mem_of_find?_eq_some h
 have h2:=List.find?_some h
 simp only [LA,Bool.and_eq_true,decide_eq_true_eq] at h2
 exact ⟨h1,h2⟩
theorem ZoneOk.origin {o:List UInt8} {l:List RSet} (h:ZoneOk o l):nQ o l o=true:=by
 obtain ⟨s,hs⟩:=Option.isSome_iff_exists.1 h.soa
 obtain ⟨h1,h2,h3⟩:=kR hs
 have:=h.there h1
 rwa [h2,h.fold] at this
theorem ZoneOk.cut {o:List UInt8} {l:List RSet} (h:ZoneOk o l) {n c:List UInt8} (hc:kI o l n=(c,true)):bQ n c=true∧c≠o∧kI o l c=(c,true):=by
 rw [tX h.chk,eH] at hc
 rw [tX h.chk,eH]
 cases hf:l.find? (fQ o n) with
 | none=>rw [hf] at hc;cases hc
 | some s =>
  rw [hf] at hc
  simp only [Prod.mk.injEq,and_true] at hc
  subst hc
  obtain ⟨h1,la,lb,h2,h3⟩:=List.find?_eq_some_iff_append.1 hf
  have hs:s ∈ l:=by rw [h2];simp
  have h1':=h1
  simp only [fQ,Bool.and_eq_true,decide_eq_true_eq] at h1'
  refine ⟨h1'.2,h1'.1.2,?_⟩
  have:l.find? (fQ o s.name)=some s:=by
   rw [List.find?_eq_some_iff_append]
   refine ⟨?_,la,lb,h2,fun t ht => ?_⟩
   ·simp only [fQ,Bool.and_eq_true,decide_eq_true_eq]
    exact ⟨h1'.1,nS (h.small hs).2⟩
   ·have hn:=h3 t ht
    cases hq:fQ o s.name t with
    | false=>rfl
    | true =>
     simp only [fQ,Bool.and_eq_true,decide_eq_true_eq] at hq
     have:fQ o n t=true:=by
      simp only [fQ,Bool.and_eq_true,decide_eq_true_eq]
      exact ⟨hq.1,EO h1'.2 hq.2⟩
     rw [this] at hn
     exact hn
  rw [this]
theorem EP (m:List UInt8):Lib.hasSuffix (m ++ [0]) [0]=true∧Lib.trimSuffix (m ++ [0]) [0]=m:=by
 have h:Lib.hasSuffix (m ++ [0]) [0]=true:=by
  unfold Lib.hasSuffix
  rw [List.isSuffixOf_iff_suffix]
  exact List.suffix_append _ _
 refine ⟨h,?_⟩
 unfold Lib.trimSuffix
 rw [if_pos h]
 simp
theorem rP {s m:List UInt8} (h:eX s=some m):s=m ++ [0]∧(aV m).isSome=true:=by
 unfold eX at h
 split at h
 ·rename_i hh
  obtain ⟨h1,h2⟩:=hh
  unfold Lib.hasSuffix at h1
  rw [List.isSuffixOf_iff_suffix] at h1
  obtain ⟨t,rfl⟩:=h1
  obtain ⟨_,h3⟩:=EP t
  rw [h3] at h h2
  cases h
  exact ⟨rfl,h2⟩
 ·cases h
set_option maxHeartbeats 3000000 in
theorem OZ (u v:Value) (a b:List (List UInt8)) (w:World) (hu:Sl 1 w u (aP a)) (hv:Sl 1 w v (aP b)):Calls Tryz.prog 117 #[u,v] w (bM w (.bool (decide (a=b)))):=by
 have hal:=hu.le
 have ha:=bA a
 have hb:=bA b
 go_enter Tryz.func117,Tryz.ntmps117
 (repeat' first | ((with_reducible refine cY ?_);go_step) | ((with_reducible refine cJ ?_);first | refine eS ?_ | (refine dD ?_ ?_ <;> intro hc)) | fail)
 ·have hne:=‹(!decide (((aP a).length:Int)=((aP b).length:Int)))=true›
  go_ret
  refine ⟨?_,Ext.refl _⟩
  have:a≠b:=by rintro rfl;simp at hne
  simp [this]
 ·have hne:=‹(!decide (((aP a).length:Int)=((aP b).length:Int)))=false›
  have hlen:a.length=b.length:=by simp at hne;omega
  go_loopw [5,13] (fun _ i wr=>∃ k:Nat,k≤a.length∧i=.int .i64 k∧Ext w wr∧a.take k=b.take k) (fun _ i _=>a.length - (intOf i).toNat)
  case atStart=>exact ⟨0,Nat.zero_le _,rfl,Ext.refl _,rfl⟩
  case round =>
   obtain ⟨k,hk,rfl,hx,hall⟩:=hrel
   by_cases hlt:k < a.length
   ·have hlt2:k < b.length:=by omega
    have h1:=(hu.ext hx).elem (fM hlt)
    have h2:=(hv.ext hx).elem (fM hlt2)
    have hu2:=hu.ext hx
    have hv2:=hv.ext hx
    refine_lift xG ?_;intro _ _ _ _ _ _
    refine dS (S:=Ext wr) (by decide +kernel) ?_
    intro w2 x2 _
    refine tk 0 ?_;refine aA ?_;refine tk 1 ?_;refine aA ?_;refine tk 2 ?_;refine aA ?_;refine tk 3 ?_;refine aA ?_;refine tk 4 ?_;refine aA ?_;refine tk 5 ?_;refine aA ?_;refine tk 6 ?_;refine aA ?_;refine tk 7 ?_;refine aA ?_;refine tk 8 ?_;refine aA ?_
    refine dK (by decide +kernel) ?_
    by_cases he:a[k]=b[k]
    ·have e1:decide (a[k]=b[k])=true:=decide_eq_true he
     simp only [e1,Bool.not_true]
     refine_lift bR ?_
     exact ⟨⟨k + 1,by omega,by go_num,by exact eU,iJ hall hlt hlt2 he⟩,by simp [intOf];omega⟩
    ·have e1:decide (a[k]=b[k])=false:=decide_eq_false he
     simp only [e1,Bool.not_false]
     refine_lift bR ?_
     go_ret
     refine ⟨?_,by exact eU⟩
     simp [xQ hlt hlt2 he]
   ·have hk2:k=a.length:=by omega
    subst hk2
    refine_lift jP fun _ => ?_
    go_ret
    refine ⟨?_,by exact eU⟩
    rw [List.take_length,hlen,List.take_length] at hall
    simp [hall]
set_option maxHeartbeats 3000000 in
theorem sX (n t:List UInt8) (w:World):Calls Tryz.prog 64 #[aI n,aI t] w (bM w (.bool (bQ n t))):=by
 go_enter Tryz.func64,Tryz.ntmps64
 refine_lift dR fun _ _ => ?_
 refine aK (enters_of Tryz.func116 rfl rfl) rfl rfl (TO n _) ?_
 intro r1 w1 x1 h1
 cases ha:dB n with
 | none =>
  rw [ha] at h1
  obtain ⟨s1,rfl⟩:=h1
  refine_lift dR fun _ _ => ?_
  refine aK (enters_of Tryz.func116 rfl rfl) rfl rfl (TO t _) ?_
  intro r2 w2 x2 h2
  obtain ⟨s2,b2,rfl⟩:∃ s b,r2=.tuple #[s, .bool b]:=by
   cases hb:dB t with
   | none=>rw [hb] at h2;obtain ⟨s,rfl⟩:=h2;exact ⟨s,_,rfl⟩
   | some y=>rw [hb] at h2;obtain ⟨s,rfl,_⟩:=h2;exact ⟨s,_,rfl⟩
  refine_lift bR ?_
  go_ret
  exact ⟨by simp [bQ,ha],x1.trans x2⟩
 | some a =>
  rw [ha] at h1
  obtain ⟨s1,rfl,hs1,hl1⟩:=h1
  refine_lift dR fun _ _ => ?_
  refine aK (enters_of Tryz.func116 rfl rfl) rfl rfl (TO t _) ?_
  intro r2 w2 x2 h2
  cases hb:dB t with
  | none =>
   rw [hb] at h2
   obtain ⟨s2,rfl⟩:=h2
   refine_lift bR ?_
   go_ret
   exact ⟨by simp [bQ,ha,hb],x1.trans x2⟩
  | some b =>
   rw [hb] at h2
   obtain ⟨s2,rfl,hs2,hl2⟩:=h2
   have hs1:=hs1.ext x2
   have tl1:=bA a
   have tl2:=bA b
   refine_lift LM (fun hc => ?_) (fun _ _ hc => ?_)
   ·have hle:b.length≤a.length:=by omega
    have hcut:=hs1.cut (m:=0) (n:=(aP b).length) (Nat.zero_le _) (by omega)
    rw [List.drop_zero] at hcut
    have hcut:Sl 1 w2 (dU s1 1 0 (aP b).length) (aP (a.take b.length)):=by
     rw [tl2] at hcut ⊢
     simpa [aP,List.map_take] using hcut
    refine aD (enters_of Tryz.func117 rfl rfl) rfl rfl (OZ _ _ _ _ _ hcut hs2) ?_;intro w3 x3;refine aA ?_
    refine_lift bR ?_
    go_ret
    exact ⟨by rw [kQ ha hb];rfl,(x1.trans x2).trans x3⟩
   ·go_ret
    refine ⟨?_,x1.trans x2⟩
    have hlt:a.length < b.length:=by omega
    rw [kQ ha hb,decide_eq_false (fun h=>by have:=pJ h;omega)]
    rfl
def oP {α:Type} (p:α→Bool) (l:List α):Int:=match l.findIdx? p with
 | some i=>(i:Int)
 | none=>-1
theorem qJ {α:Type} (p:α→Bool) (l:List α):(∃ (k:Nat) (hk:k < l.length),oP p l=k∧p l[k]=true∧l.find? p=some l[k])∨(oP p l=-1∧l.any p=false∧l.find? p=none):=by
 unfold oP
 cases h:l.findIdx? p with
 | none =>
  rw [List.findIdx?_eq_none_iff] at h
  refine .inr ⟨rfl,?_,?_⟩
  ·rw [List.any_eq_false];intro x hx;simp [h x hx]
  ·rw [List.find?_eq_none];intro x hx;simp [h x hx]
 | some k =>
  rw [List.findIdx?_eq_some_iff_getElem] at h
  obtain ⟨hk,hp,hj⟩:=h
  refine .inl ⟨k,hk,rfl,hp,?_⟩
  rw [List.find?_eq_some_iff_getElem]
  exact ⟨hp,k,hk,rfl,fun j hjk=>by simpa using hj j hjk⟩
theorem CN {α:Type} {p:α→Bool} {l:List α} {k:Nat} (hk:k < l.length) (ha:(l.take k).any p=false) (hp:p l[k]=true):oP p l=k:=by
 have:l.findIdx? p=some k:=by
  rw [List.findIdx?_eq_some_iff_getElem]
  refine ⟨hk,hp,fun j hj => ?_⟩
  rw [List.any_eq_false] at ha
  exact ha l[j] (by rw [List.mem_take_iff_getElem];exact ⟨j,by omega,rfl⟩)
 rw [oP,this]
theorem CO {α:Type} {p:α→Bool} {l:List α} (ha:l.any p=false):oP p l=-1:=by
 have:l.findIdx? p=none:=by
  rw [List.findIdx?_eq_none_iff]
  intro x hx
  rw [List.any_eq_false] at ha
  simpa using ha x hx
 rw [oP,this]
theorem wF {α:Type} (p:α→Bool) (l:List α):decide (0≤oP p l)=l.any p:=by
 rcases qJ p l with ⟨k,hk,e,hp,_⟩ | ⟨e,h,_⟩
 ·rw [e,CG hk hp];simp
 ·rw [e,h];rfl
def SetFn (w:World) (f:FuncId) (caps:Array Value) (l:List RSet) (p:RSet→Bool):Prop :=
 ∀ s ∈ l,∀ x w',Ext w w'→Sl 1 w' x (aP s.data)→Calls Tryz.prog f ([Value.agg #[aI s.name, .int .i64 s.kind, .int .i64 s.ttl,x]].toArray ++ caps) w' (bM w' (.bool (p s)))
theorem SetFn.ext {w w1:World} {f:FuncId} {caps:Array Value} {l:List RSet} {p:RSet→Bool} (h:SetFn w f caps l p) (hx:Ext w w1):SetFn w1 f caps l p :=
 fun s hs x w' hx' hd=>h s hs x w' (hx.trans hx') hd
set_option maxHeartbeats 3000000 in
theorem lX (v:Value) (l:List RSet) (f:FuncId) (caps:Array Value) (p:RSet→Bool) (w:World) (hv:SetsAt w v l) (he:Enters Tryz.prog f) (hf:SetFn w f caps l p):Calls Tryz.prog 122 #[v, .func (.func f) #[] caps] w (bM w (.int .i64 (oP p l))):=by
 obtain ⟨cv,hv1,hvl⟩:=hv.sl
 have hle:=hv1.le
 go_enter Tryz.func122,Tryz.ntmps122
 refine_lift dR fun _ _ => ?_
 go_loopw [5,8] (fun _ i wr=>∃ k:Nat,k≤l.length∧i=.int .i64 k∧Ext w wr∧(l.take k).any p=false) (fun _ i _=>l.length - (intOf i).toNat)
 case atStart=>exact ⟨0,Nat.zero_le _,rfl,Ext.refl _,rfl⟩
 case round =>
  obtain ⟨k,hk,rfl,hx,hall⟩:=hrel
  have hv2:=hv1.ext hx
  by_cases hlt:k < l.length
  ·obtain ⟨x,h4,h4d⟩:=(hv.ext hx).elem (List.getElem?_eq_getElem hlt)
   refine_lift xG ?_;intro _ _ _ _ _ _
   refine fL he rfl rfl rfl (hf _ (List.getElem_mem hlt) x _ hx h4d) ?_
   rintro e w2 ⟨rfl,x2⟩
   refine ⟨_,rfl,?_⟩
   refine aA ?_
   cases hp:p l[k] with
   | true =>
    refine_lift bR ?_
    go_ret
    exact ⟨by rw [CN hlt hall hp];rfl,hx.trans x2⟩
   | false =>
    refine_lift bR ?_
    exact ⟨⟨k + 1,by omega,by go_num,hx.trans x2,iL hlt hall hp⟩,by simp [intOf];omega⟩
  ·have:k=l.length:=by omega
   subst this
   rw [List.take_length] at hall
   refine_lift jP fun _ => ?_
   go_ret
   exact ⟨by rw [CO hall];rfl,hx⟩
theorem lK (v:Value) (l:List RSet) (f:FuncId) (caps:Array Value) (p:RSet→Bool) (w:World) (hv:SetsAt w v l) (he:Enters Tryz.prog f) (hf:SetFn w f caps l p):Calls Tryz.prog 113 #[v, .func (.func f) #[] caps] w (bM w (.bool (l.any p))):=by
 go_enter Tryz.func113,Tryz.ntmps113
 refine_lift dR fun _ _ => ?_
 refine aD (enters_of Tryz.func122 rfl rfl) rfl rfl (lX v l f caps p _ hv he hf) ?_;intro w1 x1;refine aA ?_
 refine_lift bR ?_
 go_ret
 exact ⟨by rw [← wF];rfl,x1⟩
set_option maxHeartbeats 3000000 in
theorem SC (o n:List UInt8) (v pz pn:Value) (s:RSet) (x:Value) (w:World) (hz:Pts w pz [aI o,v]) (hn:Pts w pn [aI n]):Calls Tryz.prog 210 #[.agg #[aI s.name, .int .i64 s.kind, .int .i64 s.ttl,x],pz,pn] w (bM w (.bool (fQ o n s))):=by
 go_enter Tryz.func210,Tryz.ntmps210
 refine_lift lF fun _ _ => ?_
 refine bJ (vs:=[aI s.name, .int .i64 s.kind, .int .i64 s.ttl,x]) rfl rfl ?_
 intro p w1 x1 hp
 refine aA ?_
 have hz1:=hz.ext x1
 have hn1:=hn.ext x1
 refine_lift DZ (fun hc hc => ?_) (fun hc => ?_) (fun _ _ hc hc => ?_)
 ·have hk:=‹s.kind=2›
  have hne:=‹(!decide (s.name=o))=true›
  refine aD (enters_of Tryz.func64 rfl rfl) rfl rfl (sX n s.name _) ?_;intro w2 x2;refine aA ?_
  refine_lift bR ?_
  go_ret
  refine ⟨?_,x1.trans x2⟩
  have hne':s.name≠o:=by simpa using hne
  simp [fQ,hk,hne']
 all_goals
  go_ret
  refine ⟨?_,x1⟩
  simp_all [fQ]
set_option maxHeartbeats 3000000 in
theorem QN (o:List UInt8) (v:Value) (l:List RSet) (n:List UInt8) (w:World) (hv:SetsAt w v l):Calls Tryz.prog 168 #[.agg #[aI o,v],aI n] w (bM w (.tuple #[aI (eH o l n).1, .bool (eH o l n).2])):=by
 obtain ⟨cv,hv1,hvl⟩:=hv.sl
 go_enter Tryz.func168,Tryz.ntmps168
 refine_lift lF fun _ _ => ?_
 refine bJ (vs:=[aI o,v]) rfl rfl ?_
 intro pz w1 x1 hz
 refine aA ?_
 refine_lift TN ?_
 refine bJ (vs:=[aI n]) rfl rfl ?_
 intro pn w2 x2 hn
 refine aA ?_
 have hx2:=x1.trans x2
 have hz2:=hz.ext x2
 refine_lift dR fun _ _ => ?_
 have hf:SetFn w2 210 #[pz,pn] l (fQ o n):=fun s _ x w' hx' _=>SC o n v pz pn s x w' (hz2.ext hx') (hn.ext hx')
 refine aD (enters_of Tryz.func122 rfl rfl) rfl rfl (lX v l 210 #[pz,pn] (fQ o n) _ (hv.ext hx2) (enters_of Tryz.func210 rfl rfl) hf) ?_;intro w3 x3;refine aA ?_
 have hx3:=hx2.trans x3
 have hz3:=hz2.ext x3
 rcases qJ (fQ o n) l with ⟨k,hk,e,hp,hfi⟩ | ⟨e,h,hfi⟩
 ·rw [e]
  obtain ⟨x,h4,h4d⟩:=(hv.ext hx3).elem (List.getElem?_eq_getElem hk)
  have hv3:=hv1.ext hx3
  refine_lift jP fun _ => ?_
  go_ret2
  exact ⟨by simp only [eH,hfi];rfl,hx3⟩
 ·rw [e]
  refine_lift jP fun _ => ?_
  go_ret2
  exact ⟨by simp only [eH,hfi];rfl,hx3⟩
end Go.Proofs.X
