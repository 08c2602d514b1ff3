/- Laws and walks that the proof of the statement is made of (part 8). -/
import Derived.Test.YtfkckeaadnoeiaaGreatP7
set_option linter.unusedSimpArgs false
set_option linter.unusedVariables false
set_option maxRecDepth 100000
set_option maxHeartbeats 20000000
namespace Go.Proofs.X
open Go.RowKit
variable {cs:Array Value} {held:Bool} {qt:Int} {ps rs:List (List UInt8×Nat)} {ls:List (List UInt8)} {css css0 es:List (List Value)} {d l m n o qn s t x y z:List UInt8} {B a b base c e fuel i j k p q:Nat} {fz:Nat×Nat} {row:Option Nat} {r u v:Value} {w w' w0 w1 w2:World}
theorem rB (n a b:Int) (w:World):Calls Tryz.prog 130 #[.int .i64 n, .int .i64 a, .int .i64 b] w (bC w (.bool (iK n a b))):=by
 go_enter Tryz.func130,Tryz.ntmps130
 refine_lift lP (fun hc=>?_) (fun hc=>?_)
 all_goals
  go_ret;refine ⟨?_,Ext.refl _⟩;simp [iK];omega
theorem BA (q:mU) (w:World):Calls Tryz.prog 87 #[.agg #[aE q.1, .int .i64 q.2]] w (bC w (.bool (AT q))):=by
 go_enter Tryz.func87,Tryz.ntmps87
 refine_lift mT fun _ _=>?_;refine mW (vs:=[aE q.1, .int .i64 q.2]) fun p w1 x1 hp=>?_;refine aB ?_;refine_lift bU fun _ _=>?_;refine cB ((show Calls Tryz.prog 52 #[aE q.1] w1 (bC w1 (.int .i64 (eH q.1))) from PO q.1 w1)) fun w2 x2=>?_;have hp2:=hp.ext x2;by_cases hcE:eH q.1=0
 ·rw [hcE];refine_lift aT ?_;refine cB (rB q.2 1 65535 _) fun w3 x3=>?_;have hp3:=hp2.ext x3;cases hw:iK q.2 1 65535 with
  | false =>
   refine_lift aT ?_;go_ret;refine ⟨?_,(x1.trans x2).trans x3⟩;simp only [iK]at hw;simp [AT,hcE,hw]
  | true =>
   refine_lift aT ?_;go_ret;refine ⟨?_,(x1.trans x2).trans x3⟩;simp only [iK]at hw;simp [AT,hcE,hw]
 ·refine_lift lP (fun hc=>?_) (fun hc=>?_)
  all_goals first
   | (exfalso;contradiction)
   | skip
  go_ret;refine ⟨?_,x1.trans x2⟩;simp [AT,hcE]
theorem VN (r:Rec) (w:World):Calls Tryz.prog 176 #[.agg #[aE r.name, .int .i64 r.kind, .int .i64 r.ttl,aE r.data]] w (bC w (.bool (!decide (bI r=0)))):=by
 go_enter Tryz.func176,Tryz.ntmps176
 refine_lift mT fun _ _=>?_;refine mW (vs:=[aE r.name, .int .i64 r.kind, .int .i64 r.ttl,aE r.data]) fun p w1 x1 hp=>?_;refine aB ?_;refine_lift bU fun _ _=>?_;refine cB (Cf r _) fun w2 x2=>?_;refine_lift aT ?_;go_ret;exact ⟨rfl,x1.trans x2⟩
theorem vY (v:Value) (l:List Rec) (w:World) (hv:Sl 4 w v (aF l)):Calls Tryz.prog 133 #[v] w (bC w (.bool (jK l))):=by
 have hlen:=aJ l;go_enter Tryz.func133,Tryz.ntmps133
 refine_lift HO (fun hc=>?_) (fun _ _ hc=>?_)
 ·have h2:decide (l.length≤200)=true:=decide_eq_true aC;refine cB (yE v l _ (fun r => !decide (bI r=0)) _ hv (enters_of Tryz.func176 rfl rfl) (fun r _ w'=>VN r w')) fun w1 x1=>?_;refine_lift aT ?_;go_ret;refine ⟨?_,x1⟩;rw [jK,h2];rfl
 ·have h2:decide (l.length≤200)=false:=decide_eq_false aC;go_ret;refine ⟨?_,Ext.refl _⟩;rw [jK,h2];rfl
theorem EE (q:mU) (w:World):Calls Tryz.prog 132 #[.agg #[aE q.1, .int .i64 q.2]] w (bC w (.bool (!AT q))):=by
 go_enter Tryz.func132,Tryz.ntmps132
 refine_lift mT fun _ _=>?_;refine mW (vs:=[aE q.1, .int .i64 q.2]) fun p w1 x1 hp=>?_;refine aB ?_;refine_lift bU fun _ _=>?_;refine cB (BA q _) fun w2 x2=>?_;refine_lift aT ?_;go_ret;exact ⟨rfl,x1.trans x2⟩
def XX (f:FuncId) (l:List mU) (p:mU→Bool):Prop:=∀ r∈l,∀ w',Calls Tryz.prog f #[.agg #[aE r.1, .int .i64 r.2]] w' (bC w' (.bool (p r)))
theorem rV {l:List mU} (h:k<l.length):(cV l)[k]? = some [aE l[k].1, .int .i64 l[k].2]:=by
 simp [cV,List.getElem?_eq_getElem h]
theorem FO (v:Value) (l:List mU) (f:FuncId) (p:mU→Bool) (w:World) (hv:Sl 2 w v (cV l)) (he:Enters Tryz.prog f) (hf:XX f l p):Calls Tryz.prog 174 #[v, .func (.func f) #[] #[]] w (bC w (.int .i64 (oO p l))):=by
 have hle:=hv.le;have hlen:=eR l;go_enter Tryz.func174,Tryz.ntmps174
 refine_lift bU fun _ _=>?_;go_loopw [5,8] (fun _ i wr=>∃ k:Nat,k≤l.length∧i=.int .i64 k∧Ext w wr∧(l.take k).any p=false) (fun _ i _=>l.length - (intOf i).toNat)
 case atStart=>exact ⟨0,Nat.zero_le _,rfl,Ext.refl _,rfl⟩
 case round =>
  obtain ⟨k,hk,rfl,hx,hall⟩:=hrel;have hv2:=hv.ext hx;by_cases hlt:k<l.length
  ·have hpe:=hv2.elem (rV hlt);refine_lift rR ?_;intro _ _ _ _ _ _;refine dW he rfl rfl rfl (hf _ (List.getElem_mem hlt) _) ?_;rintro e w2 ⟨rfl,x2⟩;refine ⟨_,rfl,?_⟩;refine aB ?_;cases hp:p l[k] with
   | true =>
    refine_lift aT ?_;go_ret;exact ⟨by rw [vT hlt hall hp];rfl,hx.trans x2⟩
   | false =>
    refine_lift aT ?_;exact ⟨⟨k+1,aC,by go_num,hx.trans x2,oL hlt hall hp⟩,by simp [intOf];omega⟩
  ·have:k=l.length:=aC;subst this;rw [List.take_length]at hall;refine_lift jQ fun _=>?_;go_ret;exact ⟨by rw [vU hall];rfl,hx⟩
theorem pY (v:Value) (l:List mU) (f:FuncId) (p:mU→Bool) (w:World) (hv:Sl 2 w v (cV l)) (he:Enters Tryz.prog f) (hf:XX f l p):Calls Tryz.prog 131 #[v, .func (.func f) #[] #[]] w (bC w (.bool (l.any p))):=by
 go_enter Tryz.func131,Tryz.ntmps131
 refine_lift bU fun _ _=>?_;refine cB (FO v l f p _ hv he hf) fun w1 x1=>?_;refine_lift aT ?_;go_ret;exact ⟨by rw [← uL];rfl,x1⟩
theorem kS {l:List mU} {b:Bool} (h:l.any (fun r => !AT r)=b):l.all AT = !b:=by
 rw [← h,List.all_eq_not_any_not]
theorem BC (m:MsgR) (q a u e:Value) (w:World) (hm:MsgV w m q a u e):Calls Tryz.prog 73 #[.agg (aP m q a u e).toArray] w (bC w (.int .i64 (dY m))):=by
 go_enter Tryz.func73,Tryz.ntmps73
 refine_lift mT fun _ _=>?_;refine mW (vs:=aP m q a u e) fun p w1 x1 hp=>?_;refine aB ?_;unfold aP at hp;have hm0:=hm;obtain ⟨hq0,ha0,hu0,he0⟩:=hm;have hq1:=hq0.ext x1;have hm:=hm0;refine_lift bU fun _ _=>?_
 all_goals first
  | (exfalso;contradiction)
  | (exfalso;omega)
  | skip
 refine cB (rB m.id 0 65535 _) fun w2 x2=>?_;have hx2:=(Ext.refl w1).trans x2;have hp2:=hp.ext hx2;cases h2:iK m.id 0 65535 with
 | false =>
  refine_lift aT ?_
  all_goals first
   | (exfalso;contradiction)
   | (exfalso;omega)
   | skip
  go_ret;refine ⟨?_,x1.trans hx2⟩;simp [dY,h2]
 | true =>
  refine_lift aT ?_
  all_goals first
   | (exfalso;contradiction)
   | (exfalso;omega)
   | skip
  refine cB (rB m.op 0 15 _) fun w3 x3=>?_;have hx3:=hx2.trans x3;have hp3:=hp.ext hx3;cases h3:iK m.op 0 15 with
  | false =>
   refine_lift aT ?_
   all_goals first
    | (exfalso;contradiction)
    | (exfalso;omega)
    | skip
   go_ret;refine ⟨?_,x1.trans hx3⟩;simp [dY,h2,h3]
  | true =>
   refine_lift aT ?_
   all_goals first
    | (exfalso;contradiction)
    | (exfalso;omega)
    | skip
   refine cB (rB m.rcode 0 15 _) fun w4 x4=>?_;have hx4:=hx3.trans x4;have hp4:=hp.ext hx4;cases h4:iK m.rcode 0 15 with
   | false =>
    refine_lift aT ?_
    all_goals first
     | (exfalso;contradiction)
     | (exfalso;omega)
     | skip
    go_ret;refine ⟨?_,x1.trans hx4⟩;simp [dY,h2,h3,h4]
   | true =>
    by_cases hz:m.size=0
    ·clear hm0;by_cases hl:m.qs.length≤10
     ·have hl0:((cV m.qs).length:Int)≤10:=by rw [eR];omega
      refine_lift QA (fun hc _ _ hc=>?_) (fun hc hc _ _=>?_) (fun hc=>?_)
      all_goals first
       | (exfalso;contradiction)
       | (exfalso;omega)
       | skip
      refine cB (pY q m.qs _ (fun r => !AT r) _ ((hm.qs.ext x1).ext hx4) (enters_of Tryz.func132 rfl rfl) (fun r _ w'=>EE r w')) fun w7 x7=>?_;have hx7:=hx4.trans x7;have hp7:=hp.ext hx7;cases h7:m.qs.any (fun r => !AT r) with
      | true =>
       refine_lift aT ?_
       all_goals first
        | (exfalso;contradiction)
        | (exfalso;omega)
        | skip
       go_ret;refine ⟨?_,x1.trans hx7⟩;simp [dY,h2,h3,h4,hz,hl,kS h7]
      | false =>
       refine_lift mH fun _ _ _ _=>?_
       all_goals first
        | (exfalso;contradiction)
        | (exfalso;omega)
        | skip
       refine cB (vY a m.an _ ((hm.an.ext x1).ext hx7)) fun w8 x8=>?_;have hx8:=hx7.trans x8;have hp8:=hp.ext hx8;cases h8:jK m.an with
       | false =>
        refine_lift aT ?_
        all_goals first
         | (exfalso;contradiction)
         | (exfalso;omega)
         | skip
        go_ret;refine ⟨?_,x1.trans hx8⟩;simp [dY,h2,h3,h4,hz,hl,kS h7,h8]
       | true =>
        refine_lift aT ?_
        all_goals first
         | (exfalso;contradiction)
         | (exfalso;omega)
         | skip
        refine cB (vY u m.au _ ((hm.au.ext x1).ext hx8)) fun w9 x9=>?_;have hx9:=hx8.trans x9;have hp9:=hp.ext hx9;cases h9:jK m.au with
        | false =>
         refine_lift aT ?_
         all_goals first
          | (exfalso;contradiction)
          | (exfalso;omega)
          | skip
         go_ret;refine ⟨?_,x1.trans hx9⟩;simp [dY,h2,h3,h4,hz,hl,kS h7,h8,h9]
        | true =>
         refine_lift aT ?_
         all_goals first
          | (exfalso;contradiction)
          | (exfalso;omega)
          | skip
         refine cB (vY e m.ex _ ((hm.ex.ext x1).ext hx9)) fun w10 x10=>?_;have hx10:=hx9.trans x10;have hp10:=hp.ext hx10;cases h10:jK m.ex with
         | false =>
          refine_lift aT ?_
          all_goals first
           | (exfalso;contradiction)
           | (exfalso;omega)
           | skip
          go_ret;refine ⟨?_,x1.trans hx10⟩;simp [dY,h2,h3,h4,hz,hl,kS h7,h8,h9,h10]
         | true =>
          refine_lift aT ?_
          all_goals first
           | (exfalso;contradiction)
           | (exfalso;omega)
           | skip
          go_ret;refine ⟨?_,x1.trans hx10⟩;simp [dY,h2,h3,h4,hz,hl,kS h7,h8,h9,h10]
     ·have hl0:¬ ((cV m.qs).length:Int)≤10:=by rw [eR];omega
      refine_lift QA (fun hc _ _ hc=>?_) (fun hc hc _ _=>?_) (fun hc=>?_)
      all_goals first
       | (exfalso;contradiction)
       | (exfalso;omega)
       | skip
      go_ret;refine ⟨?_,x1.trans hx4⟩;simp [dY,h2,h3,h4,hz,hl]
    ·clear hm0;refine_lift QA (fun hc _ _ hc=>?_) (fun hc hc _ _=>?_) (fun hc=>?_)
     all_goals first
      | (exfalso;contradiction)
      | (exfalso;omega)
      | skip
     refine cB (rB m.size 512 65535 _) fun w6 x6=>?_;have hx6:=hx4.trans x6;have hp6:=hp.ext hx6;cases h6:iK m.size 512 65535 with
     | false =>
      refine_lift aT ?_
      all_goals first
       | (exfalso;contradiction)
       | (exfalso;omega)
       | skip
      go_ret;refine ⟨?_,x1.trans hx6⟩;simp [dY,h2,h3,h4,hz,h6]
     | true =>
      by_cases hl:m.qs.length≤10
      ·have hl0:((cV m.qs).length:Int)≤10:=by rw [eR];omega
       refine_lift BX (fun hc _ _=>?_) (fun _ _ hc=>?_)
       all_goals first
        | (exfalso;contradiction)
        | (exfalso;omega)
        | skip
       refine cB (pY q m.qs _ (fun r => !AT r) _ ((hm.qs.ext x1).ext hx6) (enters_of Tryz.func132 rfl rfl) (fun r _ w'=>EE r w')) fun w8 x8=>?_;have hx8:=hx6.trans x8;have hp8:=hp.ext hx8;cases h8:m.qs.any (fun r => !AT r) with
       | true =>
        refine_lift aT ?_
        all_goals first
         | (exfalso;contradiction)
         | (exfalso;omega)
         | skip
        go_ret;refine ⟨?_,x1.trans hx8⟩;simp [dY,h2,h3,h4,hz,h6,hl,kS h8]
       | false =>
        refine_lift mH fun _ _ _ _=>?_
        all_goals first
         | (exfalso;contradiction)
         | (exfalso;omega)
         | skip
        refine cB (vY a m.an _ ((hm.an.ext x1).ext hx8)) fun w9 x9=>?_;have hx9:=hx8.trans x9;have hp9:=hp.ext hx9;cases h9:jK m.an with
        | false =>
         refine_lift aT ?_
         all_goals first
          | (exfalso;contradiction)
          | (exfalso;omega)
          | skip
         go_ret;refine ⟨?_,x1.trans hx9⟩;simp [dY,h2,h3,h4,hz,h6,hl,kS h8,h9]
        | true =>
         refine_lift aT ?_
         all_goals first
          | (exfalso;contradiction)
          | (exfalso;omega)
          | skip
         refine cB (vY u m.au _ ((hm.au.ext x1).ext hx9)) fun w10 x10=>?_;have hx10:=hx9.trans x10;have hp10:=hp.ext hx10;cases h10:jK m.au with
         | false =>
          refine_lift aT ?_
          all_goals first
           | (exfalso;contradiction)
           | (exfalso;omega)
           | skip
          go_ret;refine ⟨?_,x1.trans hx10⟩;simp [dY,h2,h3,h4,hz,h6,hl,kS h8,h9,h10]
         | true =>
          refine_lift aT ?_
          all_goals first
           | (exfalso;contradiction)
           | (exfalso;omega)
           | skip
          refine cB (vY e m.ex _ ((hm.ex.ext x1).ext hx10)) fun w11 x11=>?_;have hx11:=hx10.trans x11;have hp11:=hp.ext hx11;cases h11:jK m.ex with
          | false =>
           refine_lift aT ?_
           all_goals first
            | (exfalso;contradiction)
            | (exfalso;omega)
            | skip
           go_ret;refine ⟨?_,x1.trans hx11⟩;simp [dY,h2,h3,h4,hz,h6,hl,kS h8,h9,h10,h11]
          | true =>
           refine_lift aT ?_
           all_goals first
            | (exfalso;contradiction)
            | (exfalso;omega)
            | skip
           go_ret;refine ⟨?_,x1.trans hx11⟩;simp [dY,h2,h3,h4,hz,h6,hl,kS h8,h9,h10,h11]
      ·have hl0:¬ ((cV m.qs).length:Int)≤10:=by rw [eR];omega
       refine_lift BX (fun hc _ _=>?_) (fun _ _ hc=>?_)
       all_goals first
        | (exfalso;contradiction)
        | (exfalso;omega)
        | skip
       go_ret;refine ⟨?_,x1.trans hx6⟩;simp [dY,h2,h3,h4,hz,h6,hl]
structure MsgsV (B:Nat) (w:World) (v:Value) (ms:List MsgR):Prop where
 out:∃ css,Own B 13 54 w v css∧css.length=ms.length∧∀ (i:Nat) (m:MsgR),ms[i]? = some m→∃ q a,css[i]? = some (aP m q a (.slice none 0 0) (.slice none 0 0))∧Own B 2 25 w q (cV m.qs)∧Own B 4 37 w a (aF m.an)∧m.au=[]∧m.ex=[]
theorem MsgsV.nil (B:Nat) (w:World):MsgsV B w (.slice none 0 0) []:=⟨[],Own.nil _ _ _ _,rfl,aX⟩
theorem MsgsV.ext {ms:List MsgR} (h:MsgsV B w v ms) (hx:Ext w w'):MsgsV B w' v ms:=by
 obtain ⟨css,h1,h2,h3⟩:=h;exact ⟨css,h1.ext hx,h2,fun i m hi=>let ⟨q,a,b,c,d,e,f⟩:=h3 i m hi;⟨q,a,b,c.ext hx,d.ext hx,e,f⟩⟩
theorem MsgsV.weaken {C:Nat} {ms:List MsgR} (h:MsgsV B w v ms) (hc:C≤B):MsgsV C w v ms:=by
 obtain ⟨css,h1,h2,h3⟩:=h;exact ⟨css,h1.weaken hc,h2,fun i m hi=>let ⟨q,a,b,c,d,e,f⟩:=h3 i m hi;⟨q,a,b,c.weaken hc,d.weaken hc,e,f⟩⟩
theorem MsgsV.put {t:Nat} {ms:List MsgR} {o:Obj} (h:MsgsV B w v ms) (hb:w.heap[b]? = some (.cells cs t fz)) (h1:t≠54) (h2:t≠25) (h3:t≠37) (hp:Put w w' b o):MsgsV B w' v ms:=by
 obtain ⟨css,a,c,e⟩:=h;exact ⟨css,a.mv hp.mv (.inr (a.neBlock hb h1)),c,fun i d hi=>let ⟨g,n,x,y,z,u⟩:=e i d hi;⟨g,n,x,y.mv hp.mv (.inr (y.neBlock hb h2)),z.mv hp.mv (.inr (z.neBlock hb h3)),u⟩⟩
theorem MsgsV.add {v' q a:Value} {ms:List MsgR} {m:MsgR} (h1:Own B 13 54 w v css) (h2:css.length=ms.length)
 (h3:∀ (i:Nat) (m:MsgR),ms[i]? = some m→∃ q a,css[i]? = some (aP m q a (.slice none 0 0) (.slice none 0 0))∧Own B 2 25 w q (cV m.qs)∧Own B 4 37 w a (aF m.an)∧m.au=[]∧m.ex=[]) (hm:Mv v.ownBlock w w')
 (o:Own B 13 54 w' v' (css ++ [aP m q a (.slice none 0 0) (.slice none 0 0)])) (hq:Own B 2 25 w q (cV m.qs)) (ha:Own B 4 37 w a (aF m.an)) (hu:m.au=[]) (he:m.ex=[]):MsgsV B w' v' (ms ++ [m]):=by
 refine ⟨_,o,by simp [h2],fun i x hi=>?_⟩;by_cases hlt:i<ms.length
 ·rw [List.getElem?_append_left hlt]at hi;obtain ⟨q',a',b,c,d,e⟩:=h3 i x hi;exact ⟨q',a',by rw [List.getElem?_append_left aC];exact b,c.mv hm (c.ne h1 aK),d.mv hm (d.ne h1 aK),e⟩
 ·rw [List.getElem?_append_right aC]at hi;have hi0:i - ms.length=0:=by
   have:=(List.getElem?_eq_some_iff.1 hi).1;simp only [List.length_cons,List.length_nil]at this;omega
  rw [hi0]at hi;have hx:m=x:=by simpa using hi
  subst hx;have:i=css.length:=aC;subst this;exact ⟨q,a,by rw [List.getElem?_append_right (Nat.le_refl _)];simp,hq.mv hm (hq.ne h1 aK),ha.mv hm (ha.ne h1 aK),hu,he⟩
theorem KU {l:List mU}:∀ f∈cV l,∀ u∈f,u.oneCell'=true:=by
 intro f hf u hu;simp only [cV,List.mem_map]at hf;obtain ⟨q,_,rfl⟩:=hf;simp only [List.mem_cons,List.not_mem_nil,or_false]at hu;rcases hu with rfl|rfl<;>rfl
def bX (l:List Rec) (z:List UInt8):List Rec:=l.filter fun r=>decide (bI r=0)&&bW r.name z
structure JudR where
 qn:List UInt8
 qt:Int
 zone:List UInt8
 code:Int
 an:List Rec
 au:List Rec
def oR (a b:List UInt8):Bool:=decide (fold a=fold b)
def JudR.ansP (j:JudR) (r:Rec):Bool:=oR r.name j.qn&&(decide (r.kind=j.qt)||decide (j.qt=255))
def JudR.aliP (j:JudR) (r:Rec):Bool:=oR r.name j.qn&&decide (r.kind=5)
def JudR.denP (j:JudR) (r:Rec):Bool:=decide (r.kind=6)&&bW j.qn r.name
def JudR.answer (j:JudR):Int×List UInt8:=if j.an.any j.ansP=true then (1,fold j.qn)else (0,[])
def JudR.alias (j:JudR):Int×List UInt8:=match j.an.find? j.aliP with
 | none=>(0,[])
 | some r=>(5,fold (aQ 5 r.data).1)
def JudR.denial (j:JudR):Int×List UInt8:=match j.au.find? j.denP with
 | none=>(0,[])
 | some r=>if j.code=3 then (3,fold r.name)else (2,fold r.name)
def RV (n:List UInt8):Int:=(((aM n).getD []).length:Nat)
def JudR.step (j:JudR) (s:List UInt8×Int) (r:Rec):List UInt8×Int :=
 if r.kind=2∧bW j.qn (fold r.name)=true∧oR (fold r.name) j.zone=false∧s.2<RV (fold r.name)then (fold r.name,RV (fold r.name))else s
def JudR.best (j:JudR):List UInt8×Int:=j.au.foldl j.step ([],-1)
def JudR.referral (j:JudR):Int×List UInt8:=if j.best.2<0∨j.code≠0 then (6,[])else (4,j.best.1)
def fF (qn:List UInt8) (qt:Int) (m:MsgR) (zone:List UInt8):Int×List UInt8 :=
 if bW qn zone=false∨m.trunc=true∨(m.rcode≠0∧m.rcode≠3)then (0,[]) else
 let j:JudR:=⟨qn,qt,zone,m.rcode,bX m.an zone,bX m.au zone⟩
 if j.answer.1≠0 then j.answer else if j.alias.1≠0 then j.alias else if j.denial.1≠0 then j.denial else j.referral
structure ActR where
 kind:Int
 to:Int
 qn:List UInt8
 qt:Int
 code:Int
 ans:List Rec
 auth:List Rec
 deriving DecidableEq
structure TaskR where
 qn:List UInt8
 qt:Int
 roots:List Int
 zone:List UInt8
 servers:List Int
 got:List Rec
 chain:Int
 left:Int
 stop:Option ActR
structure LrnR where
 set:RSet
 rank:Int
def TaskR.done (t:TaskR) (code:Int) (ans auth:List Rec):TaskR×ActR:=({ t with stop:=some ⟨2,0,[],0,code,ans,auth⟩ },⟨2,0,[],0,code,ans,auth⟩)
def TaskR.on (t:TaskR):TaskR×ActR:=match t.servers with
 | []=>t.done 2 [] []
 | s::rest=>if t.left=0 then t.done 2 [] []else ({ t with servers:=rest,left:=t.left - 1 },⟨1,s,t.qn,t.qt,0,[],[]⟩)
def jU (r:Rec):Rec:={ r with name:=fold r.name }
def TaskR.of (t:TaskR) (l:List Rec) (n:List UInt8) (k:Int):List Rec :=
 ((bX l t.zone).map jU).filter fun r=>decide (r.name=fold n)&&(decide (r.kind=k)||decide (k=255))
def fQ (l:List Rec) (rank:Int):List LrnR:=if qT l=0 then (cA l).map fun s=>⟨s,rank⟩else []
def pZ (d:List UInt8):Option Int:=if d.take 3=[10,0,0]then match d.drop 3 with | [x]=>if 99<x.toNat then none else some (x.toNat:Nat)|_=>none else none
def jL (s:List Int) (l:List Rec):List Int:=l.foldl (fun s a=>match pZ a.data with|none=>s|some n=>if n∈s then s else s ++ [n]) s
structure RfrR where
 seen:List (List UInt8)
 servers:List Int
 learnt:List LrnR
def TaskR.refStep (t:TaskR) (ex:List Rec) (s:RfrR) (r:Rec):RfrR :=
 let h:=fold (aQ 2 r.data).1
 if h∈s.seen then s else
 let a:=t.of ex h 1
 ⟨s.seen ++ [h],jL s.servers a,s.learnt++fQ a 1⟩
def TaskR.refer (t:TaskR) (m:MsgR) (z:List UInt8):TaskR×List LrnR :=
 let ns:=t.of m.au z 2
 let s:=ns.foldl (t.refStep m.ex) ⟨[],[],fQ ns 2⟩
 ({ t with servers:=s.servers,zone:=z },s.learnt)
def TaskR.follow (t:TaskR) (n:List UInt8):TaskR×ActR :=
 if t.chain=8 then t.done 2 [] []else { t with chain:=t.chain+1,qn:=n,zone:=[],servers:=t.roots }.on
def IW (m:MsgR):Int:=if m.auth=true then 4 else 3
def TaskR.reply (t:TaskR) (m:MsgR):TaskR×ActR×List LrnR:=match t.stop with
 | some a=>(t,a,[])
 | none =>
  let j:=fF t.qn t.qt m t.zone
  if j.1=1 then
   let l:=t.of m.an t.qn t.qt
   let d:={ t with got:=t.got++l }.done 0 (t.got++l) []
   (d.1,d.2,fQ l (IW m))
  else if j.1=5 then
   let l:=(t.of m.an t.qn 5).take 1
   let d:={ t with got:=t.got++l }.follow j.2
   (d.1,d.2,fQ l (IW m))
  else if j.1=3 then
   let d:=t.done 3 t.got ((t.of m.au j.2 6).take 1)
   (d.1,d.2,[])
  else if j.1=2 then
   let d:=t.done 0 t.got ((t.of m.au j.2 6).take 1)
   (d.1,d.2,[])
  else if j.1=4 then
   let d:=(t.refer m j.2).1.on
   (d.1,d.2,(t.refer m j.2).2)
  else (t.on.1,t.on.2,[])
def nL (qn:List UInt8) (qt:Int) (roots:List Int) (budget:Int):Int :=
 if eH qn=0∧(1≤qt∧qt≤65535)∧(1≤roots.length∧roots.length≤20)∧(1≤budget∧budget≤100)∧roots.any (fun n => !(decide (0≤n)&&decide (n≤99)))=false then 0 else 1
def eG (qn:List UInt8) (qt:Int) (roots:List Int) (budget:Int):TaskR:=⟨fold qn,qt,roots,[],roots,[],0,budget,none⟩
structure TaskOk (t:TaskR):Prop where
 left:0≤t.left
 zone:t.zone=[]∨bW t.zone t.zone=true
 stop:∀ a,t.stop=some a→a.kind=2
def ZT (t t':TaskR) (a:ActR):Prop:=(a.kind=1∧t.stop=none∧t'.stop=none∧t'.left=t.left - 1∧1≤t.left)∨(a.kind=2∧t'.stop=some a∧t'.left=t.left)
theorem TaskOk.step {t t':TaskR} {a:ActR} (ht:TaskOk t) (h:ZT t t' a) (hz:t'.zone=[]∨bW t'.zone t.zone=true):TaskOk t':=by
 refine ⟨?_,?_,?_⟩
 ·have:=ht.left;rcases h with ⟨_,_,_,h,k⟩|⟨_,_,h⟩<;>omega
 ·rcases hz with hz|hz
  ·exact .inl hz
  ·exact .inr (AI (uK hz).1)
 ·intro b hb;rcases h with ⟨_,_,h,_⟩|⟨h1,h2,_⟩
  ·rw [h]at hb;cases hb
  ·rw [h2]at hb;cases hb;exact h1
def iR:List Value:=[aE [], .int .i64 0, .int .i64 0,aE []]
theorem vZ {ts:List Value} {df:List Deferred} {x:Operand} {r:Rec} (h:(Act.mk ts.toArray df).eval x=.agg #[aE r.name, .int .i64 r.kind, .int .i64 r.ttl,aE r.data]):ElemIs (Act.mk ts.toArray df) x 4 [aE r.name, .int .i64 r.kind, .int .i64 r.ttl,aE r.data] :=
 ElemIs.mk h rfl rfl (by simp [aE,Value.oneCell'])
theorem yO (a b:List UInt8) (w:World):Calls Tryz.prog 182 #[aE a,aE b] w (bC w (.bool (oR a b))):=by
 go_enter Tryz.func182,Tryz.ntmps182
 refine_lift bU fun _ _=>?_;refine cB (vQ a _) fun w1 x1=>?_;refine_lift aT ?_;refine cB (vQ b _) fun w2 x2=>?_;refine_lift aT ?_;go_ret;exact ⟨rfl,x1.trans x2⟩
theorem XY (n a b:Int) (w:World):Calls Tryz.prog 192 #[.int .i64 n, .int .i64 a, .int .i64 b] w (bC w (.bool (decide (a≤n)&&decide (n≤b)))):=by
 go_enter Tryz.func192,Tryz.ntmps192
 refine_lift lP (fun hc=>?_) (fun hc=>?_)
 ·have hc:=‹a≤n›;go_ret;exact ⟨by rw [decide_eq_true hc];rfl,Ext.refl _⟩
 ·have hc:=‹¬ a≤n›;go_ret;exact ⟨by rw [decide_eq_false hc];rfl,Ext.refl _⟩
theorem IX {l:List Rec} (h:k<l.length):bX (l.take (k+1)) z=bX (l.take k) z++if (decide (bI l[k]=0)&&bW l[k].name z)=true then [l[k]]else []:=by
 unfold bX;rw [List.take_succ_eq_append_getElem h,List.filter_append]
 congr 1
 simp [List.filter_cons]
theorem tE (l:List Rec) (z:List UInt8):(bX l z).length≤l.length:=List.length_filter_le _ _
theorem BD (v:Value) (l:List Rec) (z:List UInt8) (w:World) (hv:Sl 4 w v (aF l)) (hl:l.length≤100000):Calls Tryz.prog 233 #[v,aE z] w (kZ w fun r w'=>Own w.heap.size 4 37 w' r (aF (bX l z))):=by
 have hlen:=aJ l;go_enter Tryz.func233,Tryz.ntmps233
 refine_lift lQ ?_;intro _ _ _;go_loopw [5,10] (fun o i wr=>∃ k:Nat,k≤l.length∧i=.int .i64 k∧Ext w wr∧Own w.heap.size 4 37 wr o (aF (bX (l.take k) z))) (fun _ i _=>l.length - (intOf i).toNat)
 case atStart=>exact ⟨0,Nat.zero_le _,rfl,Ext.refl _,by simpa [bX,aF]using Own.nil _ _ _ _⟩
 case round =>
  obtain ⟨k,hk,rfl,hx,ho⟩:=hrel;have hu2:=hv.ext hx;by_cases hlt:k<l.length
  ·have hpe:=hu2.elem (eX hlt);have hst:=IX (z:=z) hlt;have hll:=tE (l.take k) z;rw [List.length_take]at hll;have hcl:=aJ (bX (l.take k) z);refine_lift rR ?_;intro _ _ _ _ _ _;refine dX (z:=iR) fun w2 x2 s2 h2=>?_;refine aB ?_;refine dL (v:=.agg #[aE l[k].name, .int .i64 l[k].kind, .int .i64 l[k].ttl,aE l[k].data]) h2 (gE rfl rfl rfl rfl) fun w3 p3=>?_;have x3:=cJ x2 p3;have hp3:=aA (cs:=[aE l[k].name, .int .i64 l[k].kind, .int .i64 l[k].ttl,aE l[k].data]) p3.this;have hx3:=hx.trans x3;have ho3:=ho.ext x3;clear p3 h2 x2;refine_lift bU fun _ _=>?_;refine cB (Cf l[k] _) fun w4 x4=>?_;have hx4:=hx3.trans x4;have ho4:=ho3.ext x4;have hp4:=hp3.ext x4;by_cases hm:bI l[k]=0
   ·rw [decide_eq_true hm,Bool.true_and]at hst;rw [hm];refine_lift aT ?_;refine cB (jI l[k].name z _) fun w5 x5=>?_;have hx5:=hx4.trans x5;have ho5:=ho4.ext x5;have hp5:=hp4.ext x5;clear hp4 hp3 hpe hu2;cases hu:bW l[k].name z with
    | false =>
     rw [hu,if_neg aK,List.append_nil]at hst;refine_lift aT ?_;exact ⟨⟨k+1,aC,by go_num,hx5,by rw [hst];exact ho5⟩,by simp [intOf];omega⟩
    | true =>
     rw [hu,if_pos rfl]at hst;refine_lift aT ?_;refine Bq [aE l[k].name, .int .i64 l[k].kind, .int .i64 l[k].ttl,aE l[k].data] hx5 ho5 aC ?_ (vZ rfl);intro s5 v5 w5 w6 x5 m6 x6 o6;refine aB ?_;refine_lift aT ?_;refine ⟨⟨k+1,aC,by go_num,x6,?_⟩,by simp [intOf];omega⟩;rw [hst]
     simpa [aF,Rec.cells]using o6
   ·rw [decide_eq_false hm,Bool.false_and,if_neg aK,List.append_nil]at hst;refine_lift lP (fun hc=>?_) (fun hc=>?_)
    all_goals first
     | exact absurd ‹bI l[k]=0› hm
     | skip
    exact ⟨⟨k+1,aC,by go_num,hx4,by rw [hst];exact ho4⟩,by simp [intOf];omega⟩
  ·have:k=l.length:=aC;subst this;rw [List.take_length]at ho;refine_lift jQ fun _=>?_;go_ret;exact ⟨_,rfl,hx,ho⟩
def RecFnC (w:World) (f:FuncId) (caps:Array Value) (l:List Rec) (p:Rec→Bool):Prop:=∀ r∈l,∀ w',Ext w w'→Calls Tryz.prog f ([Value.agg #[aE r.name, .int .i64 r.kind, .int .i64 r.ttl,aE r.data]].toArray++caps) w' (bC w' (.bool (p r)))
theorem RecFnC.ext {f:FuncId} {caps:Array Value} {l:List Rec} {p:Rec→Bool} (h:RecFnC w f caps l p) (hx:Ext w w1):RecFnC w1 f caps l p :=
 fun r hr w' hx'=>h r hr w' (hx.trans hx')
theorem FP (v:Value) (l:List Rec) (f:FuncId) (caps:Array Value) (p:Rec→Bool) (w:World) (hv:Sl 4 w v (aF l)) (he:Enters Tryz.prog f) (hf:RecFnC w f caps l p):Calls Tryz.prog 230 #[v, .func (.func f) #[] caps] w (bC w (.int .i64 (oO p l))):=by
 have hle:=hv.le;have hlen:=aJ l;go_enter Tryz.func230,Tryz.ntmps230
 refine_lift bU fun _ _=>?_;go_loopw [5,8] (fun _ i wr=>∃ k:Nat,k≤l.length∧i=.int .i64 k∧Ext w wr∧(l.take k).any p=false) (fun _ i _=>l.length - (intOf i).toNat)
 case atStart=>exact ⟨0,Nat.zero_le _,rfl,Ext.refl _,rfl⟩
 case round =>
  obtain ⟨k,hk,rfl,hx,hall⟩:=hrel;have hv2:=hv.ext hx;by_cases hlt:k<l.length
  ·have hpe:=hv2.elem (eX hlt);refine_lift rR ?_;intro _ _ _ _ _ _;refine dW he rfl rfl rfl (hf _ (List.getElem_mem hlt) _ hx) ?_;rintro e w2 ⟨rfl,x2⟩;refine ⟨_,rfl,?_⟩;refine aB ?_;cases hp:p l[k] with
   | true =>
    refine_lift aT ?_;go_ret;exact ⟨by rw [vT hlt hall hp];rfl,hx.trans x2⟩
   | false =>
    refine_lift aT ?_;exact ⟨⟨k+1,aC,by go_num,hx.trans x2,oL hlt hall hp⟩,by simp [intOf];omega⟩
  ·have:k=l.length:=aC;subst this;rw [List.take_length]at hall;refine_lift jQ fun _=>?_;go_ret;exact ⟨by rw [vU hall];rfl,hx⟩
def ZU (o:Option Rec):Value:=.tuple #[kK (o.getD ⟨[],0,0,[]⟩), .bool o.isSome]
theorem FQ (v:Value) (l:List Rec) (f:FuncId) (caps:Array Value) (p:Rec→Bool) (w:World) (hv:Sl 4 w v (aF l)) (he:Enters Tryz.prog f) (hf:RecFnC w f caps l p):Calls Tryz.prog 259 #[v, .func (.func f) #[] caps] w (bC w (ZU (l.find? p))):=by
 have hle:=hv.le;have hlen:=aJ l;go_enter Tryz.func259,Tryz.ntmps259
 refine_lift mT fun _ _=>?_;refine dX (z:=iR) fun w1 x1 s1 h1=>?_;refine aB ?_;refine_lift bU fun _ _=>?_;refine cB (FP v l f caps p _ (hv.ext x1) he (hf.ext x1)) fun w2 x2=>?_;have hx2:=x1.trans x2;have h2:=x2.at h1;have hv2:=hv.ext hx2;rcases oP p l with ⟨k,hk,e1,_,e3⟩|⟨e1,e2⟩
 ·rw [e1];have hpe:=hv2.elem (eX hk);have hkr:k<(aF l).length:=aC;refine_lift lQ fun _ _ _=>?_;refine dL (v:=.agg #[aE l[k].name, .int .i64 l[k].kind, .int .i64 l[k].ttl,aE l[k].data]) h2 (gE rfl rfl rfl rfl) fun w3 p3=>?_;have x3:=cJ hx2 p3;refine_lift aT ?_;refine bodyPost_ret (fS (cs:=[aE l[k].name, .int .i64 l[k].kind, .int .i64 l[k].ttl,aE l[k].data]) rfl rfl p3.this (zDk:eF Tryz.prog 37 4=true)) rfl ⟨by rw [e3];rfl,x3⟩
 ·rw [e1];refine_lift EZ fun _ _ _ _ _=>?_;refine cG (v:=.agg iR.toArray) rfl (Runs.build0 (by kernel_rfl)) ?_;refine aB ?_;refine dL (v:=.agg iR.toArray) h2 zDk fun w3 p3=>?_;have x3:=cJ hx2 p3;refine_lift aT ?_;refine bodyPost_ret (fS (cs:=iR) rfl rfl p3.this (zDk:eF Tryz.prog 37 4=true)) rfl ⟨by rw [e2.2];rfl,x3⟩
def mQ (j:JudR) (an au:Value):List Value:=[aE j.qn, .int .i64 j.qt,aE j.zone, .int .i64 j.code,an,au]
theorem ZV (j:JudR) (r:Rec) (pq:Value) (w:World) (hq:Pts w pq [aE j.qn, .int .i64 j.qt]):Calls Tryz.prog 260 #[.agg #[aE r.name, .int .i64 r.kind, .int .i64 r.ttl,aE r.data],pq] w (bC w (.bool (j.ansP r))):=by
 go_enter Tryz.func260,Tryz.ntmps260
 refine_lift mT fun _ _=>?_;refine mW (vs:=[aE r.name, .int .i64 r.kind, .int .i64 r.ttl,aE r.data]) fun p w1 x1 hp=>?_;refine aB ?_;have hq1:=hq.ext x1;refine_lift bU fun _ _=>?_;refine cB (yO r.name j.qn _) fun w2 x2=>?_;have hp2:=hp.ext x2;have hq2:=hq1.ext x2;have hx2:=x1.trans x2;cases hs:oR r.name j.qn with
 | false =>
  refine_lift aT ?_;go_ret;exact ⟨by rw [show j.ansP r=false by simp [JudR.ansP,hs]];rfl,hx2⟩
 | true =>
  by_cases hk:r.kind=j.qt
  ·refine_lift lP (fun hc=>?_) (fun hc=>?_)
   all_goals first
    | exact absurd hk ‹_›
    | skip
   go_ret;exact ⟨by rw [show j.ansP r=true by simp [JudR.ansP,hs,hk]];rfl,hx2⟩
  ·refine_lift lP (fun hc=>?_) (fun hc=>?_)
   all_goals first
    | exact absurd ‹r.kind=j.qt› hk
    | skip
   go_ret;exact ⟨by rw [show j.ansP r=decide (j.qt=255) by simp [JudR.ansP,hs,hk]];rfl,hx2⟩
theorem ZW (j:JudR) (an au:Value) (r:Rec) (pj:Value) (w:World) (hj:Pts w pj (mQ j an au)):Calls Tryz.prog 261 #[.agg #[aE r.name, .int .i64 r.kind, .int .i64 r.ttl,aE r.data],pj] w (bC w (.bool (j.aliP r))):=by
 go_enter Tryz.func261,Tryz.ntmps261
 refine_lift mT fun _ _=>?_;refine mW (vs:=[aE r.name, .int .i64 r.kind, .int .i64 r.ttl,aE r.data]) fun p w1 x1 hp=>?_;refine aB ?_;have hj1:=hj.ext x1;have hj0:Pts w1 (aV pj 0) [aE j.qn, .int .i64 j.qt]:=(hj1.part 0).front 2;refine_lift bU fun _ _=>?_;refine cB (yO r.name j.qn _) fun w2 x2=>?_;have hp2:=hp.ext x2;have hx2:=x1.trans x2;cases hs:oR r.name j.qn with
 | false =>
  refine_lift aT ?_;go_ret;exact ⟨by rw [show j.aliP r=false by simp [JudR.aliP,hs]];rfl,hx2⟩
 | true =>
  refine_lift aT ?_;go_ret;exact ⟨by rw [show j.aliP r=decide (r.kind=5) by simp [JudR.aliP,hs]];rfl,hx2⟩
theorem ZX (j:JudR) (an au:Value) (r:Rec) (pj:Value) (w:World) (hj:Pts w pj (mQ j an au)):Calls Tryz.prog 262 #[.agg #[aE r.name, .int .i64 r.kind, .int .i64 r.ttl,aE r.data],pj] w (bC w (.bool (j.denP r))):=by
 go_enter Tryz.func262,Tryz.ntmps262
 refine_lift mT fun _ _=>?_;refine mW (vs:=[aE r.name, .int .i64 r.kind, .int .i64 r.ttl,aE r.data]) fun p w1 x1 hp=>?_;refine aB ?_;have hj1:=hj.ext x1;have hj0:Pts w1 (aV pj 0) [aE j.qn, .int .i64 j.qt]:=(hj1.part 0).front 2;refine_lift HO (fun hc=>?_) (fun _ _ hc=>?_)
 ·have hc:=‹r.kind=6›;refine cB (jI j.qn r.name _) fun w2 x2=>?_;refine_lift aT ?_;go_ret;exact ⟨by rw [show j.denP r=bW j.qn r.name by simp [JudR.denP,hc]];rfl,x1.trans x2⟩
 ·have hc:=‹¬ r.kind=6›;go_ret;exact ⟨by rw [show j.denP r=false by simp [JudR.denP,hc]];rfl,x1⟩
theorem RW {α:Type} (p:α→Bool) (l:List α):(l.find? p).isSome=l.any p:=by
 rw [Bool.eq_iff_iff,List.find?_isSome,List.any_eq_true]
theorem OI (n:List UInt8) (k:Int):(Value.agg #[aE n, .int .i64 k]).cells.all (·.oneCell')=true:=by simp [Value.cells,aE,Value.oneCell']
theorem RX (j:JudR) (an au:Value) (w:World) (ha:Sl 4 w an (aF j.an)) (hu:Sl 4 w au (aF j.au)):Calls Tryz.prog 234 #[.agg (mQ j an au).toArray] w (bC w (.tuple #[.int .i64 j.answer.1,aE j.answer.2])):=by
 go_enter Tryz.func234,Tryz.ntmps234
 refine_lift mT fun _ _=>?_;refine jO (vs:=mQ j an au) fun w1 x1 s1 h1=>?_;refine aB ?_;have hp:=aA (cs:=mQ j an au) h1;have hj0:Pts w1 (aV (.pointer (some ⟨w.heap.size,0,none⟩)) 0) [aE j.qn, .int .i64 j.qt]:=(hp.part 0).front 2;have hj2:Pts w1 (aV (.pointer (some ⟨w.heap.size,0,none⟩)) 2) [aE j.zone]:=(hp.part 2).front 1;have hj3:Pts w1 (aV (.pointer (some ⟨w.heap.size,0,none⟩)) 3) [.int .i64 j.code]:=(hp.part 3).front 1;have hj4:Pts w1 (aV (.pointer (some ⟨w.heap.size,0,none⟩)) 4) [an]:=(hp.part 4).front 1;have hj5:Pts w1 (aV (.pointer (some ⟨w.heap.size,0,none⟩)) 5) [au]:=hp.part 5;refine_lift bU fun _ _=>?_;refine dX (z:=[aE [], .int .i64 0]) fun w2 x2 s2 h2=>?_;refine aB ?_;refine dL (v:=.agg #[aE j.qn, .int .i64 j.qt]) h2 (OI _ _) fun w3 p3=>?_;have x3:=cJ x2 p3;have hq3:=aA (cs:=[aE j.qn, .int .i64 j.qt]) p3.this;have hx3:=x1.trans x3;have hj43:=hj4.ext x3;clear p3 h2 x2 s2 hj0 hj2 hj3 hj5 hp h1;generalize w1.heap.size=bq at *;have hF:=FQ an j.an 260 #[.pointer (some ⟨bq,0,none⟩)] j.ansP w3 (ha.ext hx3) (enters_of Tryz.func260 rfl rfl) (fun r _ w' c=>ZV j r _ w' (hq3.ext c));have hA:=RW j.ansP j.an;cases hf:j.an.find? j.ansP with
 | none =>
  rw [hf]at hF hA;have hE:j.answer=(0,[]):=by rw [JudR.answer,if_neg (by rw [← hA];simp)]
  refine_lift mH fun _ _ _ _=>?_;refine cB hF fun w4 x4=>?_;refine_lift aT ?_;refine dX (z:=iR) fun w5 x5 s5 h5=>?_;refine aB ?_;refine dL (v:=.agg iR.toArray) h5 zDk fun w6 p6=>?_;have x6:=cJ x5 p6;clear h5 x5 s5;have hx6:=hx3.trans (x4.trans x6);clear p6;refine_lift jQ fun _=>?_;go_ret2;exact ⟨by rw [hE];rfl,hx6⟩
 | some r =>
  rw [hf]at hF hA;have hE:j.answer=(1,fold j.qn):=by rw [JudR.answer,if_pos (by rw [← hA];rfl)]
  refine_lift mH fun _ _ _ _=>?_;refine cB hF fun w4 x4=>?_;refine_lift aT ?_;refine dX (z:=iR) fun w5 x5 s5 h5=>?_;refine aB ?_;refine dL (v:=.agg #[aE r.name, .int .i64 r.kind, .int .i64 r.ttl,aE r.data]) h5 (gE rfl rfl rfl rfl) fun w6 p6=>?_;have x6:=cJ x5 p6;clear h5 x5 s5;have hx6:=hx3.trans (x4.trans x6);have hq6:=hq3.ext (x4.trans x6);clear p6;refine_lift lQ fun _ _ _=>?_;refine cB (vQ j.qn _) fun w7 x7=>?_;refine_lift aT ?_;go_ret2;exact ⟨by rw [hE];rfl,hx6.trans x7⟩
theorem VO (j:JudR) (an au:Value) (w:World) (ha:Sl 4 w an (aF j.an)) (hu:Sl 4 w au (aF j.au)) (hd:∀ r∈j.an,r.data.length≤4000):Calls Tryz.prog 235 #[.agg (mQ j an au).toArray] w (bC w (.tuple #[.int .i64 j.alias.1,aE j.alias.2])):=by
 go_enter Tryz.func235,Tryz.ntmps235
 refine_lift mT fun _ _=>?_;refine jO (vs:=mQ j an au) fun w1 x1 s1 h1=>?_;refine aB ?_;have hp:=aA (cs:=mQ j an au) h1;have hj0:Pts w1 (aV (.pointer (some ⟨w.heap.size,0,none⟩)) 0) [aE j.qn, .int .i64 j.qt]:=(hp.part 0).front 2;have hj2:Pts w1 (aV (.pointer (some ⟨w.heap.size,0,none⟩)) 2) [aE j.zone]:=(hp.part 2).front 1;have hj3:Pts w1 (aV (.pointer (some ⟨w.heap.size,0,none⟩)) 3) [.int .i64 j.code]:=(hp.part 3).front 1;have hj4:Pts w1 (aV (.pointer (some ⟨w.heap.size,0,none⟩)) 4) [an]:=(hp.part 4).front 1;have hj5:Pts w1 (aV (.pointer (some ⟨w.heap.size,0,none⟩)) 5) [au]:=hp.part 5;have hF:=FQ an j.an 261 #[.pointer (some ⟨w.heap.size,0,none⟩)] j.aliP w1 (ha.ext x1) (enters_of Tryz.func261 rfl rfl) (fun r _ w' c=>ZW j an au r _ w' (hp.ext c));cases hf:j.an.find? j.aliP with
 | none =>
  rw [hf]at hF;have hE:j.alias=(0,[]):=by rw [JudR.alias,hf]
  refine_lift bU fun _ _=>?_;refine cB hF fun w4 x4=>?_;refine_lift aT ?_;refine dX (z:=iR) fun w5 x5 s5 h5=>?_;refine aB ?_;refine dL (v:=.agg iR.toArray) h5 zDk fun w6 p6=>?_;have x6:=cJ x5 p6;clear h5 x5 s5;have hx6:=x1.trans (x4.trans x6);clear p6;refine_lift jQ fun _=>?_;go_ret2;exact ⟨by rw [hE];rfl,hx6⟩
 | some r =>
  rw [hf]at hF;have hE:j.alias=(5,fold (aQ 5 r.data).1):=by rw [JudR.alias,hf]
  refine_lift bU fun _ _=>?_;refine cB hF fun w4 x4=>?_;refine_lift aT ?_;refine dX (z:=iR) fun w5 x5 s5 h5=>?_;refine aB ?_;refine dL (v:=.agg #[aE r.name, .int .i64 r.kind, .int .i64 r.ttl,aE r.data]) h5 (gE rfl rfl rfl rfl) fun w6 p6=>?_;have x6:=cJ x5 p6;clear h5 x5 s5;have hpr:=aA (cs:=[aE r.name, .int .i64 r.kind, .int .i64 r.ttl,aE r.data]) p6.this;have hx6:=x1.trans (x4.trans x6);have hdr:=hd r (List.mem_of_find?_eq_some hf);clear p6;refine_lift lQ fun _ _ _=>?_;refine cB (ZF 5 r.data _ aC) fun w7 x7=>?_;refine_lift bU fun _ _=>?_;refine cB (vQ (aQ 5 r.data).1 _) fun w8 x8=>?_;refine_lift aT ?_;go_ret2;exact ⟨by rw [hE];rfl,hx6.trans (x7.trans x8)⟩
theorem RY (j:JudR) (an au:Value) (w:World) (ha:Sl 4 w an (aF j.an)) (hu:Sl 4 w au (aF j.au)):Calls Tryz.prog 236 #[.agg (mQ j an au).toArray] w (bC w (.tuple #[.int .i64 j.denial.1,aE j.denial.2])):=by
 go_enter Tryz.func236,Tryz.ntmps236
 refine_lift mT fun _ _=>?_;refine jO (vs:=mQ j an au) fun w1 x1 s1 h1=>?_;refine aB ?_;have hp:=aA (cs:=mQ j an au) h1;have hj0:Pts w1 (aV (.pointer (some ⟨w.heap.size,0,none⟩)) 0) [aE j.qn, .int .i64 j.qt]:=(hp.part 0).front 2;have hj2:Pts w1 (aV (.pointer (some ⟨w.heap.size,0,none⟩)) 2) [aE j.zone]:=(hp.part 2).front 1;have hj3:Pts w1 (aV (.pointer (some ⟨w.heap.size,0,none⟩)) 3) [.int .i64 j.code]:=(hp.part 3).front 1;have hj4:Pts w1 (aV (.pointer (some ⟨w.heap.size,0,none⟩)) 4) [an]:=(hp.part 4).front 1;have hj5:Pts w1 (aV (.pointer (some ⟨w.heap.size,0,none⟩)) 5) [au]:=hp.part 5;have hF:=FQ au j.au 262 #[.pointer (some ⟨w.heap.size,0,none⟩)] j.denP w1 (hu.ext x1) (enters_of Tryz.func262 rfl rfl) (fun r _ w' c=>ZX j an au r _ w' (hp.ext c));cases hf:j.au.find? j.denP with
 | none =>
  rw [hf]at hF;have hE:j.denial=(0,[]):=by rw [JudR.denial,hf]
  refine_lift bU fun _ _=>?_;refine cB hF fun w4 x4=>?_;refine_lift aT ?_;refine dX (z:=iR) fun w5 x5 s5 h5=>?_;refine aB ?_;refine dL (v:=.agg iR.toArray) h5 zDk fun w6 p6=>?_;have x6:=cJ x5 p6;clear h5 x5 s5;have hx6:=x1.trans (x4.trans x6);clear p6;refine_lift jQ fun _=>?_;go_ret2;exact ⟨by rw [hE];rfl,hx6⟩
 | some r =>
  rw [hf]at hF;have hE:j.denial=if j.code=3 then (3,fold r.name)else (2,fold r.name):=by rw [JudR.denial,hf]
  refine_lift bU fun _ _=>?_;refine cB hF fun w4 x4=>?_;refine_lift aT ?_;refine dX (z:=iR) fun w5 x5 s5 h5=>?_;refine aB ?_;refine dL (v:=.agg #[aE r.name, .int .i64 r.kind, .int .i64 r.ttl,aE r.data]) h5 (gE rfl rfl rfl rfl) fun w6 p6=>?_;have x6:=cJ x5 p6;clear h5 x5 s5;have hpr:=aA (cs:=[aE r.name, .int .i64 r.kind, .int .i64 r.ttl,aE r.data]) p6.this;have hx6:=x1.trans (x4.trans x6);have hj6:=hj3.ext (x4.trans x6);clear p6;by_cases hk:j.code=3
  ·rw [if_pos hk]at hE;refine_lift rR fun _ _ _ _ _ _=>?_
   all_goals first
    | exact absurd hk ‹_›
    | skip
   refine cB (vQ r.name _) fun w7 x7=>?_;refine_lift aT ?_;go_ret2;exact ⟨by rw [hE];rfl,hx6.trans x7⟩
  ·rw [if_neg hk]at hE;refine_lift mH fun _ _ _ _=>?_
   all_goals first
    | exact absurd ‹j.code=3› hk
    | skip
   refine cB (vQ r.name _) fun w7 x7=>?_;refine_lift aT ?_;go_ret2;exact ⟨by rw [hE];rfl,hx6.trans x7⟩
def dV (a:ActR) (v1 v2:Value):List Value:=[.int .i64 a.kind, .int .i64 a.to,aE a.qn, .int .i64 a.qt, .int .i64 a.code,v1,v2]
def eY:List Value:=[.int .i64 0, .int .i64 0,aE [], .int .i64 0, .int .i64 0, .slice none 0 0, .slice none 0 0]
theorem nN {a:ActR} {v1 v2:Value} (h1:v1.oneCell'=true) (h2:v2.oneCell'=true):(Value.agg (dV a v1 v2).toArray).cells.all (·.oneCell')=true:=by
 have k1:∀ s,(aE s).oneCell'=true:=fun _=>rfl;have k2:∀ n,(Value.int .i64 n).oneCell'=true:=fun _=>rfl;simp [dV,Value.cells,h1,h2,k1,k2]
structure ActV (w:World) (v:Value) (a:ActR):Prop where
 out:∃ v1 v2,v=.agg (dV a v1 v2).toArray∧Own 0 4 37 w v1 (aF a.ans)∧Own 0 4 37 w v2 (aF a.auth)
theorem ActV.ext {a:ActR} (h:ActV w v a) (hx:Ext w w'):ActV w' v a:=by
 obtain ⟨v1,v2,h1,h2,h3⟩:=h.out;exact ⟨v1,v2,h1,h2.ext hx,h3.ext hx⟩
def StopV (B:Nat) (w:World) (v:Value):Option ActR→Prop
 | none=>v=.pointer none
 | some a=>∃ c v1 v2,v=.pointer (some ⟨c,0,none⟩)∧B≤c∧w.heap[c]? = some (.cells (dV a v1 v2).toArray 201 (0,0))∧Own B 4 37 w v1 (aF a.ans)∧Own B 4 37 w v2 (aF a.auth)∧a.kind=2
theorem StopV.ext {s:Option ActR} (h:StopV B w v s) (hx:Ext w w'):StopV B w' v s:=by
 cases s with
 | none=>exact h
 | some a =>
  obtain ⟨c,v1,v2,h1,h2,h3,h4,h5,h6⟩:=h;exact ⟨c,v1,v2,h1,h2,hx.at h3,h4.ext hx,h5.ext hx,h6⟩
theorem StopV.put {t:Nat} {s:Option ActR} {o:Obj} (h:StopV B w v s) (hb:w.heap[b]? = some (.cells cs t fz)) (h1:t≠201) (h2:t≠37) (hp:Put w w' b o):StopV B w' v s:=by
 cases s with
 | none=>exact h
 | some a =>
  obtain ⟨c,v1,v2,g1,g2,g3,g4,g5,g6⟩:=h;refine ⟨c,v1,v2,g1,g2,hp.mv.at g3 ?_,g4.mv hp.mv (.inr (g4.neBlock hb h2)),g5.mv hp.mv (.inr (g5.neBlock hb h2)),g6⟩;intro e;cases e
  rw [hb]at g3;simp only [Option.some.injEq,Obj.cells.injEq]at g3;exact h1 g3.2.1
def fR (t:TaskR) (rv sv gv ev:Value):List Value:=[aE t.qn, .int .i64 t.qt,rv,aE t.zone,sv,gv, .int .i64 t.chain, .int .i64 t.left,ev]
structure TaskV (w0 w:World) (b:Nat) (t:TaskR) (rv sv gv ev:Value):Prop where
 ge:w0.heap.size≤b
 ext:Ext w0 w
 blk:w.heap[b]? = some (.cells (fR t rv sv gv ev).toArray 273 (0,0))
 rs:Own w0.heap.size 1 3 w rv (bO t.roots)
 ss:OwnOff w0.heap.size 1 3 w sv (bO t.servers)
 gs:Own w0.heap.size 4 37 w gv (aF t.got)
 es:StopV w0.heap.size w ev t.stop
def TaskAt (w0 w:World) (b:Nat) (t:TaskR):Prop:=∃ rv sv gv ev,TaskV w0 w b t rv sv gv ev
theorem TaskV.grow {t:TaskR} {rv sv gv ev:Value} (h:TaskV w0 w b t rv sv gv ev) (hx:Ext w w'):TaskV w0 w' b t rv sv gv ev :=
 ⟨h.ge,h.ext.trans hx,hx.at h.blk,h.rs.ext hx,h.ss.ext hx,h.gs.ext hx,h.es.ext hx⟩
theorem TaskAt.grow {t:TaskR} (h:TaskAt w0 w b t) (hx:Ext w w'):TaskAt w0 w' b t:=by
 obtain ⟨rv,sv,gv,ev,h⟩:=h;exact ⟨rv,sv,gv,ev,h.grow hx⟩
theorem TaskV.put {t t':TaskR} {rv sv gv ev rv' sv' gv' ev':Value} (h:TaskV w0 w b t rv sv gv ev) (hp:Put w w' b (.cells (fR t' rv' sv' gv' ev').toArray 273 (0,0)))
 (h1:Own w0.heap.size 1 3 w' rv' (bO t'.roots)) (h2:OwnOff w0.heap.size 1 3 w' sv' (bO t'.servers)) (h3:Own w0.heap.size 4 37 w' gv' (aF t'.got)) (h4:StopV w0.heap.size w' ev' t'.stop):TaskV w0 w' b t' rv' sv' gv' ev' :=
 ⟨h.ge,h.ext.move hp.mv (by rintro k ⟨⟩;exact h.ge),hp.this,h1,h2,h3,h4⟩
theorem TaskV.kept {t:TaskR} {rv sv gv ev:Value} {o:Obj} (h:TaskV w0 w b t rv sv gv ev) (hp:Put w w' b o) :
 Own w0.heap.size 1 3 w' rv (bO t.roots)∧OwnOff w0.heap.size 1 3 w' sv (bO t.servers)∧Own w0.heap.size 4 37 w' gv (aF t.got)∧StopV w0.heap.size w' ev t.stop :=
 ⟨h.rs.mv hp.mv (.inr (h.rs.neBlock h.blk aK)),h.ss.mv hp.mv (.inr (h.ss.neBlock h.blk aK)),h.gs.mv hp.mv (.inr (h.gs.neBlock h.blk aK)),h.es.put h.blk aK aK hp⟩
theorem Mv.fresh (h:Mv row w w1) (k:Mv (some c) w1 w2) (hc:w.heap.size≤c):Mv row w w2 :=
 ⟨k.os.trans h.os,k.tape.trans h.tape,k.output.trans h.output,Nat.le_trans h.size k.size,
  fun j hj hn=>by rw [k.block j (Nat.lt_of_lt_of_le hj h.size) (by intro e;have:=Option.some.inj e;omega),h.block j hj hn],Nat.le_trans h.drawn k.drawn⟩
theorem ActV.one {a:ActR} (h:ActV w v a):v.cells.all (·.oneCell')=true:=by
 obtain ⟨v1,v2,rfl,h2,h3⟩:=h.out;exact nN h2.one h3.one
theorem ActV.size {a:ActR} (h:ActV w v a):v.cells.size=7:=by
 obtain ⟨v1,v2,rfl,h2,h3⟩:=h.out;rfl
theorem ActV.put {a:ActR} {t:Nat} {o:Obj} (h:ActV w v a) (hp:Put w w' c o) (hc:w.heap[c]? = some (.cells cs t fz)) (ht:t≠37):ActV w' v a:=by
 obtain ⟨v1,v2,h1,h2,h3⟩:=h.out;exact ⟨v1,v2,h1,h2.mv hp.mv (.inr (h2.neBlock hc ht)),h3.mv hp.mv (.inr (h3.neBlock hc ht))⟩
theorem TaskV.other {t:TaskR} {rv sv gv ev:Value} {o:Obj} (h:TaskV w0 w b t rv sv gv ev) (hp:Put w w' c o) (hc:w.heap[c]? = some (.cells eY.toArray 201 fz)) (hg:w0.heap.size≤c):TaskV w0 w' b t rv sv gv ev:=by
 refine ⟨h.ge,h.ext.move hp.mv (by rintro k ⟨⟩;exact hg),hp.mv.at h.blk ?_,h.rs.mv hp.mv (.inr (h.rs.neBlock hc aK)),h.ss.mv hp.mv (.inr (h.ss.neBlock hc aK)),h.gs.mv hp.mv (.inr (h.gs.neBlock hc aK)),?_⟩
 ·intro e;have e2:=h.blk;rw [Option.some.inj e,hc]at e2;simp only [Option.some.injEq,Obj.cells.injEq]at e2;exact absurd e2.2.1 aK
 ·have he:=h.es;generalize hst:t.stop=s at he;cases s with
  | none=>exact he
  | some a =>
   obtain ⟨k,v1,v2,g1,g2,g3,g4,g5,g6⟩:=he;refine ⟨k,v1,v2,g1,g2,hp.mv.at g3 (fun e=>?_),g4.mv hp.mv (.inr (g4.neBlock hc aK)),g5.mv hp.mv (.inr (g5.neBlock hc aK)),g6⟩;rw [Option.some.inj e,hc]at g3;simp only [Option.some.injEq,Obj.cells.injEq]at g3;have e3:=congrArg (fun q=>q[0]?) g3.1;simp [eY,dV,g6]at e3
def ActRet (w0:World) (b:Nat) (r:TaskR×ActR) (v:Value) (w':World):Prop:=ActV w' v r.2∧TaskAt w0 w' b r.1
theorem MJ {t:TaskR} {a:ActR} (h:TaskAt w0 w b t) (hs:t.stop=some a) (h1':a.ans.length≤1000000) (h2':a.auth.length≤1000000):Calls Tryz.prog 151 #[.pointer (some ⟨b,0,none⟩)] w (kZ w (ActRet w0 b (t,a))):=by
 obtain ⟨rv,sv,gv,ev,h⟩:=h;have hp:=aA (cs:=fR t rv sv gv ev) h.blk;have he:=h.es;rw [hs]at he;obtain ⟨c,v1,v2,rfl,hc,hcb,o1,o2,-⟩:=he;have hpc:=aA (cs:=dV a v1 v2) hcb;go_enter Tryz.func151,Tryz.ntmps151
 refine_lift bU fun _ _=>?_;refine dX (z:=eY) fun w1 x1 s1 h1=>?_;refine aB ?_;have hp1:=hp.ext x1;have hpc1:=hpc.ext x1;refine_lift bU fun _ _=>?_;refine aG (Runs.loadN hpc1 rfl (zDk:eF Tryz.prog 201 7=true)) ?_;refine aB ?_;refine dX (z:=eY) fun w2 x2 s2 h2=>?_;refine aB ?_;refine dL (v:=.agg (dV a v1 v2).toArray) h2 (nN o1.one o2.one) fun w3 p3=>?_;have x3:=cJ x2 p3;have hp3:=aA (cs:=dV a v1 v2) p3.this;have hb3:=p3.this;have o13:=(o1.ext x1).ext x3;have o23:=(o2.ext x1).ext x3;have hx3:=x1.trans x3;clear p3 h2 x2;refine_lift bU fun _ _=>?_;have sz3:=hx3.size;have sz1:=x1.size;refine aO 7 (Ext w3) zDk ?_;intro w4 x4 _;refine ⟨x4,?_⟩;refine bE 0 ?_;refine bE 1 ?_;refine bE 3 ?_;refine bE 4 ?_;refine dH 2 ?_;refine sC (jJ v1 a.ans _ (o13.sl.ext x4) h1') fun u1 w5 x5 n1=>?_;have x35:=x4.trans x5;refine aD ⟨aR x35,?_⟩;refine bE 6 ?_;refine dH 5 ?_;refine sC (jJ v2 a.auth _ (o23.sl.ext x35) h2') fun u2 w6 x6 n2=>?_;have x36:=x35.trans x6;refine aD ⟨aR x36,?_⟩;have n16:=n1.ext x6;have hb6:w6.heap[w1.heap.size]? = some (.cells (dV a v1 v2).toArray 201 (0,0)):=x36.at hb3;refine dH 7 ?_;refine fA 5 u1 hb6 n16.one fun w7 p7=>?_;refine aD ⟨aN rfl,?_⟩;refine dH 8 ?_
 ((with_reducible refine aS ?_);(first|(refine gV ?_;refine eS ?_)|(refine lY ?_;refine nR ?_;(with_reducible refine aS ?_);refine gV ?_;refine eS ?_)))
 refine aD ⟨aN rfl,?_⟩;refine dH 9 ?_;refine fA 6 u2 p7.this n2.one fun w8 p8=>?_;refine aD ⟨aN rfl,?_⟩;refine jP ?_;have hm:=p7.mv.trans p8.mv;have x8:Ext w w8:=(hx3.trans x36).move hm (by rintro k ⟨⟩;omega);have hb8:w8.heap[w1.heap.size]? = some (.cells (dV a u1 u2).toArray 201 (0,0)):=p8.this;have hp8:=aA (cs:=dV a u1 u2) hb8;have m1:=n16.mv hm (.inr (n16.neBlock hb6 aK));have m2:=n2.mv hm (.inr (n2.neBlock hb6 aK));refine_lift bU fun _ _=>?_;refine aG (Runs.loadN hp8 rfl (zDk:eF Tryz.prog 201 7=true)) ?_;refine aB ?_;have h18:=hm.at ((x3.trans x36).at h1) (by intro e;have:=Option.some.inj e;omega);refine dL (v:=.agg (dV a u1 u2).toArray) h18 (nN m1.one m2.one) fun w9 p9=>?_;have x9:=cJ x8 p9;have k1:=eM m1 p9 h18;have k2:=eM m2 p9 h18;refine_lift aT ?_;refine JR (cs:=dV a u1 u2) p9.this ⟨_,rfl,x9,⟨⟨u1,u2,rfl,k1.weaken (Nat.zero_le _),k2.weaken (Nat.zero_le _)⟩⟩,_,_,_,_,h.grow x9⟩
theorem RZ {l:List Rec} (h:GroupO B l r w'):∃ v,r=.tuple #[v, .int .i64 (qT l)]∧SetsO B w' v (if qT l=0 then cA l else []):=by
 by_cases h0:qT l=0
 ·obtain ⟨v,hv,hs⟩:=h.uni;exact ⟨v,hv,by rw [if_pos h0];exact hs h0⟩
 ·unfold GroupO at h;rw [← XP,if_neg h0]at h;exact ⟨_,h,by rw [if_neg h0];exact SetsO.nil _ _⟩
theorem Sl.lt_block {o n:Nat} {s:Option Nat} (h:Sl (k+1) w (.slice (some ⟨a,o,s⟩) n c) es) (hne:es≠[]):a<w.heap.size:=by
 obtain ⟨a',cap,h1,h2,h3,h4,h5,h6⟩:=h;obtain ⟨b,o',e1,hc⟩:=h6 hne;rw [e1]at h1;simp only [Value.slice.injEq,Option.some.injEq,Addr.mk.injEq]at h1;cases es with
 | nil=>exact absurd rfl hne
 | cons e es =>
  cases e with
  | nil=>exact absurd (h4 [] aX) aX
  | cons x xs =>
   have:=World.block_lt_of_cell? w _ (hc 0 (x::xs) 0 x rfl rfl);rw [h1.1.1];exact this
def CG (s:LrnR) (x:Value):List Value:=[aE s.set.name, .int .i64 s.set.kind, .int .i64 s.set.ttl,x, .int .i64 s.rank]
def yF (x v:Value):Prop:=∀ a o s n c,x=.slice (some ⟨a,o,s⟩) n c→v.ownBlock≠some a
structure LrnsV (B:Nat) (w:World) (v:Value) (l:List LrnR):Prop where
 out:∃ css,Own B 5 248 w v css∧css.length=l.length∧∀ (i:Nat) (s:LrnR),l[i]? = some s→∃ x,css[i]? = some (CG s x)∧Sl 1 w x (aH s.set.data)∧From B x∧(s.set.data≠[]→yF x v)
theorem LrnsV.nil (B:Nat) (w:World):LrnsV B w (.slice none 0 0) []:=⟨[],Own.nil _ _ _ _,rfl,aX⟩
theorem LrnsV.ext {l:List LrnR} (h:LrnsV B w v l) (hx:Ext w w'):LrnsV B w' v l:=by
 obtain ⟨css,h1,h2,h3⟩:=h;exact ⟨css,h1.ext hx,h2,fun i s hi=>let ⟨x,a,b,c,d⟩:=h3 i s hi;⟨x,a,b.ext hx,c,d⟩⟩
def OJ (l:List Rec):List RSet:=if qT l=0 then cA l else []
theorem OK (l:List Rec) (rank:Int):fQ l rank=(OJ l).map fun s=>⟨s,rank⟩:=by
 unfold fQ OJ;split<;>rfl
theorem uU (v:Value) (l:List Rec) (rank:Int) (w:World) (hv:Sl 4 w v (aF l)) (hl:l.length≤10000):Calls Tryz.prog 186 #[v, .int .i64 rank] w (kZ w fun r w'=>LrnsV w.heap.size w' r (fQ l rank)):=by
 rw [OK];have hG:=En v l;go_enter Tryz.func186,Tryz.ntmps186
 refine_lift lQ ?_;intro _ _ _;refine gY (hG _ hv hl) fun r w1 x1 hr=>?_;obtain ⟨y,rfl,css,hs,hf,hc,hfc⟩:=RZ hr;refine aB ?_;have hB:=x1.size;change SetsC w1 css (OJ l)at hc;have hLl:(OJ l).length≤l.length:=by
  unfold OJ;split
  ·have:=(kR l l.length (Nat.le_refl _)).1;rw [List.take_length]at this;exact this
  ·exact Nat.zero_le _
 generalize hLq:OJ l=L at *;have hcl:=hc.len;refine_lift bU fun _ _=>?_;go_loopw [7,17] (fun o i wr=>∃ k:Nat,k≤css.length∧i=.int .i64 k∧Ext w1 wr∧Own w1.heap.size 5 248 wr o ((css.take k).map fun f=>f ++ [.int .i64 rank])) (fun _ i _=>css.length - (intOf i).toNat)
 case atStart=>exact ⟨0,Nat.zero_le _,rfl,Ext.refl _,by simpa using Own.nil _ _ _ _⟩
 case round =>
  obtain ⟨k,hk,rfl,hx,ho⟩:=hrel;have hu2:=hs.ext hx;by_cases hlt:k<css.length
  ·have hLk:k<L.length:=by rw [← hc.len];exact hlt
   obtain ⟨x,hx1,hsx⟩:=hc.at' k L[k] (List.getElem?_eq_getElem hLk);have hpe:=hu2.elem hx1;have hxo:=hsx.one;have hst:(css.take (k+1)).map (fun f=>f ++ [.int .i64 rank])=(css.take k).map (fun f=>f ++ [.int .i64 rank]) ++ [[aE L[k].name, .int .i64 L[k].kind, .int .i64 L[k].ttl,x, .int .i64 rank]]:=by
    rw [List.take_succ_eq_append_getElem hlt,List.map_append]
    congr 1
    rw [List.getElem?_eq_getElem hlt]at hx1;simp [Option.some.inj hx1]
   have hll:((css.take k).map fun f=>f ++ [Value.int .i64 rank]).length+1≤1000000:=by
    rw [List.length_map,List.length_take];omega
   refine_lift rR ?_;intro _ _ _ _ _ _;refine dX (z:=gT) fun w2 x2 s2 h2=>?_;refine aB ?_;refine dL (v:=.agg #[aE L[k].name, .int .i64 L[k].kind, .int .i64 L[k].ttl,x]) h2 (gE rfl rfl rfl hxo) fun w3 p3=>?_;have x3:=cJ x2 p3;have hp3:=aA (cs:=[aE L[k].name, .int .i64 L[k].kind, .int .i64 L[k].ttl,x]) p3.this;have ho3:=ho.ext x3;have sz3:=(hx.trans x3).size;clear p3 h2 x2 hpe;refine_lift aT ?_;refine aG (v:=.agg (CG ⟨L[k],rank⟩ x).toArray) (Runs.build (vals:=[(0, .agg #[aE L[k].name, .int .i64 L[k].kind, .int .i64 L[k].ttl,x]),(1, .int .i64 rank)]) rfl (by obtain ⟨_,_,_,rfl⟩:=hsx.slf;kernel_rfl)) ?_;refine aB ?_;refine Bq (CG ⟨L[k],rank⟩ x) (hx.trans x3) ho3 hll ?_ (ElemIs.mk rfl rfl rfl (by simp [CG,hxo,show ∀ s,(aE s).oneCell'=true from fun _=>rfl,show ∀ n,(Value.int .i64 n).oneCell'=true from fun _=>rfl]));intro s5 v5 w5 w6 x5 m6 x6 o6;refine aB ?_;refine_lift aT ?_;refine ⟨⟨k+1,aC,by go_num,x6,?_⟩,by simp [intOf];omega⟩;rw [hst];exact o6
  ·have:k=css.length:=aC;subst this;rw [List.take_length]at ho;refine_lift jQ fun _=>?_;go_ret;refine ⟨_,rfl,x1.trans hx,?_⟩;rw [hLq];refine ⟨_,ho.weaken hB,by simp [hc.len],?_⟩;intro i s hi;rw [List.getElem?_map]at hi;obtain ⟨q,hq,rfl⟩:=Option.map_eq_some_iff.1 hi;obtain ⟨x,hx1,hsx⟩:=hc.at' i q hq;refine ⟨x,by rw [List.getElem?_map,hx1];rfl,hsx.ext hx,hfc _ (List.mem_of_getElem? hx1) x aX,fun hne a o' s' n c e h2=>?_⟩;obtain ⟨h3,h4⟩:=ho.block a h2;subst e;have h5:=Sl.lt_block hsx (by simpa [aH]using hne);omega
def UI (n:List UInt8) (k:Int) (r:Rec):Bool:=decide (r.name=fold n)&&(decide (r.kind=k)||decide (k=255))
def XZ (w:List Rec) (n:List UInt8) (k:Int):List Rec:=(w.map jU).filter (UI n k)
theorem YA (t:TaskR) (l:List Rec) (n:List UInt8) (k:Int):t.of l n k=XZ (bX l t.zone) n k:=rfl
theorem VP {l:List Rec} {q:Int} (h:k<l.length):XZ (l.take (k+1)) n q=XZ (l.take k) n q++if UI n q (jU l[k])=true then [jU l[k]]else []:=by
 rw [XZ,List.take_succ_eq_append_getElem h,List.map_append,List.filter_append]
 congr 1
 simp only [List.map_cons,List.map_nil,List.filter_cons,List.filter_nil]
theorem SA (l:List Rec) (n:List UInt8) (k:Int):(XZ l n k).length≤l.length:=by
 refine Nat.le_trans (List.length_filter_le _ _) ?_;rw [List.length_map];exact Nat.le_refl _
theorem OL {t:TaskR} (h:TaskAt w0 w b t) (v:Value) (l:List Rec) (n:List UInt8) (k:Int) (hv:Sl 4 w v (aF l)) (hl:l.length≤100000) :
 Calls Tryz.prog 184 #[.pointer (some ⟨b,0,none⟩),v,aE n, .int .i64 k] w (kZ w fun r w'=>Own w.heap.size 4 37 w' r (aF (t.of l n k))):=by
 obtain ⟨rv,sv,gv,ev,h⟩:=h;have hp:=aA (cs:=fR t rv sv gv ev) h.blk;rw [YA];have hwl:=tE l t.zone;go_enter Tryz.func184,Tryz.ntmps184
 refine_lift EZ ?_;intro _ _ _ _ _;refine sC (BD v l t.zone _ hv hl) fun lv w1 x1 o1=>?_;have hs1:=o1.sl;generalize hL:bX l t.zone=L at *;have hlen:=aJ L;have hx1:=x1;refine_lift aT ?_;go_loopw [9,19] (fun o i wr=>∃ j:Nat,j≤L.length∧i=.int .i64 j∧Ext w1 wr∧Own w1.heap.size 4 37 wr o (aF (XZ (L.take j) n k))) (fun _ i _=>L.length - (intOf i).toNat)
 case atStart=>exact ⟨0,Nat.zero_le _,rfl,Ext.refl _,by simpa [XZ,aF]using Own.nil _ _ _ _⟩
 case round =>
  obtain ⟨j,hj,rfl,hx,ho⟩:=hrel;have hu2:=hs1.ext hx;have hx0:=x1.trans hx;by_cases hlt:j<L.length
  ·have hpe:=hu2.elem (eX hlt);have hst:=VP (n:=n) (q:=k) hlt;have hll:=SA (L.take j) n k;rw [List.length_take]at hll;have hcl:=aJ (XZ (L.take j) n k);refine_lift rR ?_;intro _ _ _ _ _ _;refine dX (z:=iR) fun w2 x2 s2 h2=>?_;refine aB ?_;refine dL (v:=.agg #[aE L[j].name, .int .i64 L[j].kind, .int .i64 L[j].ttl,aE L[j].data]) h2 (gE rfl rfl rfl rfl) fun w3 p3=>?_;have x3:=cJ x2 p3;have hb3:w3.heap[wr.heap.size]? = some (.cells [aE L[j].name, .int .i64 L[j].kind, .int .i64 L[j].ttl,aE L[j].data].toArray 37 (0,0)):=p3.this;have hp3:=aA hb3;have ho3:=ho.ext x3;have sx:=hx0.size;clear p3 h2 x2;refine_lift bU fun _ _=>?_;refine cB (vQ L[j].name _) fun w4 x4=>?_;have hb4:=x4.at hb3;refine_lift aT ?_;refine fA 0 (aE (fold L[j].name)) hb4 rfl fun w5 p5=>?_;have x5:=cJ (x3.trans x4) p5;have hb5:w5.heap[wr.heap.size]? = some (.cells [aE (fold L[j].name), .int .i64 L[j].kind, .int .i64 L[j].ttl,aE L[j].data].toArray 37 (0,0)):=p5.this;have hp5:=aA hb5;have ho5:=ho.ext x5;clear p5 hb3 hb4 hp3 hp;refine_lift bU fun _ _=>?_
   all_goals first
    | (exfalso;omega)
    | skip
   refine cQ (S:=fun w'=>Ext w5 w') zDk ?_;intro w6 x6 _;refine dM 0 ?_;refine aB ?_;refine dM 1 ?_;refine aB ?_;refine dM 2 ?_;refine aB ?_;refine bZ (i:=3) zDk rfl rfl ?_;refine cB (vQ n _) fun w7 x7=>?_;have x57:=x6.trans x7;refine aD ⟨x57,?_⟩;refine dM 4 ?_;refine aB ?_;refine dM 5 ?_;refine aB ?_;have x7':Ext wr w7:=x5.trans x57;have ho7:=ho5.ext x57;have sz7:=(hx.trans x7').size;by_cases ha:fold L[j].name=fold n
   ·rw [decide_eq_true ha];refine dM 6 ?_;refine aB ?_;refine dM 7 ?_;refine aB ?_;refine dM 8 ?_;refine aB ?_;refine dM 9 ?_;refine aB ?_;refine dM 10 ?_;refine aB ?_;by_cases hk:L[j].kind=k
    ·have hP:UI n k (jU L[j])=true:=by simp [UI,jU,ha,hk]
     rw [decide_eq_true hk];refine tsk 11 ?_;refine aB ?_;refine tsk 12 ?_;refine aB ?_;refine dM 13 ?_;refine aB ?_;refine dM 14 ?_;refine aB ?_;rw [hP,if_pos rfl]at hst;refine cO zDk ?_;have hp7:=hp5.ext x57;refine_lift aT ?_;refine Bq [aE (fold L[j].name), .int .i64 L[j].kind, .int .i64 L[j].ttl,aE L[j].data] (hx.trans x7') ho7 aC ?_ (vZ (r:=jU L[j]) rfl);intro s8 v8 w8 w9 x8 m8 x9 o9;refine aB ?_;refine_lift aT ?_;refine ⟨⟨j+1,aC,by go_num,x9,?_⟩,by simp [intOf];omega⟩;rw [hst]
     simpa [aF,Rec.cells,jU]using o9
    ·rw [decide_eq_false hk];refine dM 11 ?_;refine aB ?_;refine dM 12 ?_;refine aB ?_;refine dM 13 ?_;refine aB ?_;refine dM 14 ?_;refine aB ?_;by_cases hq:k=255
     ·have hP:UI n k (jU L[j])=true:=by simp [UI,jU,ha,hq]
      rw [hP,if_pos rfl]at hst;refine cO zDk ?_;have hp7:=hp5.ext x57;refine_lift jQ fun _=>?_;refine Bq [aE (fold L[j].name), .int .i64 L[j].kind, .int .i64 L[j].ttl,aE L[j].data] (hx.trans x7') ho7 aC ?_ (vZ (r:=jU L[j]) rfl);intro s8 v8 w8 w9 x8 m8 x9 o9;refine aB ?_;refine_lift aT ?_;refine ⟨⟨j+1,aC,by go_num,x9,?_⟩,by simp [intOf];omega⟩;rw [hst]
      simpa [aF,Rec.cells,jU]using o9
     ·have hP:UI n k (jU L[j])=false:=by simp [UI,jU,hk,hq]
      rw [hP,if_neg aK,List.append_nil]at hst;refine cO zDk ?_;have hp7:=hp5.ext x57;refine_lift jQ fun _=>?_;exact ⟨⟨j+1,aC,by go_num,hx.trans x7',by rw [hst];exact ho7⟩,by simp [intOf];omega⟩
   ·have hP:UI n k (jU L[j])=false:=by simp [UI,jU,ha]
    rw [decide_eq_false ha];refine tsk 6 ?_;refine aB ?_;refine tsk 7 ?_;refine aB ?_;refine tsk 8 ?_;refine aB ?_;refine tsk 9 ?_;refine aB ?_;refine tsk 10 ?_;refine aB ?_;refine tsk 11 ?_;refine aB ?_;refine tsk 12 ?_;refine aB ?_;refine tsk 13 ?_;refine aB ?_;refine dM 14 ?_;refine aB ?_;rw [hP,if_neg aK,List.append_nil]at hst;refine cO zDk ?_;have hp7:=hp5.ext x57;refine_lift aT ?_;exact ⟨⟨j+1,aC,by go_num,hx.trans x7',by rw [hst];exact ho7⟩,by simp [intOf];omega⟩
  ·have:j=L.length:=aC;subst this;rw [List.take_length]at ho;refine_lift jQ fun _=>?_;go_ret;exact ⟨_,rfl,hx0,by rw [hL];exact ho.weaken x1.size⟩
theorem Sl.mvR (h:Sl k w v es) (hm:Mv row w w') (hne:es≠[]→∀ a o s n c,v=.slice (some ⟨a,o,s⟩) n c→row≠some a):Sl k w' v es:=by
 obtain ⟨a,cap,h1,h2,h3,h4,h5,h6⟩:=h;refine ⟨a,cap,h1,h2,h3,h4,h5,fun hn=>?_⟩;obtain ⟨g,o,e,hc⟩:=h6 hn;refine ⟨g,o,e,fun i e' j x q1 q2=>?_⟩;have h7:=hc i e' j x q1 q2;exact (World.cell?_of_block (hm.block g (World.block_lt_of_cell? w _ h7) (fun e9=>hne hn g o none _ _ (by rw [h1,e]) e9.symm))).trans h7
theorem LrnsV.one {l:List LrnR} (h:LrnsV B w v l):v.oneCell'=true:=by
 obtain ⟨css,h1,_⟩:=h;exact h1.one
theorem LrnsV.weaken {C:Nat} {l:List LrnR} (h:LrnsV B w v l) (hc:C≤B):LrnsV C w v l:=by
 obtain ⟨css,h1,h2,h3⟩:=h;exact ⟨css,h1.weaken hc,h2,fun i s hi=>let ⟨x,a,b,c,d⟩:=h3 i s hi;⟨x,a,b,c.weaken hc,d⟩⟩
theorem LrnsV.mvb {l:List LrnR} (h:LrnsV B w v l) (hm:Mv (some b) w w') (hb:b<B):LrnsV B w' v l:=by
 obtain ⟨css,h1,h2,h3⟩:=h;have hv:v.ownBlock=none∨v.ownBlock≠some b:=by
  by_cases e:v.ownBlock=some b
  ·have:=(h1.block b e).1;omega
  ·exact .inr e
 refine ⟨css,h1.mv hm hv,h2,fun i s hi=>?_⟩;obtain ⟨x,a,c,d,e⟩:=h3 i s hi;refine ⟨x,a,c.mvR hm ?_,d,e⟩;intro _ g o s' n c' e1 e2;have:=d g o s' n c' e1;have:=Option.some.inj e2;omega
structure LrnsU (B:Nat) (w:World) (v:Value) (l:List LrnR) (u:Value):Prop where
 out:∃ css,Own B 5 248 w v css∧css.length=l.length∧∀ (i:Nat) (s:LrnR),l[i]? = some s→∃ x,css[i]? = some (CG s x)∧Sl 1 w x (aH s.set.data)∧From B x∧(s.set.data≠[]→yF x v∧yF x u)
theorem LrnsU.lrns {l:List LrnR} (h:LrnsU B w v l u):LrnsV B w v l:=by
 obtain ⟨css,h1,h2,h3⟩:=h;exact ⟨css,h1,h2,fun i s hi=>let ⟨x,a,b,c,d⟩:=h3 i s hi;⟨x,a,b,c,fun hd=>(d hd).1⟩⟩
theorem LrnsV.apart {l:List LrnR} (h:LrnsV B w v l):LrnsU B w v l (.slice none 0 0):=by
 obtain ⟨css,h1,h2,h3⟩:=h;exact ⟨css,h1,h2,fun i s hi=>let ⟨x,a,b,c,d⟩:=h3 i s hi;⟨x,a,b,c,fun hd=>⟨d hd,fun a o s n c _ e=>by cases e⟩⟩⟩
theorem LrnsU.ext {l:List LrnR} (h:LrnsU B w v l u) (hx:Ext w w'):LrnsU B w' v l u:=by
 obtain ⟨css,h1,h2,h3⟩:=h;exact ⟨css,h1.ext hx,h2,fun i s hi=>let ⟨x,a,b,c,d⟩:=h3 i s hi;⟨x,a,b.ext hx,c,d⟩⟩
theorem LrnsU.mvb {l:List LrnR} (h:LrnsU B w v l u) (hm:Mv (some b) w w') (hb:b<B):LrnsU B w' v l u:=by
 obtain ⟨css,h1,h2,h3⟩:=h;have hv:v.ownBlock=none∨v.ownBlock≠some b:=by
  by_cases e:v.ownBlock=some b
  ·have:=(h1.block b e).1;omega
  ·exact .inr e
 refine ⟨css,h1.mv hm hv,h2,fun i s hi=>?_⟩;obtain ⟨x,a,c,d,e⟩:=h3 i s hi;refine ⟨x,a,c.mvR hm ?_,d,e⟩;intro _ g o s' n c' e1 e2;have:=d g o s' n c' e1;have:=Option.some.inj e2;omega
theorem LrnsU.mvo {l:List LrnR} {o:Obj} (h:LrnsU B w v l u) (hm:Mv (some c) w w') (hc:w.heap[c]? = some o) (ho:∀ cs t fz,o≠.cells cs t fz):LrnsU B w' v l u:=by
 obtain ⟨css,h1,h2,h3⟩:=h;have hv:v.ownBlock=none∨v.ownBlock≠some c:=by
  by_cases e:v.ownBlock=some c
  ·rcases h1.row.2 with e1|⟨gg,cap,cur,fz,rfl,hb,hg,r⟩
   ·exact .inl (by rw [e1.1];rfl)
   ·exfalso
    simp only [Value.ownBlock,Option.some.injEq]at e;rw [e,hc]at hg;exact ho _ _ _ (Option.some.inj hg)
  ·exact .inr e
 refine ⟨css,h1.mv hm hv,h2,fun i s hi=>?_⟩;obtain ⟨x,a,b,d,e⟩:=h3 i s hi;refine ⟨x,a,b.mvR hm ?_,d,e⟩;intro hn g o' s' n c' e1 e2;have e3:=Option.some.inj e2;subst e3;obtain ⟨a',cap,h1',h2',h3',h4',h5',h6'⟩:=b;obtain ⟨b',o'',e4,hcell⟩:=h6' hn;rw [e4,e1]at h1';simp only [Value.slice.injEq,Option.some.injEq,Addr.mk.injEq]at h1';cases hd:s.set.data with
 | nil=>rw [hd]at hn;exact hn rfl
 | cons d0 dl =>
  have h7:=hcell 0 [aE d0] 0 (aE d0) (by rw [hd];rfl) rfl;rw [← h1'.1.1]at h7;unfold World.cell? at h7;rw [hc]at h7;cases o with
  | cells cs t fz=>exact ho _ _ _ rfl
  | map _ _=>cases h7
  | _=>cases h7
theorem LrnsU.append {B2:Nat} {v3 y:Value} {l m:List LrnR} {css2:List (List Value)} (hB:B≤B2)
 (h1:Own B 5 248 w v css) (h2:css.length=l.length) (h3:∀ (i:Nat) (s:LrnR),l[i]? = some s→∃ x,css[i]? = some (CG s x)∧Sl 1 w x (aH s.set.data)∧From B x∧(s.set.data≠[]→yF x v∧yF x y))
 (k2:css2.length=m.length) (k3:∀ (i:Nat) (s:LrnR),m[i]? = some s→∃ x,css2[i]? = some (CG s x)∧Sl 1 w x (aH s.set.data)∧From B2 x∧(s.set.data≠[]→yF x u))
 (hv:∀ r,v.ownBlock=some r→r<B2) (hy:∀ r,y.ownBlock=some r→r<B2) (o3:Own B 5 248 w' v3 (css++css2)) (hm:Mv v.ownBlock w w') (hk:v3.ownBlock=v.ownBlock∨v3.ownBlock=some w.heap.size):LrnsU B w' v3 (l++m) y:=by
 have far:∀ x (d:List (List UInt8)),d≠[]→Sl 1 w x (aH d)→yF x v→yF x v3:=by
  intro x d hd hs ha a o s n c e e2;rcases hk with e1|e1
  ·exact ha a o s n c e (e1▸e2)
  ·subst e;have:=Sl.lt_block hs (by simpa [aH]using hd);rw [e1]at e2;have:=Option.some.inj e2;omega
 have kept:∀ x (d:List (List UInt8)),Sl 1 w x (aH d)→(d≠[]→yF x v)→Sl 1 w' x (aH d):=by
  intro x d hs ha;refine hs.mvR hm fun hn a o s n c e e2=>?_;exact ha (by rintro rfl;exact hn rfl) a o s n c e e2
 refine ⟨_,o3,by simp [h2,k2],fun i s hi=>?_⟩;by_cases hlt:i<l.length
 ·rw [List.getElem?_append_left hlt]at hi;obtain ⟨x,a,b,c,d⟩:=h3 i s hi;exact ⟨x,by rw [List.getElem?_append_left aC];exact a,kept x _ b fun hd=>(d hd).1,c,fun hd=>⟨far x _ hd b (d hd).1,(d hd).2⟩⟩
 ·rw [List.getElem?_append_right aC]at hi;obtain ⟨x,a,b,c,d⟩:=k3 _ s hi;have hfar:yF x v:=by
   intro a' o s' n c' e e2;have q1:=c a' o s' n c' e;have q2:=hv a' e2;omega
  have hfar2:yF x y:=by
   intro a' o s' n c' e e2;have q1:=c a' o s' n c' e;have q2:=hy a' e2;omega
  exact ⟨x,by rw [List.getElem?_append_right aC,h2];exact a,kept x _ b fun _=>hfar,c.weaken hB,fun hd=>⟨far x _ hd b hfar,hfar2⟩⟩
theorem LrnsU.grow {y y3:Value} {l:List LrnR} (h:LrnsU B w v l y) (hm:Mv y.ownBlock w w') (hk:y3.ownBlock=y.ownBlock∨y3.ownBlock=some w.heap.size) (hv:v.ownBlock=none∨v.ownBlock≠y.ownBlock):LrnsU B w' v l y3:=by
 obtain ⟨css,h1,h2,h3⟩:=h;refine ⟨css,h1.mv hm hv,h2,fun i s hi=>?_⟩;obtain ⟨x,a,b,c,d⟩:=h3 i s hi;refine ⟨x,a,b.mvR hm fun hn a o s' n c e e2=>(d (by rintro h9;rw [h9]at hn;exact hn rfl)).2 a o s' n c e e2,c,fun hd=>⟨(d hd).1,?_⟩⟩;intro a' o s' n c' e e2;rcases hk with e1|e1
 ·exact (d hd).2 a' o s' n c' e (e1▸e2)
 ·subst e;have:=Sl.lt_block b (by simpa [aH]using hd);rw [e1]at e2;have:=Option.some.inj e2;omega
theorem OM (k:Int) (d:List UInt8):(fold (aQ k d).1).length≤254:=by
 have h0:(fold []).length≤254:=jE [] rfl;unfold aQ;split
 ·exact h0
 ·split
  ·exact h0
  ·split
   ·exact h0
   ·rename_i n hn;unfold jR at hn;split at hn
    ·rename_i hh;cases hn
     exact jE _ hh.2
    ·cases hn
def rW (ns:List (List UInt8)):List (Value×Value):=ns.map fun n=>(aE n, .bool true)
theorem ON {ns:List (List UInt8)} (h:(rW ns)[i]? = some (aE n,v)):n∈ns∧v=.bool true:=by
 rw [rW,List.getElem?_map]at h;cases hi:ns[i]? with
 | none=>rw [hi]at h;cases h
 | some m =>
  rw [hi]at h;simp only [Option.map_some,Option.some.injEq,Prod.mk.injEq,aE,Value.string.injEq,ByteArray.mk.injEq]at h;have:m=n:=by simpa using h.1
  exact ⟨this▸List.mem_of_getElem? hi,h.2.symm⟩
theorem SB {ns:List (List UInt8)} (h:∀ (i:Nat) (e:Value×Value),(rW ns)[i]? = some e→e.1≠aE n):n∉ns:=by
 intro hm;obtain ⟨i,hi,rfl⟩:=List.mem_iff_getElem.1 hm;exact h i (aE ns[i], .bool true) (by simp [rW,hi]) rfl
theorem yP:WideMaps.KeyLaw Tryz.prog 23:=WideMaps.string_law Tryz.underlying23
theorem MK (n:List UInt8) (hn:n.length≤1000000):∃ l,keyOf Tryz.prog 23 (aE n)=some l :=
 ⟨_,WideMaps.keyOf_string_mk Tryz.underlying23 (by rw [fD];unfold maxLen;omega)⟩
def eV (t:TaskR) (ex:List Rec) (ns:List Rec) (k:Nat):RfrR:=(ns.take k).foldl (t.refStep ex) ⟨[],[],fQ ns 2⟩
theorem IY {t:TaskR} {ex ns:List Rec} (h:k<ns.length):eV t ex ns (k+1)=t.refStep ex (eV t ex ns k) ns[k]:=by
 rw [eV,List.take_succ_eq_append_getElem h,List.foldl_append];rfl
theorem KV {s:List Int} {l:List Rec} (h:k<l.length):jL s (l.take (k+1))=(match pZ l[k].data with|none=>jL s (l.take k)|some n=>if n∈jL s (l.take k)then jL s (l.take k)else jL s (l.take k) ++ [n]):=by
 rw [jL,List.take_succ_eq_append_getElem h,List.foldl_append];rfl
theorem EF (s:List Int) (l:List Rec):(jL s l).length≤s.length+l.length:=by
 induction l generalizing s with
 | nil=>exact Nat.le_refl _
 | cons r l ih =>
  have e:jL s (r::l)=jL (match pZ r.data with|none=>s|some n=>if n∈s then s else s ++ [n]) l:=rfl;rw [e];refine Nat.le_trans (ih _) ?_;rw [List.length_cons];split
  ·omega
  ·split
   ·omega
   ·rw [List.length_append];simp;omega
theorem tF (l:List Rec) (rank:Int):(fQ l rank).length≤l.length:=by
 unfold fQ;split
 ·rw [List.length_map];have:=(kR l l.length (Nat.le_refl _)).1;rw [List.take_length]at this;exact this
 ·exact Nat.zero_le _
theorem nO (t:TaskR) (l:List Rec) (n:List UInt8) (k:Int):(t.of l n k).length≤l.length:=by
 rw [YA];exact Nat.le_trans (SA _ _ _) (tE _ _)
theorem EG (t:TaskR) (ex ns:List Rec):∀ k,k≤ns.length→(eV t ex ns k).servers.length≤k*ex.length∧(eV t ex ns k).learnt.length≤ns.length+k*ex.length∧(eV t ex ns k).seen.length≤k
 | 0,_=>⟨Nat.zero_le _,Nat.le_trans (tF _ _) (Nat.le_add_right ..),Nat.zero_le _⟩
 | k+1,h=>by
   rw [IY aC];obtain ⟨h1,h2,h3⟩:=EG t ex ns k aC;unfold TaskR.refStep;have e:(k+1)*ex.length=k*ex.length+ex.length:=Nat.succ_mul ..;dsimp only;split
   ·exact ⟨aC,aC,aC⟩
   ·have a1:=nO t ex (fold (aQ 2 ns[k].data).1) 1;have a2:=EF (eV t ex ns k).servers (t.of ex (fold (aQ 2 ns[k].data).1) 1);have a3:=tF (t.of ex (fold (aQ 2 ns[k].data).1) 1) 1;rw [e];simp only [List.length_append,List.length_cons,List.length_nil];exact ⟨aC,aC,aC⟩
theorem SC (t:TaskR) (m:MsgR) (z:List UInt8):t.refer m z=({ t with servers:=(eV t m.ex (t.of m.au z 2) (t.of m.au z 2).length).servers,zone:=z },(eV t m.ex (t.of m.au z 2) (t.of m.au z 2).length).learnt):=by
 unfold TaskR.refer eV;rw [List.take_length]
theorem xR {m:MsgR} (h:(fF qn qt m z).1≠0):bW qn z=true∧(fF qn qt m z)=(let j:JudR:=⟨qn,qt,z,m.rcode,bX m.an z,bX m.au z⟩
 if j.answer.1≠0 then j.answer else if j.alias.1≠0 then j.alias else if j.denial.1≠0 then j.denial else j.referral):=by
 unfold fF at h ⊢;split at h
 ·exact absurd rfl h
 ·rename_i c;rw [if_neg c];refine ⟨?_,rfl⟩;cases hu:bW qn z with
  | true=>rfl
  | false=>exact absurd (.inl hu) c
theorem xS (j:JudR):j.answer.1=0∨j.answer.1=1:=by unfold JudR.answer;split<;>simp
theorem KW (j:JudR):j.alias.1=0∨j.alias.1=5:=by unfold JudR.alias;split<;>simp
theorem IZ (j:JudR):j.denial.1=0∨j.denial.1=3∨j.denial.1=2:=by unfold JudR.denial;split;simp;split<;>simp
theorem sI (j:JudR):j.referral.1=6∨j.referral.1=4:=by unfold JudR.referral;split<;>simp
theorem JA {m:MsgR} (h:(fF qn qt m z).1=5):∃ r∈bX m.an z,fold r.name=fold qn∧r.kind=5:=by
 obtain ⟨_,e⟩:=xR (by rw [h];decide);rw [e]at h;dsimp only at h;generalize hj:(⟨qn,qt,z,m.rcode,bX m.an z,bX m.au z⟩:JudR)=j at *;have han:j.an=bX m.an z:=by rw [← hj]
 have hqn:j.qn=qn:=by rw [← hj]
 rw [← han,← hqn];split at h
 ·rcases xS j with e1|e1<;>rw [e1]at h<;>cases h
 ·split at h
  ·unfold JudR.alias at h;split at h
   ·cases h
   ·rename_i r hr;have h1:=List.find?_some hr;unfold JudR.aliP oR at h1;simp only [Bool.and_eq_true,decide_eq_true_eq]at h1;exact ⟨r,List.mem_of_find?_eq_some hr,h1⟩
  ·split at h
   ·rcases IZ j with e1|e1|e1<;>rw [e1]at h<;>cases h
   ·rcases sI j with e1|e1<;>rw [e1]at h<;>cases h
theorem FS {m:MsgR} (h:(fF qn qt m z).1=2∨(fF qn qt m z).1=3):∃ r∈bX m.au z,(fF qn qt m z).2=fold r.name∧r.kind=6:=by
 obtain ⟨_,e⟩:=xR (by rcases h with h|h<;>rw [h]<;>decide);rw [e]at h ⊢;dsimp only at h ⊢;generalize hj:(⟨qn,qt,z,m.rcode,bX m.an z,bX m.au z⟩:JudR)=j at *;have hau:j.au=bX m.au z:=by rw [← hj]
 rw [← hau];split at h
 ·rcases xS j with e1|e1<;>rw [e1]at h<;>rcases h with h|h<;>cases h
 ·rename_i c1;rw [if_neg c1];split at h
  ·rcases KW j with e1|e1<;>rw [e1]at h<;>rcases h with h|h<;>cases h
  ·rename_i c2;rw [if_neg c2];split at h
   ·rename_i c3;rw [if_pos c3];unfold JudR.denial at h ⊢;split at h
    ·rcases h with h|h<;>cases h
    ·rename_i r hr;have h1:=List.find?_some hr;unfold JudR.denP at h1;simp only [Bool.and_eq_true,decide_eq_true_eq]at h1;refine ⟨r,List.mem_of_find?_eq_some hr,?_,h1.1⟩;split<;>rfl
   ·rcases sI j with e1|e1<;>rw [e1]at h<;>rcases h with h|h<;>cases h
theorem YB {t:TaskR} {l:List Rec} {k:Int} {r:Rec} (hr:r∈bX l t.zone) (h1:fold r.name=fold n) (h2:r.kind=k):t.of l n k≠[]:=by
 intro e;have:jU r∈t.of l n k:=by
  unfold TaskR.of;refine List.mem_filter.2 ⟨List.mem_map_of_mem hr,?_⟩;simp [jU,h1,h2]
 rw [e]at this;cases this
theorem SD {t:TaskR} {m:MsgR} (h:(fF t.qn t.qt m t.zone).1=5):1≤(t.of m.an t.qn 5).length:=by
 obtain ⟨r,h1,h2,h3⟩:=JA h;exact List.length_pos_iff.2 (YB h1 h2 h3)
theorem EH {t:TaskR} {m:MsgR} (h:(fF t.qn t.qt m t.zone).1=2∨(fF t.qn t.qt m t.zone).1=3):1≤(t.of m.au (fF t.qn t.qt m t.zone).2 6).length:=by
 obtain ⟨r,h1,h2,h3⟩:=FS h;exact List.length_pos_iff.2 (YB h1 (by rw [h2,vV]) h3)
structure TaskB (t:TaskR) (n:Nat):Prop where
 l0:0≤t.left
 l1:t.left≤1000
 c0:0≤t.chain
 c1:t.chain≤8
 got:t.got.length≤n
 stop:∀ a,t.stop=some a→a.ans.length≤n∧a.auth.length≤1
theorem TaskB.weaken {t:TaskR} {n n':Nat} (h:TaskB t n) (hn:n≤n'):TaskB t n':=⟨h.l0,h.l1,h.c0,h.c1,Nat.le_trans h.got hn,fun a ha=>⟨Nat.le_trans (h.stop a ha).1 hn,(h.stop a ha).2⟩⟩
theorem TaskB.fin {t:TaskR} {n:Nat} (h:TaskB t n) (c:Int) {x y:List Rec} (hx:x.length≤n) (hy:y.length≤1):TaskB (t.done c x y).1 n :=
 ⟨h.l0,h.l1,h.c0,h.c1,h.got,fun a ha=>by cases ha;exact ⟨hx,hy⟩⟩
theorem TaskB.on {t:TaskR} {n:Nat} (h:TaskB t n) (hs:t.stop=none):TaskB t.on.1 n:=by
 unfold TaskR.on;split
 ·exact h.fin 2 (Nat.zero_le _) (Nat.zero_le _)
 ·split
  ·exact h.fin 2 (Nat.zero_le _) (Nat.zero_le _)
  ·rename_i c;have:=h.l0;have:=h.l1;exact ⟨by dsimp only;omega,by dsimp only;omega,h.c0,h.c1,h.got,fun a ha=>h.stop a ha⟩
theorem TaskB.follow {t:TaskR} {n:Nat} (h:TaskB t n) (hs:t.stop=none) (x:List UInt8):TaskB (t.follow x).1 n:=by
 unfold TaskR.follow;have:=h.c0;have:=h.c1;split
 ·exact h.fin 2 (Nat.zero_le _) (Nat.zero_le _)
 ·rename_i c;refine TaskB.on ⟨h.l0,h.l1,?_,?_,h.got,h.stop⟩ hs
  ·show 0≤t.chain+1;omega
  ·show t.chain+1≤8;omega
theorem wD (l:List Rec):(l.take 1).length≤1:=by rw [List.length_take];omega
theorem TaskB.reply {t:TaskR} {n:Nat} (h:TaskB t n) (m:MsgR) (hm:m.an.length≤c) (hc:1≤c):TaskB (t.reply m).1 (n+c):=by
 have h':TaskB t (n+c):=h.weaken (Nat.le_add_right ..);unfold TaskR.reply;split
 ·exact h'
 ·rename_i hs;have hg:=h.got;dsimp only;split
  ·have a1:=nO t m.an t.qn t.qt;have hg2:(t.got++t.of m.an t.qn t.qt).length≤n+c:=by rw [List.length_append];omega
   exact TaskB.fin (t:={ t with got:=t.got++t.of m.an t.qn t.qt }) ⟨h.l0,h.l1,h.c0,h.c1,hg2,fun a ha=>by rw [show t.stop=none from hs]at ha;cases ha⟩ 0 hg2 (Nat.zero_le _)
  ·split
   ·have a1:=wD (t.of m.an t.qn 5);have hg2:(t.got++(t.of m.an t.qn 5).take 1).length≤n+c:=by rw [List.length_append];omega
    exact TaskB.follow (t:={ t with got:=t.got++(t.of m.an t.qn 5).take 1 }) ⟨h.l0,h.l1,h.c0,h.c1,hg2,fun a ha=>by rw [show t.stop=none from hs]at ha;cases ha⟩ hs _
   ·split
    ·exact h'.fin 3 h'.got (wD _)
    ·split
     ·exact h'.fin 0 h'.got (wD _)
     ·split
      ·exact TaskB.on (t:=(t.refer m (fF t.qn t.qt m t.zone).2).1) ⟨h'.l0,h'.l1,h'.c0,h'.c1,h'.got,fun a ha=>h'.stop a ha⟩ hs
      ·exact h'.on hs
theorem SE (h:Lib.hasPrefix d [10,0,0]=true):∃ t,d=10::0::0::t∧Lib.trimPrefix d [10,0,0]=t:=by
 have h2:=h;unfold Lib.hasPrefix at h2;rw [List.isPrefixOf_iff_prefix]at h2;obtain ⟨t,rfl⟩:=h2;refine ⟨t,rfl,?_⟩;rw [Lib.trimPrefix,if_pos h];rfl
theorem OO (h:Lib.hasPrefix d [10,0,0]=false):pZ d=none:=by
 rw [pZ,if_neg];intro h2;unfold Lib.hasPrefix at h;rw [← Bool.not_eq_true,List.isPrefixOf_iff_prefix]at h;exact h ⟨d.drop 3,by rw [← h2,List.take_append_drop]⟩
theorem Cw (s p:List UInt8) (w:World):Calls Tryz.prog 263 #[aE s,aE p] w (bC w (.tuple #[aE (Lib.trimPrefix s p), .bool (Lib.hasPrefix s p)])):=by
 refine (Tryz.strings_CutPrefix ⟨s.toArray⟩ ⟨p.toArray⟩ w).mono ?_;rintro e w' ⟨rfl,rfl⟩;exact ⟨rfl,Ext.refl _⟩
theorem KX (t:List UInt8):pZ (10::0::0::t)=match t with | [x]=>if 99<x.toNat then none else some (x.toNat:Nat)|_=>none:=by
 unfold pZ;exact if_pos (show List.take 3 (10::0::0::t)=[10,0,0] from rfl)
theorem ZY (d:List UInt8) (w:World) (hl:d.length≤9223372036854775807):Calls Tryz.prog 238 #[aE d] w (bC w (.tuple #[.int .i64 ((pZ d).getD 0), .bool (pZ d).isSome])):=by
 have hcu:=fun w=>Cw d [10,0,0] w;go_enter Tryz.func238,Tryz.ntmps238
 cases hh:Lib.hasPrefix d [10,0,0] with
 | false =>
  have hE:=OO hh;rw [hh]at hcu;generalize Lib.trimPrefix d [10,0,0]=t at hcu;refine_lift bU fun _ _=>?_;refine cB (hcu _) fun w1 x1=>?_;refine_lift aT ?_;go_ret2;exact ⟨by rw [hE];rfl,x1⟩
 | true =>
  obtain ⟨t,rfl,ht⟩:=SE hh;rw [hh,ht]at hcu;have hE:=KX t;clear ht hh;cases t with
  | nil =>
   refine_lift bU fun _ _=>?_;refine cB (hcu _) fun w1 x1=>?_;refine_lift jQ fun _=>?_;go_ret2;exact ⟨by rw [hE];rfl,x1⟩
  | cons x t =>
   cases t with
   | nil =>
    refine_lift bU fun _ _=>?_;refine cB (hcu _) fun w1 x1=>?_;by_cases c:99<x.toNat
    ·have hN:pZ (10::0::0 :: [x])=none:=by rw [hE];exact if_pos c
     refine_lift ZC (fun hc=>?_) (fun hc _=>?_)
     all_goals first
      | (exfalso;omega)
      | (exfalso;simp at hc;done)
      | skip
     go_ret2;exact ⟨by rw [hN];rfl,x1⟩
    ·have hN:pZ (10::0::0 :: [x])=some (x.toNat:Nat):=by rw [hE];exact if_neg c
     refine_lift ZC (fun hc=>?_) (fun hc _=>?_)
     all_goals first
      | (exfalso;omega)
      | (exfalso;simp at hc;done)
      | skip
     go_ret2;exact ⟨by rw [hN];rfl,x1⟩
   | cons y t =>
    refine_lift bU fun _ _=>?_;refine cB (hcu _) fun w1 x1=>?_;refine_lift jQ fun _=>?_
    all_goals first
     | (exfalso;simp only [List.length_cons]at *;omega)
     | skip
    go_ret2;exact ⟨by rw [hE];rfl,x1⟩
theorem ZZ (v:Value) (l:List Int) (x:Int) (w:World) (hv:Sl 1 w v (bO l)):Calls Tryz.prog 239 #[v, .int .i64 x] w (bC w (.bool (decide (x∈l)))):=by
 have hlen:(bO l).length=l.length:=List.length_map ..;have hle:=hv.le;obtain ⟨a,cap,h1,h2,h3,h4,h5,h6⟩:=hv;subst h1;cases l with
 | nil =>
  refine (Tryz.slices_Contains_int_empty a cap x w).mono ?_;rintro e w' ⟨rfl,rfl⟩;exact ⟨rfl,Ext.refl _⟩
 | cons y l =>
  obtain ⟨b,o,rfl,hc⟩:=h6 (by simp [bO]);rw [hlen];refine (Tryz.slices_Contains_int b o (y::l).length cap (y::l) x w (Nat.le_refl _) aC ?_).mono ?_
  ·intro j hj;have:=hc j [.int .i64 ((y::l).getD j 0)] 0 (.int .i64 ((y::l).getD j 0)) (by rw [bO,List.getElem?_map,List.getElem?_eq_getElem hj];simp [List.getD_eq_getElem?_getD,List.getElem?_eq_getElem hj]) rfl
   simpa using this
  ·rintro e w' ⟨rfl,rfl⟩;exact ⟨by rw [List.take_length,List.contains_eq_mem],Ext.refl _⟩
theorem TaskV.away {t:TaskR} {rv sv gv ev:Value} (h:TaskV w0 w b t rv sv gv ev) (hs:t.stop=none) (hm:Mv row w w') (hg:∀ c,row=some c→w0.heap.size≤c∧c≠b)
 (h1:rv.ownBlock=none∨rv.ownBlock≠row) (h2:gv.ownBlock=none∨gv.ownBlock≠row) (h3:OwnOff w0.heap.size 1 3 w' sv (bO t.servers)):TaskV w0 w' b t rv sv gv ev:=by
 refine ⟨h.ge,h.ext.move hm (fun k hk=>(hg k hk).1),hm.at h.blk (fun e=>(hg b e.symm).2 rfl),h.rs.mv hm h1,h3,h.gs.mv hm h2,?_⟩;have he:=h.es;rw [hs]at he ⊢;exact he
theorem TaskV.swap {t:TaskR} {rv sv sv' gv ev:Value} {l:List Int} (h:TaskV w0 w b t rv sv gv ev) (hs:t.stop=none) (hm:Mv row w w1) (hg:∀ c,row=some c→w0.heap.size≤c∧c≠b)
 (h1:rv.ownBlock=none∨rv.ownBlock≠row) (h2:gv.ownBlock=none∨gv.ownBlock≠row) (h3:OwnOff w0.heap.size 1 3 w1 sv' (bO l))
 (hp:Put w1 w2 b (.cells (fR { t with servers:=l } rv sv' gv ev).toArray 273 (0,0))):TaskV w0 w2 b { t with servers:=l } rv sv' gv ev:=by
 have b1:=hm.at h.blk (fun e=>(hg b e.symm).2 rfl);have r1:=h.rs.mv hm h1;have g1:=h.gs.mv hm h2;refine ⟨h.ge,(h.ext.move hm (fun k hk=>(hg k hk).1)).move hp.mv (by rintro k ⟨⟩;exact h.ge),hp.this,r1.mv hp.mv (.inr (r1.neBlock b1 aK)),h3.mv hp.mv (.inr (h3.neBlock b1 aK)),g1.mv hp.mv (.inr (g1.neBlock b1 aK)),?_⟩;have he:=h.es;rw [hs]at he;show StopV w0.heap.size w2 ev t.stop;rw [hs];exact he
theorem KY (h:Own B k e w v es) (c:Nat) (hc:w.heap.size≤c):v.ownBlock=none∨v.ownBlock≠some c:=by
 by_cases e:v.ownBlock=some c
 ·have:=(h.block c e).2;omega
 ·exact .inr e
theorem yQ (h:Own B k e w v es) (hu:∀ r,u.ownBlock=some r→w.heap.size≤r):v.ownBlock=none∨v.ownBlock≠u.ownBlock:=by
 cases hv:v.ownBlock with
 | none=>exact .inl rfl
 | some r =>
  refine .inr fun e=>?_;have:=(h.block r hv).2;have:=hu r e.symm;omega
theorem VQ {m:List LrnR} (h2:css.length=m.length) (h3:∀ (i:Nat) (s:LrnR),m[i]? = some s→∃ x,css[i]? = some (CG s x)∧Sl 1 w x (aH s.set.data)∧From B x∧(s.set.data≠[]→yF x u)):∀ f∈css,∀ u∈f,u.oneCell'=true:=by
 intro f hf u hu;obtain ⟨i,hi,rfl⟩:=List.mem_iff_getElem.1 hf;obtain ⟨x,a,b,_⟩:=h3 i m[i] (List.getElem?_eq_getElem aC);rw [List.getElem?_eq_getElem hi]at a;rw [Option.some.inj a]at hu;simp only [CG,List.mem_cons,List.not_mem_nil,or_false]at hu;rcases hu with rfl|rfl|rfl|rfl|rfl
 all_goals first|rfl|exact b.one
theorem Mv.fresh' {row2:Option Nat} (h:Mv row w w1) (k:Mv row2 w1 w2) (hc:∀ c,row2=some c→w.heap.size≤c):Mv row w w2 :=
 ⟨k.os.trans h.os,k.tape.trans h.tape,k.output.trans h.output,Nat.le_trans h.size k.size,
  fun j hj hn=>by rw [k.block j (Nat.lt_of_lt_of_le hj h.size) (by intro e;have:=hc j e.symm;omega),h.block j hj hn],Nat.le_trans h.drawn k.drawn⟩
theorem MapAt.mvr {P:Program} {kt:TypeId} {m:Nat} {ents:List (Value×Value)} (h:MapAt P kt w m ents) (hm:Mv row w w') (ho:Own B k e w v es) (hr:row=v.ownBlock):MapAt P kt w' m ents:=by
 obtain ⟨es',ck,h1,_⟩:=h.out;exact h.at fun o hh=>hm.at hh (by rw [hr];exact fun e=>ho.neMap h1 e.symm)
structure RefIn (w0 w w1 w2 w5:World) (M b:Nat) (t:TaskR) (m:MsgR) (q a u e nv rv gv ev:Value) (ns:List Rec) (s:RfrR) (lv:Value) (wr:World):Prop where
 mv:Mv (some b) w wr
 tsk:∃ sv,TaskV w0 wr b { t with servers:=s.servers } rv sv gv ev∧Own w5.heap.size 1 3 wr sv (bO s.servers)∧LrnsU w2.heap.size wr lv s.learnt sv
 seen:MapAt Tryz.prog 23 wr M (rW s.seen)
 ns:Own w1.heap.size 4 37 wr nv (aF ns)
 msg:wr.heap[w.heap.size]? = some (.cells (aP m q a u e).toArray 54 (0,0))
 sz:w5.heap.size≤wr.heap.size
theorem RefIn.ext {w5 wr:World} {M:Nat} {t:TaskR} {m:MsgR} {q a e nv rv gv ev lv:Value} {ns:List Rec} {s:RfrR} (h:RefIn w0 w w1 w2 w5 M b t m q a u e nv rv gv ev ns s lv wr) (hx:Ext wr w'):RefIn w0 w w1 w2 w5 M b t m q a u e nv rv gv ev ns s lv w':=by
 obtain ⟨h1,⟨sv,h2,h3,h4⟩,h5,h6,h7,h8⟩:=h;exact ⟨h1.trans (hx.mv _),⟨sv,h2.grow hx,h3.ext hx,h4.ext hx⟩,h5.at fun o ho=>hx.at ho,h6.ext hx,hx.at h7,Nat.le_trans h8 hx.size⟩
theorem VR {t:TaskR} (h:TaskAt w0 w b t) (m:MsgR) (q a u e:Value) (z:List UInt8) (hm:∀ w',Mv (some b) w w'→MsgV w' m q a u e) (hs:t.stop=none) (h1:m.au.length≤300) (h2:m.ex.length≤300) (hd:∀ r∈t.of m.au z 2,r.data.length≤9223372036854775807) (he:∀ n,∀ r∈t.of m.ex n 1,r.data.length≤9223372036854775807) :
 Calls Tryz.prog 188 #[.pointer (some ⟨b,0,none⟩), .agg (aP m q a u e).toArray,aE z] w fun r w'=>∃ l,r=.returned l∧LrnsV w.heap.size w' l (t.refer m z).2∧TaskAt w0 w' b (t.refer m z).1∧Mv (some b) w w':=by
 obtain ⟨rv,sv,gv,ev,h⟩:=h;rw [SC];go_enter Tryz.func188,Tryz.ntmps188
 refine_lift sF ?_;intro _ _ _;refine jO (vs:=aP m q a u e) fun w1 x1 s1 hb1=>?_;refine aB ?_;have hp1:=aA (cs:=aP m q a u e) hb1;have hT1:=h.grow x1;refine_lift bU fun _ _=>?_;have hm1:=hm _ (x1.mv _);refine sC (OL ⟨_,_,_,_,hT1⟩ u m.au z 2 hm1.au aC) fun nv w2 x2 o2=>?_;have hns:=nO t m.au z 2;generalize hN:t.of m.au z 2=ns at *;have hT2:=hT1.grow x2;have hb2:=x2.at hb1;have s2:=o2.sl;refine_lift bU fun _ _=>?_;refine sC (uU nv ns 2 _ s2 aC) fun lv w3 x3 l3=>?_;have hT3:=hT2.grow x3;have hb3:=x3.at hb2;have o3:=o2.ext x3;refine_lift bU fun _ _=>?_;refine fA 4 (.slice none 0 0) hT3.blk rfl fun w4 p4=>?_;have p4':Put w3 w4 b (.cells (fR { t with servers:=[] } rv (.slice none 0 0) gv ev).toArray 273 (0,0)):=p4;obtain ⟨k1,k2,k3,k4⟩:=hT3.kept p4;have hT4:=hT3.put p4' k1 (OwnOff.nil _ _ _ _) k3 k4;clear p4';refine_lift bU fun _ _=>?_;refine nD (kt:=23) rfl ?_;intro w5 x5 s5 hm5;refine aB ?_;have hT5:=hT4.grow x5;have hbw:=(Array.getElem?_eq_some_iff.1 h.blk).1;have z1:=x1.size;have z2:=x2.size;have z3:=x3.size;have z4:=p4.size;have z5:=x5.size;have o5:Own w1.heap.size 4 37 w5 nv (aF ns):=(o3.mv p4.mv (.inr (o3.neBlock hT3.blk aK))).ext x5;have b5:=x5.at (p4.mv.at hb3 (by intro e;have:=Option.some.inj e;omega));have l5:LrnsV w2.heap.size w5 lv (fQ ns 2):=(l3.mvb p4.mv aC).ext x5;have m5:Mv (some b) w w5:=(x1.mv _).trans ((x2.mv _).trans ((x3.mv _).trans (p4.mv.trans (x5.mv _))));have hnl:=aJ ns;have hs5:=o5.sl;have hT5':TaskV w0 w5 b { t with servers:=(eV t m.ex ns 0).servers } rv (.slice none 0 0) gv ev:=hT5;clear hT5 hT4 hT3 hT2 hT1 k1 k2 k3 k4 l3 o2 o3 hb1 hb2 hb3 hp1 s2;refine_lift bU fun _ _=>?_;have hI5:RefIn w0 w w1 w2 w5 w4.heap.size b t m q a u e nv rv gv ev ns (eV t m.ex ns 0) lv w5 :=
  ⟨m5,⟨_,hT5',Own.nil _ _ _ _,l5.apart⟩,hm5,o5,b5,Nat.le_refl _⟩
 go_loopw [8,11,12,13,14,16,17,18,32] (fun l _ _ _ _ _ _ _ i wr=>∃ k:Nat,k≤ns.length∧i=.int .i64 k∧RefIn w0 w w1 w2 w5 w4.heap.size b t m q a u e nv rv gv ev ns (eV t m.ex ns k) l wr) (fun _ _ _ _ _ _ _ _ i _=>ns.length - (intOf i).toNat)
 case atStart=>exact ⟨0,Nat.zero_le _,rfl,hI5⟩
 case round =>
  obtain ⟨k,hk,rfl,hI⟩:=hrel;have hsn:=hI.ns.sl;by_cases hlt:k<ns.length
  ·have hpe:=hsn.elem (eX hlt);refine_lift rR ?_;intro _ _ _ _ _ _;refine dX (z:=iR) fun w6 x6 s6 h6=>?_;refine aB ?_;refine dL (v:=.agg #[aE ns[k].name, .int .i64 ns[k].kind, .int .i64 ns[k].ttl,aE ns[k].data]) h6 (gE rfl rfl rfl rfl) fun w7 p7=>?_;have x7:=cJ x6 p7;have hp7:=aA (cs:=[aE ns[k].name, .int .i64 ns[k].kind, .int .i64 ns[k].ttl,aE ns[k].data]) p7.this;have hI7:=hI.ext x7;clear p7 h6 x6 hpe hsn;refine_lift bU fun _ _=>?_;refine cB (ZF 2 ns[k].data _ (hd _ (List.getElem_mem hlt))) fun w8 x8=>?_;have hI8:=hI7.ext x8;refine_lift bU fun _ _=>?_;refine cB (vQ (aQ 2 ns[k].data).1 _) fun w9 x9=>?_;have hI9:=hI8.ext x9;have hst:=IY (t:=t) (ex:=m.ex) hlt;have hlen:=OM 2 ns[k].data;have hol:=EG t m.ex ns k hk;unfold TaskR.refStep at hst;dsimp only at hst;generalize hnn:fold (aQ 2 ns[k].data).1=n at *;clear hI hI7 hI8;refine_lift mH fun _ _ _ _=>?_;obtain ⟨lx,hlx⟩:=MK n aC;have hzv:∀ w,(zeroValue 4).run Tryz.prog w=.ok (.bool false) w:=fun w=>by kernel_rfl
   obtain ⟨bv,bb,hrl,hcase⟩:=gM yP (zDk:eI Tryz.prog 210 23 4=true) hzv hI9.seen hlx false;simp only [Bool.false_eq_true,if_false]at hrl;refine cG rfl (Runs.lookup rfl rfl hrl) ?_;refine aB ?_;rcases hcase with ⟨i,hie,rfl⟩|⟨hno,rfl,rfl⟩
   ·obtain ⟨hin,rfl⟩:=ON hie;have hst':eV t m.ex ns (k+1)=eV t m.ex ns k:=by rw [hst,if_pos hin]
    refine_lift aT ?_;exact ⟨⟨k+1,aC,by go_num,by rw [hst'];exact hI9⟩,by simp [intOf];omega⟩
   ·have hni:=SB hno;rw [if_neg hni]at hst;refine_lift bU fun _ _=>?_;obtain ⟨w10,o10,hr10,p10,hm10⟩:=iZ yP (zDk:eI Tryz.prog 210 23 4=true) hI9.seen hlx (v:=.bool true) hno;refine eQ rfl rfl rfl rfl hr10 ?_;obtain ⟨es,ck,hme,_⟩:=hI9.seen.out;obtain ⟨g1,⟨sv9,g2,g3,g4⟩,g5,g6,g7,g8⟩:=hI9;have hne9:some w.heap.size≠some w4.heap.size:=by intro e;have:=Option.some.inj e;omega
    have hT10:TaskV w0 w10 b { t with servers:=(eV t m.ex ns k).servers } rv sv9 gv ev:=g2.away hs p10.mv (by rintro c ⟨⟩;have:=h.ext.size;exact ⟨aC,aC⟩) (.inr (g2.rs.neMap hme)) (.inr (g2.gs.neMap hme)) ((g3.mv p10.mv (.inr (g3.neMap hme))).off.weaken (by have:=h.ext.size;omega));have hI10:RefIn w0 w w1 w2 w5 w4.heap.size b t m q a u e nv rv gv ev ns ⟨(eV t m.ex ns k).seen ++ [n],(eV t m.ex ns k).servers,(eV t m.ex ns k).learnt⟩ u8 w10 :=
     ⟨g1.fresh p10.mv aC,⟨sv9,hT10,g3.mv p10.mv (.inr (g3.neMap hme)),g4.mvo p10.mv hme (by intro _ _ _ e;cases e)⟩,by simpa [rW]using hm10,g6.mv p10.mv (.inr (g6.neMap hme)),p10.mv.at g7 hne9,Nat.le_trans g8 p10.mv.size⟩
    clear g1 g2 g3 g4 g5 g6 g7 g8 hT10 hm10 hme hrl hno;have hb10:=hI10.msg;have hp10:=aA (cs:=aP m q a u e) hb10;have hm10:=hm _ hI10.mv;obtain ⟨sv10,hT10,_,_⟩:=hI10.tsk;refine_lift bU fun _ _=>?_;refine sC (OL ⟨_,_,_,_,hT10⟩ e m.ex n 1 hm10.ex aC) fun av w11 x11 o11=>?_;change Own w10.heap.size 4 37 w11 av (aF (t.of m.ex n 1))at o11;have hAl:=nO t m.ex n 1;have hda:=he n;generalize hA:t.of m.ex n 1=A at *;have hI11:=hI10.ext x11;have s11:=o11.sl;refine_lift bU fun _ _=>?_;refine sC (uU av A 1 _ s11 aC) fun lw w12 x12 l12=>?_;have o12:=o11.ext x12;obtain ⟨g1,⟨sv12,g2,g3,g4⟩,g5,g6,g7,g8⟩:=hI11;have hz11:w5.heap.size≤w11.heap.size:=g8;have hsv:∀ r,sv12.ownBlock=some r→r<w11.heap.size:=fun r hr=>(g3.block r hr).2;have hu8:∀ r,u8.ownBlock=some r→w2.heap.size≤r∧r<w11.heap.size:=fun r hr=>by
     obtain ⟨cs',i5,_⟩:=g4;exact i5.block r hr
    have g1:=g1.trans (x12.mv _);have g2:=g2.grow x12;have g3:=g3.ext x12;have g4:=g4.ext x12;have g5:=g5.at (fun o ho=>x12.at ho);have g6:=g6.ext x12;have g7:=x12.at g7;have g8:=Nat.le_trans g8 x12.size;obtain ⟨css,c1,c2,c3⟩:=g4;obtain ⟨css2,d1,d2,d3⟩:=l12;have hl3:=tF A 1;have hkm:k*m.ex.length≤300*300:=Nat.mul_le_mul aC h2;dsimp only at c2;refine bV (v0:=u8) (es:=css) (fs:=css2) rfl c1 rfl d1.sl (VQ d2 d3) aC aC ?_;intro v13 w13 o13 m13 hk13;refine aB ?_;have hU13:LrnsU w2.heap.size w13 v13 ((eV t m.ex ns k).learnt++fQ A 1) sv12:=LrnsU.append aC c1 c2 c3 d2 d3 (fun r hr=>(hu8 r hr).2) hsv o13 m13 hk13;have hT13:TaskV w0 w13 b { t with servers:=(eV t m.ex ns k).servers } rv sv12 gv ev:=g2.away hs m13 (by intro c hc;have:=hu8 c hc;have:=h.ext.size;exact ⟨aC,aC⟩) (yQ h.rs (fun r hr=>by have:=hu8 r hr;omega)) (yQ h.gs (fun r hr=>by have:=hu8 r hr;omega)) ((g3.mv m13 (g3.ne c1 aK)).off.weaken (by have:=h.ext.size;omega));have hI13:RefIn w0 w w1 w2 w5 w4.heap.size b t m q a u e nv rv gv ev ns ⟨(eV t m.ex ns k).seen ++ [n],(eV t m.ex ns k).servers,(eV t m.ex ns k).learnt++fQ A 1⟩ v13 w13 :=
     ⟨g1.fresh' m13 (fun c hc=>by have:=hu8 c hc;omega),⟨sv12,hT13,g3.mv m13 (g3.ne c1 aK),hU13⟩,g5.mvr m13 c1 rfl,g6.mv m13 (g6.ne c1 aK),m13.at g7 (by intro e;have:=hu8 _ e.symm;omega),Nat.le_trans g8 m13.size⟩
    have o13':=o12.mv m13 (o12.ne c1 aK);have s13:=o13'.sl;clear g1 g2 g3 g5 g6 g7 g8 c1 c2 c3 d1 d2 d3 hU13 hT13 o12 o11 s11 hI10 hT10 hm10 hp10 hb10 o13 m13 hk13 hu8 hsv;have hcA:=aJ A;refine_lift aT ?_;go_loopw [16,17,18,60] (fun _ _ _ i wr=>∃ j:Nat,j≤A.length∧i=.int .i64 j∧RefIn w0 w w1 w2 w5 w4.heap.size b t m q a u e nv rv gv ev ns ⟨(eV t m.ex ns k).seen ++ [n],jL (eV t m.ex ns k).servers (A.take j),(eV t m.ex ns k).learnt++fQ A 1⟩ v13 wr∧Own w10.heap.size 4 37 wr av (aF A)) (fun _ _ _ i _=>A.length - (intOf i).toNat)
    case atStart=>exact ⟨0,Nat.zero_le _,rfl,hI13,o13'⟩
    case round =>
     obtain ⟨j,hj,rfl,hJ,ho⟩:=hrel;have hsa:=ho.sl;by_cases hlt2:j<A.length
     ·have hpe:=hsa.elem (eX hlt2);refine_lift rR ?_;intro _ _ _ _ _ _;refine dX (z:=iR) fun w14 x14 s14 h14=>?_;refine aB ?_;refine dL (v:=.agg #[aE A[j].name, .int .i64 A[j].kind, .int .i64 A[j].ttl,aE A[j].data]) h14 (gE rfl rfl rfl rfl) fun w15 p15=>?_;have x15:=cJ x14 p15;have hp15:=aA (cs:=[aE A[j].name, .int .i64 A[j].kind, .int .i64 A[j].ttl,aE A[j].data]) p15.this;have hJ15:=hJ.ext x15;have ho15:=ho.ext x15;clear p15 h14 x14 hpe hsa hJ ho;refine_lift bU fun _ _=>?_;have hN:=fun w=>ZY A[j].data w (hda _ (List.getElem_mem hlt2));have hnt:=KV (s:=(eV t m.ex ns k).servers) hlt2;cases hnd:pZ A[j].data with
      | none =>
       rw [hnd]at hnt hN;dsimp only at hnt;simp only [Option.getD_none,Option.isSome_none]at hN;refine cB (hN _) fun w16 x16=>?_;have hJ16:=hJ15.ext x16;have ho16:=ho15.ext x16;clear hJ15 ho15 hp15;refine_lift aT ?_;exact ⟨⟨j+1,aC,by go_num,by rw [hnt];exact hJ16,ho16⟩,by simp [intOf];omega⟩
      | some x =>
       rw [hnd]at hnt hN;dsimp only at hnt;simp only [Option.getD_some,Option.isSome_some]at hN;refine cB (hN _) fun w16 x16=>?_;have hJ16:=hJ15.ext x16;have ho16:=ho15.ext x16;clear hJ15 ho15 hp15;obtain ⟨g1,⟨sv16,g2,g3,g4⟩,g5,g6,g7,g8⟩:=hJ16;have hp16:=aA (cs:=fR { t with servers:=jL (eV t m.ex ns k).servers (A.take j) } rv sv16 gv ev) g2.blk;dsimp only at g2 g3 g4 g5 g6 g7;have hsv16:=g3.sl;have hcon:=fun w (h:Sl 1 w sv16 (bO (jL (eV t m.ex ns k).servers (A.take j))))=>ZZ sv16 _ x w h;have hnl2:=EF (eV t m.ex ns k).servers (A.take j);rw [List.length_take]at hnl2;have hkm2:k*m.ex.length≤300*300:=Nat.mul_le_mul aC h2;generalize jL (eV t m.ex ns k).servers (A.take j)=S at *;by_cases hin:x∈S
       ·rw [if_pos hin]at hnt;rw [decide_eq_true hin]at hcon;refine_lift bU fun _ _=>?_;refine cB (hcon _ hsv16) fun w17 x17=>?_;refine_lift aT ?_;exact ⟨⟨j+1,aC,by go_num,by rw [hnt];exact RefIn.ext ⟨g1,⟨sv16,g2,g3,g4⟩,g5,g6,g7,g8⟩ x17,ho16.ext x17⟩,by simp [intOf];omega⟩
       ·rw [if_neg hin]at hnt;rw [decide_eq_false hin]at hcon;refine_lift bU fun _ _=>?_;refine cB (hcon _ hsv16) fun w17 x17=>?_;have hp17:=hp16.ext x17;obtain ⟨g1,g2,g3,g4,g5,g6,g7,g8⟩:_∧_∧_∧_∧_∧_∧_∧_:=⟨g1.trans (x17.mv _),g2.grow x17,g3.ext x17,g4.ext x17,g5.at (fun o ho=>x17.at ho),g6.ext x17,x17.at g7,Nat.le_trans g8 x17.size⟩;have ho17:=ho16.ext x17;clear hp16 hsv16;have hcs:(bO S).length=S.length:=List.length_map ..;refine_lift aT ?_;refine rO (k:=1) (e:=3) (bytes:=8) (xs:=[.int .i64 x]) (parts:=[(0, .tmp 85)]) rfl rfl rfl (by simp [Value.cells]) zDk aX ?_;intro s18 w18 x18 _ sl18 _;refine aB ?_;obtain ⟨g1,g2,g3,g4,g5,g6,g7,g8⟩:_∧_∧_∧_∧_∧_∧_∧_:=⟨g1.trans (x18.mv _),g2.grow x18,g3.ext x18,g4.ext x18,g5.at (fun o ho=>x18.at ho),g6.ext x18,x18.at g7,Nat.le_trans g8 x18.size⟩;have ho18:=ho17.ext x18;refine bV (v0:=sv16) (es:=bO S) (fs:=[[.int .i64 x]]) rfl g3 rfl sl18 (by intro f hf u hu;simp at hf;subst hf;simp at hu;subst hu;rfl) g8 (by simp [bO];omega) ?_;intro sv19 w19 o19 m19 hk19;refine aB ?_;have hsvb:∀ r,sv16.ownBlock=some r→w5.heap.size≤r:=fun r hr=>(g3.block r hr).1;have o19':Own w5.heap.size 1 3 w19 sv19 (bO (S ++ [x])):=by simpa [bO]using o19
        have hgc:∀ c,sv16.ownBlock=some c→w0.heap.size≤c∧c≠b:=by intro c hc;have:=hsvb c hc;have:=h.ext.size;exact ⟨aC,aC⟩
        have b19:=m19.at g2.blk (fun e=>(hgc b e.symm).2 rfl);refine_lift aT ?_;refine fA 4 sv19 b19 o19'.one fun w20 p20=>?_;have hT20:=g2.swap (l:=S ++ [x]) hs m19 hgc (yQ h.rs (fun r hr=>by have:=hsvb r hr;omega)) (yQ h.gs (fun r hr=>by have:=hsvb r hr;omega)) (o19'.off.weaken (by have:=h.ext.size;omega)) p20;have z19:=m19.size;have o20:=eM o19' p20 b19;have hl4:v13.ownBlock=none∨v13.ownBlock≠sv16.ownBlock:=by
         obtain ⟨cs',i5,_⟩:=g4;exact i5.ne g3 aK
        have hJ20:RefIn w0 w w1 w2 w5 w4.heap.size b t m q a u e nv rv gv ev ns ⟨(eV t m.ex ns k).seen ++ [n],S ++ [x],(eV t m.ex ns k).learnt++fQ A 1⟩ v13 w20 :=
         ⟨(g1.fresh' m19 (fun c hc=>by have:=hsvb c hc;omega)).trans p20.mv,⟨sv19,hT20,o20,(g4.grow m19 hk19 hl4).mvb p20.mv aC⟩,(g5.mvr m19 g3 rfl).at (fun o ho=>p20.mv.at ho (by intro e;have:=Option.some.inj e;omega)),(g6.mv m19 (g6.ne g3 aK)).mv p20.mv (.inr ((g6.mv m19 (g6.ne g3 aK)).neBlock b19 aK)),p20.mv.at (m19.at g7 (by intro e;have:=hsvb _ e.symm;omega)) (by intro e;have:=Option.some.inj e;omega),by have:=p20.size;omega⟩
        have ho19:=ho18.mv m19 (ho18.ne g3 aK);have ho20:=eM ho19 p20 b19;refine_lift aT ?_;exact ⟨⟨j+1,aC,by go_num,by rw [hnt];exact hJ20,ho20⟩,by simp [intOf];omega⟩
     ·have:j=A.length:=aC;subst this;rw [List.take_length]at hJ;refine_lift jQ fun _=>?_;exact ⟨⟨k+1,aC,by go_num,by rw [hst];exact hJ⟩,by simp [intOf];omega⟩
  ·have:k=ns.length:=aC;subst this;obtain ⟨g1,⟨svz,g2,g3,g4⟩,g5,g6,g7,g8⟩:=hI;refine_lift lQ fun _ _ _=>?_;refine fA 3 (aE z) g2.blk rfl fun w20 p20=>?_;have p20':Put wr w20 b (.cells (fR { t with servers:=(eV t m.ex ns ns.length).servers,zone:=z } rv svz gv ev).toArray 273 (0,0)):=p20;obtain ⟨k1,k2,k3,k4⟩:=g2.kept p20;have hT20:=g2.put p20' k1 k2 k3 k4;have hl20:=(g4.mvb p20.mv aC).lrns.weaken (show w.heap.size≤w2.heap.size by omega);have hm20:=g1.trans p20.mv;clear p20' k1 k2 k3 k4 g4;refine_lift aT ?_;go_ret;exact ⟨_,rfl,by rw [hN];exact hl20,by rw [hN];exact ⟨_,_,_,_,hT20⟩,hm20⟩
end Go.Proofs.X
