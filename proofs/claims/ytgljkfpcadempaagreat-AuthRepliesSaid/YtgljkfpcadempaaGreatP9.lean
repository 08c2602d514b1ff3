/- Laws and walks that the proof of the statement is made of (part 9). -/
import Derived.Test.YtgljkfpcadempaaGreatP8
set_option linter.unusedSimpArgs false
set_option linter.unusedVariables false
namespace Go.Proofs.X
open Go.RowKit
set_option maxRecDepth 100000
def Rule (w:World) (f:Value) (b:Bool):Prop:=∃ (g:FuncId) (caps:Array Value),f=.func (.func g) #[] caps∧Enters Tryz.prog g∧∀ w',Ext w w'→Calls Tryz.prog g (([]:List Value).toArray ++ caps) w' (bM w' (.bool b))
theorem MI (o:List UInt8) (v ps pz:Value) (s:RSet) (u:Value) (w:World) (hs:Pts w ps [aI s.name, .int .i64 s.kind, .int .i64 s.ttl,u]) (hz:Pts w pz [aI o,v]):Calls Tryz.prog 163 #[ps,pz] w (bM w (.bool (bQ s.name o))):=by
 go_enter Tryz.func163,Tryz.ntmps163
 refine_lift dR fun _ _ => ?_
 refine aD (enters_of Tryz.func64 rfl rfl) rfl rfl (sX s.name o _) ?_;intro w1 x1;refine aA ?_
 refine_lift bR ?_
 go_ret
 exact ⟨rfl,x1⟩
def EQ (o:List UInt8) (s:RSet) (one:Bool):Bool:=decide (s.kind≠6) || (decide (s.name=o) && one)
set_option maxHeartbeats 3000000 in
theorem MJ (o:List UInt8) (v ps pz pb:Value) (s:RSet) (u:Value) (one:Bool) (w:World) (hs:Pts w ps [aI s.name, .int .i64 s.kind, .int .i64 s.ttl,u]) (hz:Pts w pz [aI o,v]) (hb:Pts w pb [.bool one]):Calls Tryz.prog 164 #[ps,pz,pb] w (bM w (.bool (EQ o s one))):=by
 go_enter Tryz.func164,Tryz.ntmps164
 refine_lift LK (fun hc hc => ?_) (fun hc => ?_) (fun hc hc => ?_)
 all_goals
  go_ret
  refine ⟨?_,Ext.refl _⟩
  simp_all [EQ]
set_option maxHeartbeats 3000000 in
theorem JZ (ps:Value) (s t:RSet) (u x:Value) (w:World) (hs:Pts w ps [aI s.name, .int .i64 s.kind, .int .i64 s.ttl,u]):Calls Tryz.prog 166 #[.agg #[aI t.name, .int .i64 t.kind, .int .i64 t.ttl,x],ps] w (bM w (.bool (lJ s t))):=by
 go_enter Tryz.func166,Tryz.ntmps166
 refine_lift lF fun _ _ => ?_
 refine bJ (vs:=[aI t.name, .int .i64 t.kind, .int .i64 t.ttl,x]) rfl rfl ?_
 intro p w1 x1 hp
 refine aA ?_
 have hs1:=hs.ext x1
 refine_lift xD (fun hc => ?_) (fun hc => ?_)
 all_goals
  go_ret
  refine ⟨?_,x1⟩
  simp_all [lJ]
def yF (l:List RSet) (s:RSet) (one:Bool):Bool:=decide (s.kind≠5) || (one && !l.any (lJ s))
set_option maxHeartbeats 3000000 in
theorem MK (o:List UInt8) (v ps pz pb:Value) (l:List RSet) (s:RSet) (u:Value) (one:Bool) (w:World) (hs:Pts w ps [aI s.name, .int .i64 s.kind, .int .i64 s.ttl,u]) (hz:Pts w pz [aI o,v]) (hb:Pts w pb [.bool one]) (hv:SetsAt w v l):Calls Tryz.prog 165 #[ps,pb,pz] w (bM w (.bool (yF l s one))):=by
 have hf:SetFn w 166 #[ps] l (lJ s):=fun t _ x w' hx' _=>JZ ps s t u x w' (hs.ext hx')
 go_enter Tryz.func165,Tryz.ntmps165
 cases one with
 | false =>
  refine_lift xD (fun hc => ?_) (fun hc => ?_)
  all_goals
   go_ret
   refine ⟨?_,Ext.refl _⟩
   simp_all [yF]
 | true =>
  refine_lift LM (fun hc => ?_) (fun _ _ hc => ?_)
  ·have h5:s.kind=5:=by simpa using (by assumption:(!decide (s.kind=5))=false)
   refine aD (enters_of Tryz.func113 rfl rfl) rfl rfl (lK v l 166 #[ps] (lJ s) _ hv (enters_of Tryz.func166 rfl rfl) hf) ?_;intro w1 x1;refine aA ?_
   refine_lift bR ?_
   go_ret
   exact ⟨by simp [yF,h5],x1⟩
  all_goals
   go_ret
   refine ⟨?_,Ext.refl _⟩
   simp_all [yF]
def vB (o:List UInt8) (l:List RSet) (s:RSet):Bool :=
 !(eH o l s.name).2 || decide (s.kind=1) || decide (s.kind=28) || (decide (s.kind=2) && decide (s.name=(eH o l s.name).1))
set_option maxHeartbeats 3000000 in
theorem ML (o:List UInt8) (v ps pz:Value) (l:List RSet) (s:RSet) (u:Value) (w:World) (hs:Pts w ps [aI s.name, .int .i64 s.kind, .int .i64 s.ttl,u]) (hz:Pts w pz [aI o,v]) (hv:SetsAt w v l):Calls Tryz.prog 167 #[pz,ps] w (bM w (.bool (vB o l s))):=by
 go_enter Tryz.func167,Tryz.ntmps167
 refine_lift dR fun _ _ => ?_
 refine aD (enters_of Tryz.func168 rfl rfl) rfl rfl (QN o v l s.name _ hv) ?_;intro w1 x1;refine aA ?_
 generalize hcut:eH o l s.name=g at *
 obtain ⟨c,is⟩:=g
 have hs1:=hs.ext x1
 cases is with
 | false =>
  refine_lift bR ?_
  go_ret
  exact ⟨by simp [vB,hcut],x1⟩
 | true =>
  refine_lift RL (fun hc hc hc => ?_) (fun hc hc => ?_) (fun hc => ?_) (fun hc hc hc => ?_)
  all_goals
   go_ret
   refine ⟨?_,x1⟩
   simp_all [vB]
set_option maxHeartbeats 3000000 in
theorem MM (f:Value) (b:Bool) (w:World) (hf:Rule w f b):Calls Tryz.prog 170 #[f] w (bM w (.bool (!b))):=by
 obtain ⟨g,caps,rfl,he,hc⟩:=hf
 go_enter Tryz.func170,Tryz.ntmps170
 refine_lift dR fun _ _ => ?_
 refine fL he rfl rfl rfl (hc _ (Ext.refl _)) ?_
 rintro e w1 ⟨rfl,x1⟩
 refine ⟨_,rfl,?_⟩
 refine aA ?_
 refine_lift bR ?_
 go_ret
 exact ⟨rfl,x1⟩
theorem Rule.ext {w w':World} {f:Value} {b:Bool} (h:Rule w f b) (hx:Ext w w'):Rule w' f b:=by
 obtain ⟨g,caps,h1,h2,h3⟩:=h
 exact ⟨g,caps,h1,h2,fun w2 hx2=>h3 w2 (hx.trans hx2)⟩
def rQ (l:List (Value × Bool)):List (List Value):=l.map fun x=>[x.1]
theorem zP (l:List (Value × Bool)):(rQ l).length=l.length:=by simp [rQ]
theorem KA {l:List (Value × Bool)} {k:Nat} (h:k < l.length):(rQ l)[k]? = some [l[k].1]:=by simp [rQ,h]
def KB (x:Value × Bool):Bool := !x.2
set_option maxHeartbeats 3000000 in
theorem ER (v:Value) (l:List (Value × Bool)) (w:World) (hv:Sl 1 w v (rQ l)) (hf:∀ x ∈ l,Rule w x.1 x.2):Calls Tryz.prog 211 #[v, .func (.func 170) #[] #[]] w (bM w (.int .i64 (oP KB l))):=by
 have hle:=hv.le
 have hlen:=zP l
 go_enter Tryz.func211,Tryz.ntmps211
 refine_lift dR fun _ _ => ?_
 go_loopw [5,8] (fun _ i wr=>∃ k:Nat,k≤l.length∧i=.int .i64 k∧Ext w wr∧(l.take k).any KB=false) (fun _ i _=>l.length - (intOf i).toNat)
 case atStart=>exact ⟨0,Nat.zero_le _,rfl,Ext.refl _,rfl⟩
 case round =>
  obtain ⟨k,hk,rfl,hx,hall⟩:=hrel
  have hv2:=hv.ext hx
  by_cases hlt:k < l.length
  ·have hp:=hv2.elem (KA hlt)
   refine_lift xG ?_;intro _ _ _ _ _ _
   refine fL (f:=170) (caps:=#[]) (enters_of Tryz.func170 rfl rfl) rfl rfl rfl (MM l[k].1 l[k].2 _ ((hf _ (List.getElem_mem hlt)).ext hx)) ?_
   rintro e w2 ⟨rfl,x2⟩
   refine ⟨_,rfl,?_⟩
   refine aA ?_
   cases hb:l[k].2 with
   | false =>
    refine_lift jP fun _ => ?_
    go_ret
    exact ⟨by rw [CN hlt hall (by simp [KB,hb])];rfl,hx.trans x2⟩
   | true =>
    refine_lift jP fun _ => ?_
    exact ⟨⟨k + 1,by omega,by go_num,hx.trans x2,iL hlt hall (by simp [KB,hb])⟩,by simp [intOf];omega⟩
  ·have:k=l.length:=by omega
   subst this
   rw [List.take_length] at hall
   refine_lift jP fun _ => ?_
   go_ret
   exact ⟨by rw [CO hall];rfl,hx⟩
theorem yG (v:Value) (l:List (Value × Bool)) (w:World) (hv:Sl 1 w v (rQ l)) (hf:∀ x ∈ l,Rule w x.1 x.2):Calls Tryz.prog 169 #[v, .func (.func 170) #[] #[]] w (bM w (.bool (l.any KB))):=by
 go_enter Tryz.func169,Tryz.ntmps169
 refine_lift dR fun _ _ => ?_
 refine aD (enters_of Tryz.func211 rfl rfl) rfl rfl (ER v l _ hv hf) ?_;intro w1 x1;refine aA ?_
 refine_lift bR ?_
 go_ret
 exact ⟨by rw [← wF];rfl,x1⟩
set_option maxHeartbeats 6000000 in
theorem PA (o:List UInt8) (v:Value) (l:List RSet) (s:RSet) (u:Value) (w:World) (hv:SetsAt w v l) (hu:Sl 1 w u (aP s.data)) (hck:cX l=0):Calls Tryz.prog 115 #[.agg #[aI o,v], .agg #[aI s.name, .int .i64 s.kind, .int .i64 s.ttl,u]] w (bM w (.bool (dZ o l s))):=by
 have hlen:=bA s.data
 go_enter Tryz.func115,Tryz.ntmps115
 refine_lift lF fun _ _ => ?_
 refine bJ (vs:=[aI o,v]) rfl rfl ?_
 intro pz w1 x1 hz
 refine aA ?_
 refine_lift TN ?_
 refine bJ (vs:=[aI s.name, .int .i64 s.kind, .int .i64 s.ttl,u]) rfl rfl ?_
 intro ps w2 x2 hs
 refine aA ?_
 have hz2:=hz.ext x2
 have hx2:=x1.trans x2
 have hu2:=hu.ext hx2
 refine_lift dR fun _ _ => ?_
 refine aL (z:=[.bool false]) rfl (by decide +kernel) ?_
 intro w3 x3 s3 h3
 refine aA ?_
 have hone:decide (((aP s.data).length:Int)=1)=decide (s.data.length=1):=by rw [hlen,Bool.eq_iff_iff];simp;omega
 rw [hone]
 refine fB (v:=.bool (decide (s.data.length=1))) rfl rfl rfl h3 (by decide +kernel) rfl ?_
 intro w4 p4
 have x4:Ext w2 w4:=x3.move p4.mv (by rintro k ⟨⟩;exact Nat.le_refl _)
 have hb4:=aE (cs:=[.bool (decide (s.data.length=1))]) p4.this
 have hz4:=hz2.ext x4
 have hs4:=hs.ext x4
 have hx4:=hx2.trans x4
 have hv4:=hv.ext hx4
 clear p4 h3 x3
 generalize hpb:Value.pointer (some ⟨w2.heap.size,0,none⟩)=pb at *
 refine_lift dR fun _ _ => ?_
 have r1:Rule w4 (.func (.func 163) #[] #[ps,pz]) (bQ s.name o):=⟨163,_,rfl,enters_of Tryz.func163 rfl rfl,fun w' hx'=>MI o v ps pz s u w' (hs4.ext hx') (hz4.ext hx')⟩
 have r2:Rule w4 (.func (.func 164) #[] #[ps,pz,pb]) (EQ o s (decide (s.data.length=1))):=⟨164,_,rfl,enters_of Tryz.func164 rfl rfl,fun w' hx'=>MJ o v ps pz pb s u _ w' (hs4.ext hx') (hz4.ext hx') (hb4.ext hx')⟩
 have r3:Rule w4 (.func (.func 165) #[] #[ps,pb,pz]) (yF l s (decide (s.data.length=1))):=⟨165,_,rfl,enters_of Tryz.func165 rfl rfl,fun w' hx'=>MK o v ps pz pb l s u _ w' (hs4.ext hx') (hz4.ext hx') (hb4.ext hx') (hv4.ext hx')⟩
 have r4:Rule w4 (.func (.func 167) #[] #[pz,ps]) (vB o l s):=⟨167,_,rfl,enters_of Tryz.func167 rfl rfl,fun w' hx'=>ML o v ps pz l s u w' (hs4.ext hx') (hz4.ext hx') (hv4.ext hx')⟩
 refine bN (e:=29) (k:=1) (bytes:=8) (xs:=[.func (.func 163) #[] #[ps,pz], .func (.func 164) #[] #[ps,pz,pb], .func (.func 165) #[] #[ps,pb,pz], .func (.func 167) #[] #[pz,ps]]) rfl rfl rfl (by simp [Value.cells]) (by decide +kernel) (by simp) ?_
 intro v5 w5 x5 _ sl5 _
 refine aA ?_
 have sl5:Sl 1 w5 v5 (rQ [(.func (.func 163) #[] #[ps,pz],bQ s.name o),(.func (.func 164) #[] #[ps,pz,pb],EQ o s (decide (s.data.length=1))),(.func (.func 165) #[] #[ps,pb,pz],yF l s (decide (s.data.length=1))),(.func (.func 167) #[] #[pz,ps],vB o l s)]):=sl5
 refine_lift dR fun _ _ => ?_
 refine aD (enters_of Tryz.func169 rfl rfl) rfl rfl (yG v5 _ _ sl5 (by
  intro x hx
  simp only [List.mem_cons,List.not_mem_nil,or_false] at hx
  rcases hx with rfl | rfl | rfl | rfl
  ·exact r1.ext x5
  ·exact r2.ext x5
  ·exact r3.ext x5
  ·exact r4.ext x5)) ?_;intro w6 x6;refine aA ?_
 refine_lift bR ?_
 go_ret
 refine ⟨?_,(hx4.trans x5).trans x6⟩
 congr 2
 have h4:oH o l s=vB o l s:=by rw [oH,vB,tX hck]
 simp only [dZ,h4,List.any_cons,List.any_nil,KB,EQ,yF,Bool.or_false]
 cases bQ s.name o <;> cases vB o l s <;> simp <;> by_cases a6:s.kind=6 <;> by_cases a5:s.kind=5 <;> by_cases an:s.name=o <;> by_cases a1:s.data.length=1 <;> cases l.any (lJ s) <;> simp_all
def bW:RSet:=⟨[],0,0,[]⟩
theorem lL {w w':World} {r:Value} {o:Option RSet} (h:match o with
 | some s=>∃ x,r=.tuple #[.agg #[aI s.name, .int .i64 s.kind, .int .i64 s.ttl,x], .bool true]∧Own w.heap.size 1 9 w' x (aP s.data)
 | none=>r=.tuple #[.agg fX.toArray, .bool false]):∃ x,r=.tuple #[.agg #[aI (o.getD bW).name, .int .i64 (o.getD bW).kind, .int .i64 (o.getD bW).ttl,x], .bool o.isSome]∧Sl 1 w' x (aP (o.getD bW).data):=by
 cases o with
 | none=>exact ⟨.slice none 0 0,h,Sl.nil _ _⟩
 | some s=>obtain ⟨x,h1,h2⟩:=h;exact ⟨x,h1,h2.sl⟩
set_option maxHeartbeats 3000000 in
theorem MN (o:List UInt8) (v pz:Value) (l:List RSet) (s:RSet) (u:Value) (w:World) (hz:Pts w pz [aI o,v]) (hv:SetsAt w v l) (hu:Sl 1 w u (aP s.data)) (hck:cX l=0):Calls Tryz.prog 114 #[.agg #[aI s.name, .int .i64 s.kind, .int .i64 s.ttl,u],pz] w (bM w (.bool (!dZ o l s))):=by
 go_enter Tryz.func114,Tryz.ntmps114
 repeat' (first | ((with_reducible refine cY ?_);go_step) | fail)
 refine bJ (vs:=[aI s.name, .int .i64 s.kind, .int .i64 s.ttl,u]) rfl rfl ?_
 intro ps w1 x1 hs
 refine aA ?_
 have hz1:=hz.ext x1
 (repeat' first | ((with_reducible refine cY ?_);go_step) | ((with_reducible refine cJ ?_);first | refine eS ?_ | (refine dD ?_ ?_ <;> intro hc)) | fail)
 refine aD (enters_of Tryz.func115 rfl rfl) rfl rfl (PA o v l s u _ (hv.ext x1) (hu.ext x1) hck) ?_;intro w2 x2;refine aA ?_
 (repeat' first | ((with_reducible refine cY ?_);go_step) | ((with_reducible refine cJ ?_);first | refine eS ?_ | (refine dD ?_ ?_ <;> intro hc)) | fail)
 go_ret
 exact ⟨rfl,x1.trans x2⟩
set_option maxHeartbeats 6000000 in
theorem wH (o:List UInt8) (v:Value) (l:List RSet) (w:World) (hv:SetsAt w v l) (hb:∀ s ∈ l,s.data.length≤1000000):Calls Tryz.prog 61 #[.agg #[aI o,v]] w (bM w (.int .i64 (bZ o l))):=by
 obtain ⟨cv,hv1,hvl⟩:=hv.sl
 have hle:=hv1.le
 have hb':∀ s ∈ l,s.data.length≤8796093022208:=fun s hs=>by have:=hb s hs;omega
 go_enter Tryz.func61,Tryz.ntmps61
 repeat' (first | ((with_reducible refine cY ?_);go_step) | fail)
 refine bJ (vs:=[aI o,v]) rfl rfl ?_
 intro p w1 x1 hp
 refine aA ?_
 (repeat' first | ((with_reducible refine cY ?_);go_step) | ((with_reducible refine cJ ?_);first | refine eS ?_ | (refine dD ?_ ?_ <;> intro hc)) | fail)
 have c1:∀ w',Calls Tryz.prog 65 #[aI o] w' (bM w' (.int .i64 (dM o))):=fun w'=>RV o w'
 have hv2:=hv.ext x1
 have c3:∀ w',Ext w1 w'→Calls Tryz.prog 111 #[v] w' (bM w' (.int .i64 (cX l))):=fun w' x'=>YU v l w' (hv2.ext x')
 refine cB (by decide +kernel) (by decide +kernel) ?_
 (try ((with_reducible refine OE ?_);refine OJ ?_))
 refine dX (enters_of Tryz.func65 rfl rfl) rfl rfl (fun w' _=>c1 w') ?_
 refine aA ?_
 (try ((with_reducible refine OE ?_);refine OJ ?_))
 by_cases q1:dM o=0
 ·rw [decide_eq_true q1]
  simp only [Bool.not_true]
  (try ((with_reducible refine OE ?_);refine OJ ?_))
  refine dX (enters_of Tryz.func32 rfl rfl) rfl rfl (fun w' _=>LR o w') ?_
  refine aA ?_
  (try ((with_reducible refine OE ?_);refine OJ ?_))
  by_cases q2:fold o=o
  ·rw [decide_eq_true q2]
   simp only [Bool.not_true]
   (try ((with_reducible refine OE ?_);refine OJ ?_))
   refine dX (enters_of Tryz.func111 rfl rfl) rfl rfl (fun w' x'=>c3 w' x') ?_
   refine aA ?_
   (try ((with_reducible refine OE ?_);refine OJ ?_))
   intro w2 x2
   by_cases q3:cX l=0
   ·rw [decide_eq_true q3]
    simp only [Bool.not_true]
    have hx2:=x1.trans x2
    have hp2:=hp.ext x2
    have hs2:=hv.ext hx2
    (repeat' first | ((with_reducible refine cY ?_);go_step) | ((with_reducible refine cJ ?_);first | refine eS ?_ | (refine dD ?_ ?_ <;> intro hc)) | fail)
    refine aK (enters_of Tryz.func112 rfl rfl) rfl rfl (TP v l o 6 _ hs2 hb') ?_
    intro r3 w3 x3 hr3
    obtain ⟨y3,rfl,hy3⟩:=lL hr3
    clear hr3
    (repeat' first | ((with_reducible refine cY ?_);go_step) | ((with_reducible refine cJ ?_);first | refine eS ?_ | (refine dD ?_ ?_ <;> intro hc)) | fail)
    refine aL (z:=fX) rfl (by decide +kernel) ?_
    intro w4 x4 s4 h4
    refine aA ?_
    refine aG rfl rfl rfl h4 (show aR Tryz.prog 131 4=true by decide +kernel) rfl (eR rfl rfl rfl (hy3.one)) ?_
    intro w5 p5
    have x5:Ext w3 w5:=x4.move p5.mv (by rintro k ⟨⟩;exact Nat.le_refl _)
    have hx5:=hx2.trans (x3.trans x5)
    have hp5:=hp.ext (x2.trans (x3.trans x5))
    have hs5:=hv.ext hx5
    clear p5 h4 x4
    (repeat' first | ((with_reducible refine cY ?_);go_step) | ((with_reducible refine cJ ?_);first | refine eS ?_ | (refine dD ?_ ?_ <;> intro hc)) | fail)
    refine aK (enters_of Tryz.func112 rfl rfl) rfl rfl (TP v l o 2 _ hs5 hb') ?_
    intro r6 w6 x6 hr6
    obtain ⟨y6,rfl,hy6⟩:=lL hr6
    clear hr6
    (repeat' first | ((with_reducible refine cY ?_);go_step) | ((with_reducible refine cJ ?_);first | refine eS ?_ | (refine dD ?_ ?_ <;> intro hc)) | fail)
    refine aL (z:=fX) rfl (by decide +kernel) ?_
    intro w7 x7 s7 h7
    refine aA ?_
    refine aG rfl rfl rfl h7 (show aR Tryz.prog 131 4=true by decide +kernel) rfl (eR rfl rfl rfl (hy6.one)) ?_
    intro w8 p8
    have x8:Ext w6 w8:=x7.move p8.mv (by rintro k ⟨⟩;exact Nat.le_refl _)
    have hx8:=hx5.trans (x6.trans x8)
    have hp8:=hp5.ext (x6.trans x8)
    have hs8:=hv.ext hx8
    clear p8 h7 x7
    cases f6:(bB l o 6).isSome with
    | false =>
     (repeat' first | ((with_reducible refine cY ?_);go_step) | ((with_reducible refine cJ ?_);first | refine eS ?_ | (refine dD ?_ ?_ <;> intro hc)) | fail)
     go_ret
     exact ⟨by rw [show bZ o l=2 by simp [bZ,q1,q2,q3,f6]];rfl,hx8⟩
    | true =>
     cases f2:(bB l o 2).isSome with
     | false =>
      (repeat' first | ((with_reducible refine cY ?_);go_step) | ((with_reducible refine cJ ?_);first | refine eS ?_ | (refine dD ?_ ?_ <;> intro hc)) | fail)
      go_ret
      exact ⟨by rw [show bZ o l=2 by simp [bZ,q1,q2,q3,f6,f2]];rfl,hx8⟩
     | true =>
      (repeat' first | ((with_reducible refine cY ?_);go_step) | ((with_reducible refine cJ ?_);first | refine eS ?_ | (refine dD ?_ ?_ <;> intro hc)) | fail)
      have hf:SetFn w8 114 #[p] l (fun s => !dZ o l s):=fun s _ x w' hx' hd'=>MN o v p l s x w' (hp8.ext hx') (hs8.ext hx') hd' q3
      refine aD (enters_of Tryz.func113 rfl rfl) rfl rfl (lK v l 114 #[p] (fun s => !dZ o l s) _ hs8 (enters_of Tryz.func114 rfl rfl) hf) ?_;intro w9 x9;refine aA ?_
      cases ha:l.any (fun s => !dZ o l s) with
      | true =>
       (repeat' first | ((with_reducible refine cY ?_);go_step) | ((with_reducible refine cJ ?_);first | refine eS ?_ | (refine dD ?_ ?_ <;> intro hc)) | fail)
       go_ret
       exact ⟨by rw [show bZ o l=2 by simp only [bZ,q1,q2,q3,f6,f2,ha];simp];rfl,hx8.trans x9⟩
      | false =>
       (repeat' first | ((with_reducible refine cY ?_);go_step) | ((with_reducible refine cJ ?_);first | refine eS ?_ | (refine dD ?_ ?_ <;> intro hc)) | fail)
       go_ret
       exact ⟨by rw [show bZ o l=0 by simp only [bZ,q1,q2,q3,f6,f2,ha];simp];rfl,hx8.trans x9⟩
   ·rw [decide_eq_false q3]
    simp only [Bool.not_false]
    (repeat' first | ((with_reducible refine cY ?_);go_step) | ((with_reducible refine cJ ?_);first | refine eS ?_ | (refine dD ?_ ?_ <;> intro hc)) | fail)
    go_ret
    exact ⟨by rw [show bZ o l=1 by simp [bZ,q3]];rfl,x1.trans x2⟩
  ·rw [decide_eq_false q2]
   simp only [Bool.not_false]
   (try ((with_reducible refine OE ?_);refine OJ ?_))
   intro w2 x2
   (repeat' first | ((with_reducible refine cY ?_);go_step) | ((with_reducible refine cJ ?_);first | refine eS ?_ | (refine dD ?_ ?_ <;> intro hc)) | fail)
   go_ret
   exact ⟨by rw [show bZ o l=1 by simp [bZ,q2]];rfl,x1.trans x2⟩
 ·rw [decide_eq_false q1]
  simp only [Bool.not_false]
  (try ((with_reducible refine OE ?_);refine OJ ?_))
  intro w2 x2
  (repeat' first | ((with_reducible refine cY ?_);go_step) | ((with_reducible refine cJ ?_);first | refine eS ?_ | (refine dD ?_ ?_ <;> intro hc)) | fail)
  go_ret
  exact ⟨by rw [show bZ o l=1 by simp [bZ,q1]];rfl,x1.trans x2⟩
set_option maxHeartbeats 3000000 in
theorem UP (o:List UInt8) (v:Value) (l:List RSet) (n:List UInt8) (w:World) (hv:SetsAt w v l) (hb:∀ s ∈ l,s.data.length≤1000000):Calls Tryz.prog 118 #[.agg #[aI o,v],aI n] w (bM w (.tuple (if bZ o l=0 then #[aI (kI o l n).1, .bool (kI o l n).2] else #[aI [], .bool false]))):=by
 go_enter Tryz.func118,Tryz.ntmps118
 repeat' (first | ((with_reducible refine cY ?_);go_step) | fail)
 refine bJ (vs:=[aI o,v]) rfl rfl ?_
 intro p w1 x1 hp
 refine aA ?_
 have hv1:=hv.ext x1
 (repeat' first | ((with_reducible refine cY ?_);go_step) | ((with_reducible refine cJ ?_);first | refine eS ?_ | (refine dD ?_ ?_ <;> intro hc)) | fail)
 refine aD (enters_of Tryz.func61 rfl rfl) rfl rfl (wH o v l _ hv1 hb) ?_;intro w2 x2;refine aA ?_
 have hx2:=x1.trans x2
 have hp2:=hp.ext x2
 have hv2:=hv1.ext x2
 (repeat' first | ((with_reducible refine cY ?_);go_step) | ((with_reducible refine cJ ?_);first | refine eS ?_ | (refine dD ?_ ?_ <;> intro hc)) | fail)
 ·rename_i q
  have q':¬ bZ o l=0:=by simpa using q
  go_ret2
  exact ⟨by rw [if_neg q'];rfl,hx2⟩
 ·have q':bZ o l=0:=by simpa using (by assumption:(!decide (bZ o l=0))=false)
  refine aD (enters_of Tryz.func168 rfl rfl) rfl rfl (QN o v l n _ hv2) ?_;intro w3 x3;refine aA ?_
  (repeat' first | ((with_reducible refine cY ?_);go_step) | ((with_reducible refine cJ ?_);first | refine eS ?_ | (refine dD ?_ ?_ <;> intro hc)) | fail)
  go_ret2
  exact ⟨by rw [if_pos q',tX (jC q').chk];rfl,hx2.trans x3⟩
theorem HG {s:RSet} (h:fW s=true) {i:Nat} (hi:i < s.data.length):bC ⟨s.name,s.kind,s.ttl,s.data[i]⟩=0:=by
 simp only [fW,Bool.and_eq_true,List.all_eq_true] at h
 have:=h.2 i (by simpa using hi)
 simp only [jU,Bool.not_eq_true',Bool.or_eq_false_iff,decide_eq_false_iff_not,ne_eq,Decidable.not_not] at this
 have e:s.data.getD i []=s.data[i]:=by simp [hi]
 rw [e] at this
 exact this.1
theorem pK {r:Rec} (h:bC r=0):r.data.length≤4000∧fits r.kind r.data=true:=by
 unfold bC at h
 split at h
 ·omega
 ·split at h
  ·omega
  ·rename_i h2
   simp only [not_or,Bool.not_eq_false] at h2
   exact ⟨by omega,h2.2.2.2.2.2⟩
def zR:SoaR:=⟨[],[],0,0,0,0,0⟩
theorem ES:zR.cells=bK:=rfl
def jJ (o:List UInt8) (l:List RSet):List UInt8:=((bB l o 6).getD bW).data.getD 0 []
def eF (o:List UInt8) (l:List RSet):SoaR:=if bZ o l=0 then dE (jJ o l) else zR
theorem HH {d:List UInt8} (h:(cS d).isSome=true):cS d=some (dE d):=by
 unfold cS at *
 simp only at *
 split at h
 ·rename_i h1;rw [if_pos h1]
 ·cases h
theorem ZoneOk.soaSet {o:List UInt8} {l:List RSet} (h:ZoneOk o l):∃ s,bB l o 6=some s∧s ∈ l∧s.name=o∧s.kind=6∧s.data=[jJ o l]∧cS (jJ o l)=some (dE (jJ o l))∧(jJ o l).length≤4000:=by
 obtain ⟨s,hs⟩:=Option.isSome_iff_exists.1 h.soa
 obtain ⟨h1,h2,h3⟩:=kR hs
 have hr:=h.right s h1
 have hm:=h.may h1
 have hl:s.data.length=1:=by
  simp only [dZ,Bool.and_eq_true,Bool.not_eq_true',h3] at hr
  have:=hr.1.1.2
  simp only [decide_true,Bool.true_and,Bool.or_eq_false_iff,decide_eq_false_iff_not,ne_eq,Decidable.not_not] at this
  exact this.2
 have hd:s.data=[jJ o l]:=by
  have e:jJ o l=s.data.getD 0 []:=by rw [jJ,hs];rfl
  rw [e]
  match s.data,hl with
  | [d],_=>rfl
 have hc:=HG hm (i:=0) (by omega)
 obtain ⟨c1,c2⟩:=pK hc
 have e0:s.data[0]'(by omega)=jJ o l:=by simp [hd]
 simp only [e0,h3] at c1 c2
 refine ⟨s,hs,h1,by rw [h2,h.fold],h3,hd,HH ?_,c1⟩
 simpa [fits] using c2
theorem pL (s:SoaR):(Value.agg s.cells.toArray).cells.all (·.oneCell')=true:=by
 simp [SoaR.cells,Value.cells,Value.oneCell',aI]
set_option maxHeartbeats 3000000 in
theorem UQ (o:List UInt8) (v:Value) (l:List RSet) (w:World) (hv:SetsAt w v l) (hb:∀ s ∈ l,s.data.length≤1000000) (hd:∀ s ∈ l,∀ d ∈ s.data,d.length≤4611686018427387904):Calls Tryz.prog 213 #[.agg #[aI o,v]] w (bM w (.tuple #[.agg (eF o l).cells.toArray, .int .i64 (bZ o l)])):=by
 go_enter Tryz.func213,Tryz.ntmps213
 refine_lift lF fun _ _ => ?_
 refine bJ (vs:=[aI o,v]) rfl rfl ?_
 intro p w1 x1 hp
 refine aA ?_
 refine aL (z:=bK) rfl (by decide +kernel) ?_
 intro w2 x2 s2 h2
 refine aA ?_
 have hx2:=x1.trans x2
 have hp2:=hp.ext x2
 have hv2:=hv.ext hx2
 refine_lift oQ fun _ _ _ _ => ?_
 refine aD (enters_of Tryz.func61 rfl rfl) rfl rfl (wH o v l _ hv2 hb) ?_;intro w3 x3;refine aA ?_
 have hx3:=hx2.trans x3
 have hp3:=hp2.ext x3
 have hv3:=hv2.ext x3
 have h3:=x3.at h2
 refine_lift TV (fun _ _ _ => ?_) (fun _ _ _ => ?_)
 ·have q:¬ bZ o l=0:=by simpa using (by assumption:(!decide (bZ o l=0))=true)
  refine cH (v:=.agg bK.toArray) rfl (Runs.build0 (by kernel_rfl)) ?_
  refine aA ?_
  refine_lift bR ?_
  refine aG (v:=.agg bK.toArray) rfl rfl rfl h3 (by decide +kernel) rfl (by decide +kernel) ?_
  intro w4 p4
  have x4:Ext w w4:=hx3.move p4.mv (by rintro k ⟨⟩;exact x1.size)
  refine_lift bR ?_
  refine bodyPost_ret (aU (cs:=bK) rfl rfl p4.this (by decide +kernel)) rfl ⟨?_,x4⟩
  rw [show eF o l=zR by rw [eF,if_neg q],ES]
  rfl
 ·have q:bZ o l=0:=by simpa using (by assumption:(!decide (bZ o l=0))=false)
  obtain ⟨s,hf,hs,hn,hk,hdat,hpar,hlen⟩:=(jC q).soaSet
  have hZ:eF o l=dE (jJ o l):=by rw [eF,if_pos q]
  have hP:∀ w',Calls Tryz.prog 106 #[aI (jJ o l)] w' (bM w' (.tuple #[.agg (dE (jJ o l)).cells.toArray, .int .i64 0])):=fun w'=>by
   have:=WH (jJ o l) w' (by omega)
   rw [hpar] at this
   exact this
  clear hpar
  generalize jJ o l=dd at *
  generalize hgen:dE dd=ss at *
  refine aK (enters_of Tryz.func112 rfl rfl) rfl rfl (TP v l o 6 _ hv3 (fun s hs=>by have:=hb s hs;omega)) ?_
  intro r4 w4 x4 hr4
  rw [hf] at hr4
  obtain ⟨y,rfl,oy⟩:=hr4
  have hx4:=hx3.trans x4
  refine_lift bR ?_
  refine aL (z:=fX) rfl (by decide +kernel) ?_
  intro w5 x5 s5 h5
  refine aA ?_
  refine aG (v:=.agg #[aI s.name, .int .i64 s.kind, .int .i64 s.ttl,y]) rfl rfl rfl h5 (show aR Tryz.prog 131 4=true by decide +kernel) rfl (eR rfl rfl rfl oy.one) ?_
  intro w6 p6
  have x6:Ext w4 w6:=x5.move p6.mv (by rintro k ⟨⟩;exact Nat.le_refl _)
  have hp6:=aE (cs:=[aI s.name, .int .i64 s.kind, .int .i64 s.ttl,y]) p6.this
  have hy6:=oy.sl.ext x6
  rw [hdat] at hy6
  have hx6:=hx4.trans x6
  have h6:=(x4.trans x6).at h3
  have hy0:=hy6.elem (i:=0) (e:=[aI dd]) rfl
  clear p6 h5 x5
  have hl1:(aP [dd]).length=1:=rfl
  refine_lift dR fun _ _ => ?_
  refine aD (enters_of Tryz.func106 rfl rfl) rfl rfl (hP _) ?_;intro w7 x7;refine aA ?_
  have h7:=x7.at h6
  refine_lift bR ?_
  refine aG (v:=.agg ss.cells.toArray) rfl rfl rfl h7 (show aR Tryz.prog 160 7=true by decide +kernel) rfl (pL _) ?_
  intro w8 p8
  have x8:Ext w w8:=(hx6.trans x7).move p8.mv (by rintro k ⟨⟩;exact x1.size)
  refine_lift bR ?_
  refine bodyPost_ret (aU (cs:=ss.cells) rfl rfl p8.this (show cP Tryz.prog 160 7=true by decide +kernel)) rfl ⟨?_,x8⟩
  rw [hZ,q]
  rfl
set_option maxHeartbeats 3000000 in
theorem SD (o:List UInt8) (v:Value) (l:List RSet) (w:World) (hv:SetsAt w v l) (hb:∀ s ∈ l,s.data.length≤1000000) (hd:∀ s ∈ l,∀ d ∈ s.data,d.length≤4611686018427387904):Calls Tryz.prog 135 #[.agg #[aI o,v]] w (bM w (.tuple #[.agg (eF o l).cells.toArray, .int .i64 (bZ o l)])):=by
 go_enter Tryz.func135,Tryz.ntmps135
 refine_lift lF fun _ _ => ?_
 refine bJ (vs:=[aI o,v]) rfl rfl ?_
 intro p w1 x1 hp
 refine aA ?_
 refine aL (z:=bK) rfl (by decide +kernel) ?_
 intro w2 x2 s2 h2
 refine aA ?_
 have hx2:=x1.trans x2
 have hp2:=hp.ext x2
 have hv2:=hv.ext hx2
 refine_lift dR fun _ _ => ?_
 refine aD (enters_of Tryz.func74 rfl rfl) rfl rfl (yC o v l _ hv2 hb hd) ?_;intro w3 x3;refine aA ?_
 have hx3:=hx2.trans x3
 have hp3:=hp2.ext x3
 have hv3:=hv2.ext x3
 have h3:=x3.at h2
 refine_lift RM (fun _ _ _ => ?_) (fun _ _ _ _ _ => ?_)
 ·have q:¬ bZ o l=0:=by simpa using (by assumption:(!decide (bZ o l=0))=true)
  refine cH (v:=.agg bK.toArray) rfl (Runs.build0 (by kernel_rfl)) ?_
  refine aA ?_
  refine_lift bR ?_
  refine aG (v:=.agg bK.toArray) rfl rfl rfl h3 (by decide +kernel) rfl (by decide +kernel) ?_
  intro w4 p4
  have x4:Ext w w4:=hx3.move p4.mv (by rintro k ⟨⟩;exact x1.size)
  refine_lift bR ?_
  refine bodyPost_ret (aU (cs:=bK) rfl rfl p4.this (by decide +kernel)) rfl ⟨?_,x4⟩
  rw [show eF o l=zR by rw [eF,if_neg q],ES]
  rfl
 ·have q:bZ o l=0:=by simpa using (by assumption:(!decide (bZ o l=0))=false)
  obtain ⟨s,hf,hs,hn,hk,hdat,hpar,hlen⟩:=(jC q).soaSet
  have hZ:eF o l=dE (jJ o l):=by rw [eF,if_pos q]
  have hP:∀ w',Calls Tryz.prog 182 #[aI (jJ o l)] w' (bM w' (.tuple #[.agg (dE (jJ o l)).cells.toArray, .int .i64 0])):=fun w'=>by
   have:=uX (jJ o l) w' (by omega)
   rw [hpar] at this
   exact this
  clear hpar
  generalize jJ o l=dd at *
  generalize hgen:dE dd=ss at *
  refine aK (enters_of Tryz.func79 rfl rfl) rfl rfl (nR v l o 6 _ hv3 hb) ?_
  intro r4 w4 x4 hr4
  rw [hf] at hr4
  obtain ⟨y,rfl,oy⟩:=hr4
  have hx4:=hx3.trans x4
  refine_lift bR ?_
  refine aL (z:=fX) rfl (by decide +kernel) ?_
  intro w5 x5 s5 h5
  refine aA ?_
  refine aG (v:=.agg #[aI s.name, .int .i64 s.kind, .int .i64 s.ttl,y]) rfl rfl rfl h5 (show aR Tryz.prog 131 4=true by decide +kernel) rfl (eR rfl rfl rfl oy.one) ?_
  intro w6 p6
  have x6:Ext w4 w6:=x5.move p6.mv (by rintro k ⟨⟩;exact Nat.le_refl _)
  have hp6:=aE (cs:=[aI s.name, .int .i64 s.kind, .int .i64 s.ttl,y]) p6.this
  have hy6:=oy.sl.ext x6
  rw [hdat] at hy6
  have hx6:=hx4.trans x6
  have h6:=(x4.trans x6).at h3
  have hy0:=hy6.elem (i:=0) (e:=[aI dd]) rfl
  clear p6 h5 x5
  have hl1:(aP [dd]).length=1:=rfl
  refine_lift dR fun _ _ => ?_
  refine aD (enters_of Tryz.func182 rfl rfl) rfl rfl (hP _) ?_;intro w7 x7;refine aA ?_
  have h7:=x7.at h6
  refine_lift bR ?_
  refine aG (v:=.agg ss.cells.toArray) rfl rfl rfl h7 (show aR Tryz.prog 160 7=true by decide +kernel) rfl (pL _) ?_
  intro w8 p8
  have x8:Ext w w8:=(hx6.trans x7).move p8.mv (by rintro k ⟨⟩;exact x1.size)
  refine_lift bR ?_
  refine bodyPost_ret (aU (cs:=ss.cells) rfl rfl p8.this (show cP Tryz.prog 160 7=true by decide +kernel)) rfl ⟨?_,x8⟩
  rw [hZ,q]
  rfl
def jV (s:List UInt8):List (List UInt8)→List (List UInt8)
 | []=>[s]
 | x :: l=>if Op.bytesLess x s=true then x :: jV s l else if x=s then x :: l else s :: x :: l
theorem BA (s:List UInt8):∀ l:List (List UInt8),(jV s l).length≤l.length + 1
 | []=>by simp [jV]
 | x :: l=>by
   rw [jV]
   split
   ·have:=BA s l;simp;omega
   ·split <;> simp
def dP (r:Rec):RSet:=⟨fold r.name,r.kind,r.ttl,[r.data]⟩
def jK (r:Rec):List RSet→List RSet
 | []=>[dP r]
 | g :: gs=>if jR g (dP r)=true then g :: jK r gs else if jR (dP r) g=true then dP r :: g :: gs else ⟨fold r.name,r.kind,min r.ttl g.ttl,jV r.data g.data⟩ :: gs
def cQ (l:List Rec):List RSet:=l.foldl (fun gs r=>jK r gs) []
theorem pM {l:List Rec} {k:Nat} (h:k < l.length):cQ (l.take (k + 1))=jK l[k] (cQ (l.take k)):=by
 rw [cQ,List.take_add_one,List.getElem?_eq_getElem h,Option.toList_some,List.foldl_append]
 rfl
theorem ET (r:Rec):∀ gs:List RSet,(jK r gs).length≤gs.length + 1
 | []=>by simp [jK]
 | g :: gs=>by
   have:=ET r gs
   rw [jK]
   split
   ·simp;omega
   ·split <;> simp
theorem BC (r:Rec) (n:Nat):∀ gs:List RSet,(∀ s ∈ gs,s.data.length≤n)→∀ s ∈ jK r gs,s.data.length≤n + 1
 | [],_,s,h=>by
   have:s=dP r:=by simpa [jK] using h
   subst this;simp [dP]
 | g :: gs,hn,s,h=>by
   have hg:=hn g (by simp)
   have hn':∀ s ∈ gs,s.data.length≤n:=fun s hs=>hn s (by simp [hs])
   rw [jK] at h
   split at h
   ·rcases List.mem_cons.1 h with rfl | h
    ·omega
    ·exact BC r n gs hn' s h
   ·split at h
    ·rcases List.mem_cons.1 h with rfl | h
     ·simp [dP]
     ·have:=hn s h;omega
    ·rcases List.mem_cons.1 h with rfl | h
     ·have:=BA r.data g.data
      show (jV r.data g.data).length≤n + 1
      omega
     ·have:=hn' s h;omega
theorem qZ (l:List Rec):∀ k,k≤l.length→(cQ (l.take k)).length≤k∧∀ s ∈ cQ (l.take k),s.data.length≤k
 | 0,_=>by simp [cQ]
 | k + 1,h=>by
   obtain ⟨h1,h2⟩:=qZ l k (by omega)
   rw [pM (show k < l.length by omega)]
   have:=ET (l[k]'(by omega)) (cQ (l.take k))
   exact ⟨by omega,BC _ k _ h2⟩
def vS (l:List Rec):Int:=if l.all AP=false then 1 else if 200 < (cQ l).length then 4 else if (cQ l).any LX=true then 4 else 0
def RefR (B:Nat) (l:List Rec) (r:Value) (w':World):Prop:=if vS l=0 then ∃ v,r=.tuple #[v, .int .i64 0]∧SetsO B w' v (cQ l) else r=.tuple #[.slice none 0 0, .int .i64 (vS l)]
theorem BD:∀ {gs:List RSet} {r:Rec} {s:RSet},uR gs→s ∈ eD gs r→(s ∈ gs∧bS s r=false)∨(∃ t ∈ gs,bS t r=true∧s=jQ t r)∨((∀ t ∈ gs,bS t r=false)∧s=⟨fold r.name,r.kind,r.ttl,[r.data]⟩)
 | [],r,s,_,h=>by
   right;right
   exact ⟨by simp,by simpa [eD] using h⟩
 | a :: l,r,s,hd,h=>by
   obtain ⟨p1,p2⟩:=List.pairwise_cons.1 (gV.1 hd)
   by_cases hm:bS a r=true
   ·simp only [eD,hm,if_true,List.mem_cons] at h
    rcases h with h | h
    ·exact .inr (.inl ⟨a,by simp,hm,h⟩)
    ·refine .inl ⟨by simp [h],?_⟩
     cases hs:bS s r with
     | false=>rfl
     | true =>
      exfalso
      simp only [bS,Bool.and_eq_true,decide_eq_true_eq] at hs hm
      exact p1 s h ⟨by rw [hm.1,hs.1],by rw [hm.2,hs.2]⟩
   ·have hm':bS a r=false:=by simpa using hm
    simp only [eD,hm',Bool.false_eq_true,if_false,List.mem_cons] at h
    rcases h with rfl | h
    ·exact .inl ⟨by simp,hm'⟩
    ·rcases BD (gV.2 p2) h with ⟨h1,h2⟩ | ⟨t,h1,h2,h3⟩ | ⟨h1,h2⟩
     ·exact .inl ⟨by simp [h1],h2⟩
     ·exact .inr (.inl ⟨t,by simp [h1],h2,h3⟩)
     ·refine .inr (.inr ⟨?_,h2⟩)
      intro t ht
      rcases List.mem_cons.1 ht with rfl | ht
      ·exact hm'
      ·exact h1 t ht
structure Ch (L:List Rec) (s:RSet):Prop where
 dat:∀ d,d ∈ s.data↔∃ r ∈ L,bS s r=true∧r.data=d
 ttl:∃ r ∈ L,bS s r=true∧r.ttl=s.ttl
 low:∀ r ∈ L,bS s r=true→s.ttl≤r.ttl
theorem Ch.miss {L:List Rec} {s:RSet} {r:Rec} (h:Ch L s) (hm:bS s r=false):Ch (L ++ [r]) s where
 dat d:=by
  rw [h.dat]
  constructor
  ·rintro ⟨q,h1,h2⟩;exact ⟨q,by simp [h1],h2⟩
  ·rintro ⟨q,h1,h2,h3⟩
   rcases List.mem_append.1 h1 with h1 | h1
   ·exact ⟨q,h1,h2,h3⟩
   ·obtain rfl:=List.mem_singleton.1 h1
    rw [hm] at h2;cases h2
 ttl:=let ⟨q,h1,h2⟩:=h.ttl;⟨q,by simp [h1],h2⟩
 low q h1 h2:=by
  rcases List.mem_append.1 h1 with h1 | h1
  ·exact h.low q h1 h2
  ·obtain rfl:=List.mem_singleton.1 h1
   rw [hm] at h2;cases h2
theorem Ch.bump {L:List Rec} {s:RSet} {r:Rec} (h:Ch L s) (hm:bS s r=true):Ch (L ++ [r]) (X.jQ s r) where
 dat d:=by
  show d ∈ s.data ++ [r.data]↔∃ q ∈ L ++ [r],bS s q=true∧q.data=d
  rw [List.mem_append,h.dat,List.mem_singleton]
  constructor
  ·rintro (⟨q,h1,h2⟩ | rfl)
   ·exact ⟨q,by simp [h1],h2⟩
   ·exact ⟨r,by simp,hm,rfl⟩
  ·rintro ⟨q,h1,h2,h3⟩
   rcases List.mem_append.1 h1 with h1 | h1
   ·exact .inl ⟨q,h1,h2,h3⟩
   ·obtain rfl:=List.mem_singleton.1 h1
    exact .inr h3.symm
 ttl:=by
  show ∃ q ∈ L ++ [r],bS s q=true∧q.ttl=min s.ttl r.ttl
  obtain ⟨q,h1,h2,h3⟩:=h.ttl
  rcases Int.le_total s.ttl r.ttl with hl | hl
  ·exact ⟨q,by simp [h1],h2,by rw [h3];omega⟩
  ·exact ⟨r,by simp,hm,by omega⟩
 low q h1 h2:=by
  show min s.ttl r.ttl≤q.ttl
  rcases List.mem_append.1 h1 with h1 | h1
  ·have:=h.low q h1 h2
   omega
  ·obtain rfl:=List.mem_singleton.1 h1
   omega
theorem Ch.new {L:List Rec} {r:Rec} (h:∀ q ∈ L,bS ⟨fold r.name,r.kind,r.ttl,[r.data]⟩ q=false):Ch (L ++ [r]) ⟨fold r.name,r.kind,r.ttl,[r.data]⟩ where
 dat d:=by
  rw [List.mem_singleton]
  constructor
  ·rintro rfl;exact ⟨r,by simp,by simp [bS],rfl⟩
  ·rintro ⟨q,h1,h2,h3⟩
   rcases List.mem_append.1 h1 with h1 | h1
   ·rw [h q h1] at h2;cases h2
   ·obtain rfl:=List.mem_singleton.1 h1
    exact h3.symm
 ttl:=⟨r,by simp,by simp [bS],rfl⟩
 low q h1 h2:=by
  rcases List.mem_append.1 h1 with h1 | h1
  ·rw [h q h1] at h2;cases h2
  ·obtain rfl:=List.mem_singleton.1 h1
   exact Int.le_refl _
theorem BE (l:List Rec):∀ k,k≤l.length→∀ s ∈ dC (l.take k),Ch (l.take k) s
 | 0,_,s,h=>by simp [dC] at h
 | k + 1,hk,s,h=>by
   have hlt:k < l.length:=by omega
   have e:l.take (k + 1)=l.take k ++ [l[k]]:=by simp
   rw [pH hlt] at h
   rw [e]
   have ih:=BE l k (by omega)
   rcases BD (jZ _) h with ⟨h1,h2⟩ | ⟨t,h1,h2,rfl⟩ | ⟨h1,rfl⟩
   ·exact (ih s h1).miss h2
   ·exact (ih t h1).bump h2
   ·refine Ch.new fun q hq => ?_
    obtain ⟨t,ht,hm,_⟩:=yA hq
    have:=h1 t ht
    cases hx:bS ⟨fold l[k].name,l[k].kind,l[k].ttl,[l[k].data]⟩ q with
    | false=>rfl
    | true =>
     exfalso
     simp only [bS,Bool.and_eq_true,decide_eq_true_eq] at hx hm
     have h5:bS t l[k]=true:=by
      simp only [bS,Bool.and_eq_true,decide_eq_true_eq]
      exact ⟨by rw [hm.1,hx.1],by rw [hm.2,hx.2]⟩
     rw [this] at h5;cases h5
theorem Ch.norm {L:List Rec} {s:RSet} (h:Ch L s):Ch L (X.mR s) where
 dat d:=by
  show d ∈ UN s.data↔∃ r ∈ L,bS s r=true∧r.data=d
  rw [OT,h.dat]
 ttl:=h.ttl
 low:=h.low
theorem BF {l:List Rec} {s:RSet} (h:s ∈ eV l):Ch l s∧s.data.Pairwise (· < ·):=by
 obtain ⟨u,hu,rfl⟩:=List.mem_map.1 h
 have:=BE l l.length (Nat.le_refl _)
 rw [List.take_length] at this
 exact ⟨(this u hu).norm,GY _⟩
theorem Ch.uniq {L:List Rec} {s t:RSet} (h:Ch L s) (k:Ch L t) (hs:s.data.Pairwise (· < ·)) (ht:t.data.Pairwise (· < ·)) (hn:s.name=t.name) (hk:s.kind=t.kind):s=t:=by
 have hm:∀ r,bS s r=bS t r:=fun r=>by rw [bS,bS,hn,hk]
 have hd:s.data=t.data:=JR hs ht fun d=>by
  rw [h.dat,k.dat]
  simp only [hm]
 have ha:s.ttl=t.ttl:=by
  obtain ⟨q,h1,h2,h3⟩:=h.ttl
  obtain ⟨q',k1,k2,k3⟩:=k.ttl
  have e1:=k.low q h1 (by rw [← hm];exact h2)
  have e2:=h.low q' k1 (by rw [hm];exact k2)
  omega
 cases s;cases t
 simp_all
def nT (s t:RSet):Int:=eJ s.name t.name s.kind t.kind
theorem yH:TPO nT:=lG.comap fun s:RSet=>(s.name,s.kind)
def SO (gs:List RSet):Prop:=gs.Pairwise fun s t=>nT s t < 0
def UR (r:Rec) (t:RSet):RSet:=⟨fold r.name,r.kind,min r.ttl t.ttl,jV r.data t.data⟩
theorem qK (a b:RSet):jR a b=decide (nT a b < 0):=AX a b
theorem eZ {s:RSet} {r:Rec}:bS s r=true↔s.name=fold r.name∧s.kind=r.kind:=by simp [bS]
theorem sY {s t u:RSet} (hn:s.name=t.name) (hk:s.kind=t.kind):nT u s=nT u t∧nT s u=nT t u:=by
 unfold nT;rw [hn,hk];exact ⟨rfl,rfl⟩
theorem sZ {s:RSet} {r:Rec} (h:nT s (dP r)≠0):bS s r=false:=by
 cases hm:bS s r with
 | false=>rfl
 | true =>
  obtain ⟨h1,h2⟩:=eZ.1 hm
  exact absurd (by rw [(sY (t:=dP r) h1 h2).2];exact yH.refl _) h
theorem EU {r:Rec} (hr:Small (fold r.name)):∀ {gs:List RSet} {s:RSet},SO gs→(∀ g ∈ gs,Small g.name)→s ∈ jK r gs →
 (s ∈ gs∧bS s r=false)∨(∃ t ∈ gs,bS t r=true∧s=UR r t)∨((∀ t ∈ gs,bS t r=false)∧s=dP r)
 | [],s,_,_,h=>by
   right;right
   exact ⟨by simp,by simpa [jK] using h⟩
 | g :: gs,s,hso,hsm,h=>by
   obtain ⟨p1,p2⟩:=List.pairwise_cons.1 hso
   have hg:=hsm g (by simp)
   rw [jK,qK,qK] at h
   by_cases h1:nT g (dP r) < 0
   ·rw [if_pos (decide_eq_true h1)] at h
    have m1:bS g r=false:=sZ (by omega)
    rcases List.mem_cons.1 h with rfl | h
    ·exact .inl ⟨by simp,m1⟩
    ·rcases EU hr p2 (fun x hx=>hsm x (by simp [hx])) h with ⟨a,b⟩ | ⟨t,a,b,c⟩ | ⟨a,b⟩
     ·exact .inl ⟨by simp [a],b⟩
     ·exact .inr (.inl ⟨t,by simp [a],b,c⟩)
     ·refine .inr (.inr ⟨fun t ht => ?_,b⟩)
      rcases List.mem_cons.1 ht with rfl | ht
      ·exact m1
      ·exact a t ht
   ·rw [if_neg (by simpa using h1)] at h
    by_cases h2:nT (dP r) g < 0
    ·rw [if_pos (decide_eq_true h2)] at h
     have m1:bS g r=false:=sZ (by have:=yH.anti g (dP r);omega)
     have m2:∀ t ∈ gs,bS t r=false:=fun t ht=>sZ (by
      have:=yH.ltt h2 (p1 t ht)
      have:=yH.anti t (dP r);omega)
     rcases List.mem_cons.1 h with rfl | h
     ·refine .inr (.inr ⟨fun t ht => ?_,rfl⟩)
      rcases List.mem_cons.1 ht with rfl | ht
      ·exact m1
      ·exact m2 t ht
     ·rcases List.mem_cons.1 h with rfl | h
      ·exact .inl ⟨by simp,m1⟩
      ·exact .inl ⟨by simp [h],m2 s h⟩
    ·rw [if_neg (by simpa using h2)] at h
     have h0:nT g (dP r)=0:=by have:=yH.anti g (dP r);omega
     obtain ⟨e1,e2⟩:=lV hg hr h0
     have mg:bS g r=true:=eZ.2 ⟨e1,e2⟩
     rcases List.mem_cons.1 h with rfl | h
     ·exact .inr (.inl ⟨g,by simp,mg,rfl⟩)
     ·refine .inl ⟨by simp [h],sZ ?_⟩
      have:=p1 s h
      rw [(sY (t:=dP r) e1 e2).2] at this
      have:=yH.anti s (dP r);omega
theorem EV {r:Rec}:∀ {gs:List RSet} {s:RSet},s ∈ jK r gs→s ∈ gs∨(s.name=fold r.name∧s.kind=r.kind)
 | [],s,h=>by
   right
   have:s=dP r:=by simpa [jK] using h
   subst this;exact ⟨rfl,rfl⟩
 | g :: gs,s,h=>by
   rw [jK] at h
   split at h
   ·rcases List.mem_cons.1 h with rfl | h
    ·exact .inl (by simp)
    ·rcases EV h with h | h
     ·exact .inl (by simp [h])
     ·exact .inr h
   ·split at h
    ·rcases List.mem_cons.1 h with rfl | h
     ·exact .inr ⟨rfl,rfl⟩
     ·exact .inl h
    ·rcases List.mem_cons.1 h with rfl | h
     ·exact .inr ⟨rfl,rfl⟩
     ·exact .inl (by simp [h])
theorem IJ {r:Rec} (hr:Small (fold r.name)):∀ {gs:List RSet},SO gs→(∀ g ∈ gs,Small g.name)→SO (jK r gs)
 | [],_,_=>by simp [jK,SO]
 | g :: gs,hso,hsm=>by
   obtain ⟨p1,p2⟩:=List.pairwise_cons.1 hso
   have hg:=hsm g (by simp)
   rw [jK,qK,qK]
   by_cases h1:nT g (dP r) < 0
   ·rw [if_pos (decide_eq_true h1)]
    refine List.pairwise_cons.2 ⟨fun s hs => ?_,IJ hr p2 fun x hx=>hsm x (by simp [hx])⟩
    rcases EV hs with h | ⟨a,b⟩
    ·exact p1 s h
    ·rw [(sY (t:=dP r) a b).1];exact h1
   ·rw [if_neg (by simpa using h1)]
    by_cases h2:nT (dP r) g < 0
    ·rw [if_pos (decide_eq_true h2)]
     refine List.pairwise_cons.2 ⟨fun s hs => ?_,hso⟩
     rcases List.mem_cons.1 hs with rfl | hs
     ·exact h2
     ·exact yH.ltt h2 (p1 s hs)
    ·rw [if_neg (by simpa using h2)]
     have h0:nT g (dP r)=0:=by have:=yH.anti g (dP r);omega
     obtain ⟨e1,e2⟩:=lV hg hr h0
     refine List.pairwise_cons.2 ⟨fun s hs => ?_,p2⟩
     have:=p1 s hs
     rw [(sY (s:=g) (t:=⟨fold r.name,r.kind,min r.ttl g.ttl,jV r.data g.data⟩) e1 e2).2] at this
     exact this
theorem nU {s:List UInt8}:∀ {l:List (List UInt8)},l.Pairwise (· < ·)→(jV s l).Pairwise (· < ·)∧∀ x,x ∈ jV s l↔x=s∨x ∈ l
 | [],_=>by simp [jV]
 | y :: l,h=>by
   obtain ⟨p1,p2⟩:=List.pairwise_cons.1 h
   obtain ⟨i1,i2⟩:=nU (s:=s) p2
   rw [jV]
   by_cases h1:y < s
   ·rw [if_pos (ID.2 h1)]
    refine ⟨List.pairwise_cons.2 ⟨fun x hx => ?_,i1⟩,fun x => ?_⟩
    ·rcases (i2 x).1 hx with rfl | hx
     ·exact h1
     ·exact p1 x hx
    ·simp only [List.mem_cons,i2];exact or_left_comm
   ·rw [if_neg (fun hb=>h1 (ID.1 hb))]
    by_cases h2:y=s
    ·rw [if_pos h2]
     subst h2
     exact ⟨h,fun x=>by simp⟩
    ·rw [if_neg h2]
     have h3:s < y:=uU (List.not_lt.1 h1) (fun e=>h2 e.symm)
     refine ⟨List.pairwise_cons.2 ⟨fun x hx => ?_,h⟩,fun x=>by simp⟩
     rcases List.mem_cons.1 hx with rfl | hx
     ·exact h3
     ·exact List.lt_trans h3 (p1 x hx)
theorem BG {r:Rec} (hr:Small (fold r.name)):∀ {gs:List RSet},(∀ g ∈ gs,Small g.name)→∀ t ∈ gs,∃ s ∈ jK r gs,s.name=t.name∧s.kind=t.kind
 | [],_,t,h=>by simp at h
 | g :: gs,hsm,t,h=>by
   have hg:=hsm g (by simp)
   rw [jK,qK,qK]
   by_cases h1:nT g (dP r) < 0
   ·rw [if_pos (decide_eq_true h1)]
    rcases List.mem_cons.1 h with rfl | h
    ·exact ⟨t,by simp,rfl,rfl⟩
    ·obtain ⟨s,a,b⟩:=BG hr (fun x hx=>hsm x (by simp [hx])) t h
     exact ⟨s,by simp [a],b⟩
   ·rw [if_neg (by simpa using h1)]
    by_cases h2:nT (dP r) g < 0
    ·rw [if_pos (decide_eq_true h2)]
     exact ⟨t,List.mem_cons_of_mem _ h,rfl,rfl⟩
    ·rw [if_neg (by simpa using h2)]
     have h0:nT g (dP r)=0:=by have:=yH.anti g (dP r);omega
     obtain ⟨e1,e2⟩:=lV hg hr h0
     rcases List.mem_cons.1 h with rfl | h
     ·exact ⟨_,List.mem_cons_self,e1.symm,e2.symm⟩
     ·exact ⟨t,by simp [h],rfl,rfl⟩
theorem EW (r:Rec):∀ gs:List RSet,∃ s ∈ jK r gs,s.name=fold r.name∧s.kind=r.kind
 | []=>⟨dP r,by simp [jK],rfl,rfl⟩
 | g :: gs=>by
   obtain ⟨s,a,b⟩:=EW r gs
   rw [jK]
   split
   ·exact ⟨s,by simp [a],b⟩
   ·split
    ·exact ⟨dP r,by simp,rfl,rfl⟩
    ·exact ⟨_,List.mem_cons_self,rfl,rfl⟩
theorem Ch.newS {L:List Rec} {t:RSet} {r:Rec} (h:Ch L t) (hm:bS t r=true) (ht:t.data.Pairwise (· < ·)):Ch (L ++ [r]) (X.UR r t):=by
 have hb:=h.bump hm
 obtain ⟨e1,e2⟩:=eZ.1 hm
 have hk:∀ q,bS (X.UR r t) q=bS (X.jQ t r) q:=fun q=>by simp only [bS,X.UR,X.jQ,e1,e2];rfl
 refine ⟨fun d => ?_,?_,fun q hq hmq => ?_⟩
 ·show d ∈ jV r.data t.data↔_
  rw [(nU ht).2]
  have:=hb.dat d
  simp only [hk]
  rw [← this]
  show _↔d ∈ t.data ++ [r.data]
  simp [or_comm]
 ·obtain ⟨q,a,b,c⟩:=hb.ttl
  exact ⟨q,a,by rw [hk];exact b,by rw [c];show min t.ttl r.ttl=min r.ttl t.ttl;omega⟩
 ·have:=hb.low q hq (by rw [← hk];exact hmq)
  show min r.ttl t.ttl≤q.ttl
  have h2:min t.ttl r.ttl≤q.ttl:=this
  omega
theorem MO {r:Rec} (h:AP r=true):Small (fold r.name):=by
 obtain ⟨ls,hl⟩:=Option.isSome_iff_exists.1 (kF (r:=r) (n:=[]) (by simpa [AP] using h)).1
 exact ⟨r.name,ls,hl,rfl⟩
theorem yI {l:List Rec} (hok:l.all AP=true):∀ k,k≤l.length→SO (cQ (l.take k))∧(∀ s ∈ cQ (l.take k),Ch (l.take k) s∧s.data.Pairwise (· < ·)∧Small s.name)∧∀ q ∈ l.take k,∃ s ∈ cQ (l.take k),bS s q=true
 | 0,_=>by simp [cQ,SO]
 | k + 1,h=>by
   have hlt:k < l.length:=by omega
   obtain ⟨i1,i2,i3⟩:=yI hok k (by omega)
   have hr:=MO (List.all_eq_true.1 hok _ (List.getElem_mem hlt))
   have hsm:∀ g ∈ cQ (l.take k),Small g.name:=fun g hg=>(i2 g hg).2.2
   have e:l.take (k + 1)=l.take k ++ [l[k]]:=by simp
   rw [pM hlt,e]
   refine ⟨IJ hr i1 hsm,fun s hs => ?_,fun q hq => ?_⟩
   ·rcases EU hr i1 hsm hs with ⟨a,b⟩ | ⟨t,a,b,rfl⟩ | ⟨a,rfl⟩
    ·exact ⟨(i2 s a).1.miss b,(i2 s a).2⟩
    ·exact ⟨(i2 t a).1.newS b (i2 t a).2.1,(nU (i2 t a).2.1).1,hr⟩
    ·refine ⟨Ch.new fun q hq => ?_,by simp [dP],hr⟩
     obtain ⟨t,ht,hm⟩:=i3 q hq
     cases hx:bS ⟨fold l[k].name,l[k].kind,l[k].ttl,[l[k].data]⟩ q with
     | false=>rfl
     | true =>
      exfalso
      obtain ⟨x1,x2⟩:=eZ.1 hx
      obtain ⟨y1,y2⟩:=eZ.1 hm
      have h5:bS t l[k]=true:=eZ.2 ⟨y1.trans x1.symm,y2.trans x2.symm⟩
      rw [a t ht] at h5;cases h5
   ·rcases List.mem_append.1 hq with hq | hq
    ·obtain ⟨t,ht,hm⟩:=i3 q hq
     obtain ⟨s,a,b,c⟩:=BG hr hsm t ht
     obtain ⟨y1,y2⟩:=eZ.1 hm
     exact ⟨s,a,eZ.2 ⟨b.trans y1,c.trans y2⟩⟩
    ·obtain rfl:=List.mem_singleton.1 hq
     obtain ⟨s,a,b,c⟩:=EW l[k] (cQ (l.take k))
     exact ⟨s,a,eZ.2 ⟨b,c⟩⟩
theorem yJ {l:List Rec} (hok:l.all AP=true):SO (cQ l)∧(∀ s ∈ cQ l,Ch l s∧s.data.Pairwise (· < ·)∧Small s.name)∧∀ q ∈ l,∃ s ∈ cQ l,bS s q=true:=by
 have:=yI hok l.length (Nat.le_refl _)
 rwa [List.take_length] at this
theorem vD {l:List Rec} (hok:l.all AP=true):(cQ l).Perm (eV l):=by
 obtain ⟨i1,i2,i3⟩:=yJ hok
 have n1:(eV l).Nodup:=(sS _).imp fun h e=>by subst e;exact h ⟨rfl,rfl⟩
 have n0:(cQ l).Nodup:=i1.imp fun h e=>by subst e;have:=yH.refl ‹RSet›;omega
 refine (List.perm_ext_iff_of_nodup n0 n1).2 fun s=>⟨fun hs => ?_,fun hs => ?_⟩
 ·obtain ⟨hc,hst,_⟩:=i2 s hs
  obtain ⟨q,h1,h2,_⟩:=hc.ttl
  obtain ⟨t,ht,hm,_⟩:=yA h1
  have hg:mR t ∈ eV l:=List.mem_map_of_mem ht
  obtain ⟨hc',hst'⟩:=BF hg
  obtain ⟨x1,x2⟩:=eZ.1 h2
  obtain ⟨y1,y2⟩:=eZ.1 hm
  have e:=hc.uniq hc' hst hst' (x1.trans y1.symm) (x2.trans y2.symm)
  rw [e];exact hg
 ·obtain ⟨hc,hst⟩:=BF hs
  obtain ⟨q,h1,h2,_⟩:=hc.ttl
  obtain ⟨t,ht,hm⟩:=i3 q h1
  obtain ⟨hc',hst',_⟩:=i2 t ht
  obtain ⟨x1,x2⟩:=eZ.1 h2
  obtain ⟨y1,y2⟩:=eZ.1 hm
  have e:=hc.uniq hc' hst hst' (x1.trans y1.symm) (x2.trans y2.symm)
  rw [e];exact ht
theorem zQ {l:List Rec} (hok:l.all AP=true):rN (cQ l):=by
 obtain ⟨i1,_,_⟩:=yJ hok
 intro i j s t hij hi hj
 obtain ⟨a,rfl⟩:=List.getElem?_eq_some_iff.1 hi
 obtain ⟨b,rfl⟩:=List.getElem?_eq_some_iff.1 hj
 have h:=List.pairwise_iff_getElem.1 i1 i j a b hij
 have:=yH.anti (cQ l)[j] (cQ l)[i]
 show 0≤nT (cQ l)[j] (cQ l)[i]
 omega
theorem PB {l:List Rec} (hok:l.all AP=true) {out:List RSet} (hp:out.Perm (eV l)) (hs:rN out):out=cQ l :=
 GZ hok hp (vD hok) hs (zQ hok)
theorem US (l:List Rec):vS l=iK l:=by
 unfold vS iK
 cases hok:l.all AP with
 | false=>simp
 | true =>
  have hp:=vD hok
  have hl:=hp.length_eq
  have ha:(cQ l).any LX=(eV l).any LX:=by
   cases h:(eV l).any LX with
   | true =>
    obtain ⟨s,h1,h2⟩:=List.any_eq_true.1 h
    exact List.any_eq_true.2 ⟨s,hp.mem_iff.2 h1,h2⟩
   | false =>
    cases h':(cQ l).any LX with
    | false=>rfl
    | true =>
     obtain ⟨s,h1,h2⟩:=List.any_eq_true.1 h'
     rw [List.any_eq_true.2 ⟨s,hp.mem_iff.1 h1,h2⟩] at h;cases h
  rw [ha,hl]
  simp only [Bool.true_eq_false,if_false]
  split <;> split <;> rfl
def mU:List Value:=[aI [], .slice none 0 0]
theorem BH {s x:List UInt8}:∀ {l:List (List UInt8)},x ∈ jV s l→x=s∨x ∈ l
 | [],h=>by simp [jV] at h;exact .inl h
 | y :: l,h=>by
   unfold jV at h
   split at h
   ·rcases List.mem_cons.1 h with rfl | h
    ·exact .inr (by simp)
    ·rcases BH h with h | h
     ·exact .inl h
     ·exact .inr (by simp [h])
   ·split at h
    ·exact .inr h
    ·rcases List.mem_cons.1 h with rfl | h
     ·exact .inl rfl
     ·exact .inr h
theorem EX {r:Rec}:∀ {gs:List RSet} {s:RSet} {d:List UInt8},s ∈ jK r gs→d ∈ s.data→d=r.data∨∃ t ∈ gs,d ∈ t.data
 | [],s,d,h,hd=>by
   have:s=dP r:=by simpa [jK] using h
   subst this
   exact .inl (by simpa [dP] using hd)
 | g :: gs,s,d,h,hd=>by
   rw [jK] at h
   split at h
   ·rcases List.mem_cons.1 h with rfl | h
    ·exact .inr ⟨s,by simp,hd⟩
    ·rcases EX h hd with h | ⟨t,ht,h⟩
     ·exact .inl h
     ·exact .inr ⟨t,by simp [ht],h⟩
   ·split at h
    ·rcases List.mem_cons.1 h with rfl | h
     ·exact .inl (by simpa [dP] using hd)
     ·exact .inr ⟨s,h,hd⟩
    ·rcases List.mem_cons.1 h with rfl | h
     ·rcases BH hd with h | h
      ·exact .inl h
      ·exact .inr ⟨g,by simp,h⟩
     ·exact .inr ⟨s,by simp [h],hd⟩
theorem yK {l:List Rec}:∀ k,k≤l.length→∀ s ∈ cQ (l.take k),∀ d ∈ s.data,∃ r ∈ l,d=r.data
 | 0,_,s,hs,_,_=>by simp [cQ] at hs
 | k + 1,h,s,hs,d,hd=>by
   rw [pM (show k < l.length by omega)] at hs
   rcases EX hs hd with h1 | ⟨t,ht,h1⟩
   ·exact ⟨_,List.getElem_mem _,h1⟩
   ·exact yK k (by omega) t ht d h1
theorem EY {l:List Rec} {s:RSet} (hs:s ∈ cQ l) {d:List UInt8} (hd:d ∈ s.data):∃ r ∈ l,d=r.data :=
 yK l.length (Nat.le_refl _) s (by rw [List.take_length];exact hs) d hd
theorem HI (l:List Rec):∀ s ∈ cQ l,s.data.length≤l.length:=by
 have:=(qZ l l.length (Nat.le_refl _)).2
 rwa [List.take_length] at this
def jW (o:List UInt8) (l:List Rec):Int:=if vS l=0 then bZ (fold o) (cQ l) else vS l
def pN (o:List UInt8) (l:List Rec):List UInt8:=if jW o l=0 then fold o else []
def pO (o:List UInt8) (l:List Rec):List RSet:=if jW o l=0 then cQ l else []
def LoadU (B:Nat) (o:List UInt8) (l:List Rec) (r:Value) (w':World):Prop :=
 ∃ v,r=.tuple #[.agg #[aI (pN o l),v], .int .i64 (jW o l)]∧SetsO B w' v (pO o l)
theorem LoadU.bad {B:Nat} {o:List UInt8} {l:List Rec} {e:Int} {w':World} (h:jW o l=e) (he:e≠0):LoadU B o l (.tuple #[.agg mU.toArray, .int .i64 e]) w':=by
 refine ⟨.slice none 0 0,?_,?_⟩
 ·rw [h,pN,if_neg (by rw [h];exact he)];rfl
 ·rw [pO,if_neg (by rw [h];exact he)];exact SetsO.nil _ _
theorem LoadU.good {B:Nat} {o:List UInt8} {l:List Rec} {v:Value} {w':World} (h:jW o l=0) (hv:SetsO B w' v (cQ l)):LoadU B o l (.tuple #[.agg #[aI (fold o),v], .int .i64 0]) w':=by
 refine ⟨v,?_,?_⟩
 ·rw [pN,if_pos h,h]
 ·rw [pO,if_pos h];exact hv
def MP (B:Nat) (l:List Rec) (r:Value) (w':World):Prop:=∃ v,r=.tuple #[v, .int .i64 (vS l)]∧(vS l=0→SetsO B w' v (cQ l))
theorem RefR.uni {B:Nat} {l:List Rec} {r:Value} {w':World} (h:RefR B l r w'):MP B l r w':=by
 unfold RefR at h
 split at h
 ·rename_i h0
  obtain ⟨v,rfl,hv⟩:=h
  exact ⟨v,by rw [h0],fun _=>hv⟩
 ·rename_i h0
  exact ⟨_,h,fun h1=>absurd h1 h0⟩
theorem GroupO.uni {B:Nat} {l:List Rec} {r:Value} {w':World} (h:GroupO B l r w'):MP B l r w':=by
 unfold GroupO at h
 rw [← US] at h
 split at h
 ·rename_i h0
  obtain ⟨out,v,rfl,hp,hs,hv⟩:=h
  have hok:l.all AP=true:=by
   cases hok:l.all AP with
   | true=>rfl
   | false=>rw [vS,if_pos hok] at h0;cases h0
  have e:=PB hok hp hs
  exact ⟨v,by rw [h0],fun _=>by rw [← e];exact hv⟩
 ·rename_i h0
  exact ⟨_,h,fun h1=>absurd h1 h0⟩
theorem yL {o:List UInt8} {v:Value} (h:v.oneCell'=true):(Value.agg #[aI o,v]).cells.all (·.oneCell')=true:=by
 simp [Value.cells,h,show (aI o).oneCell'=true from rfl]
set_option maxHeartbeats 3000000 in
theorem SE (o:List UInt8) (v:Value) (l:List Rec) (w:World) (hv:Sl 4 w v (aO l)) (hl:l.length≤10000) (hd:∀ r ∈ l,r.data.length≤4611686018427387904):Calls Tryz.prog 26 #[aI o,v] w (oA w (LoadU w.heap.size o l)):=by
 have hb:∀ s ∈ cQ l,s.data.length≤1000000:=fun s hs=>by have:=HI l s hs;omega
 have hd2:∀ s ∈ cQ l,∀ d ∈ s.data,d.length≤4611686018427387904:=fun s hs d hd3=>by
  obtain ⟨r,hr,rfl⟩:=EY hs hd3
  exact hd r hr
 go_enter Tryz.func26,Tryz.ntmps26
 repeat' (first | ((with_reducible refine cY ?_);go_step) | fail)
 refine aL (z:=mU) rfl (by decide +kernel) ?_
 intro w1 x1 s1 h1
 refine aA ?_
 have hv1:=hv.ext x1
 (repeat' first | ((with_reducible refine cY ?_);go_step) | ((with_reducible refine cJ ?_);first | refine eS ?_ | (refine dD ?_ ?_ <;> intro hc)) | fail)
 refine aK (enters_of Tryz.func60 rfl rfl) rfl rfl (XU v l _ hv1 hl) ?_
 intro r w2 x2 hr
 obtain ⟨y,rfl,hy⟩:=hr.uni
 clear hr
 have h2:=x2.at h1
 have hx2:=x1.trans x2
 by_cases hE:vS l=0
 ·have hy:=hy hE
  have hLE:jW o l=bZ (fold o) (cQ l):=by rw [jW,if_pos hE]
  rw [hE]
  obtain ⟨ya,yn,yc,hys⟩:∃ a n c,y=.slice a n c:=by obtain ⟨css,h,_⟩:=hy;exact h.slf
  (repeat' first | ((with_reducible refine cY ?_);go_step) | ((with_reducible refine cJ ?_);first | refine eS ?_ | (refine dD ?_ ?_ <;> intro hc)) | fail)
  refine aD (enters_of Tryz.func32 rfl rfl) rfl rfl (LR o _) ?_;intro w3 x3;refine aA ?_
  have h3:=x3.at h2
  have hx3:=hx2.trans x3
  have hy3:=hy.ext x3
  (repeat' first | ((with_reducible refine cY ?_);go_step) | ((with_reducible refine cJ ?_);first | refine eS ?_ | (refine dD ?_ ?_ <;> intro hc)) | fail)
  refine cH (v:=.agg #[aI (fold o),y]) rfl (Runs.build (vals:=[(0,aI (fold o)),(1,y)]) rfl (by rw [hys];kernel_rfl)) ?_
  refine aA ?_
  refine aL (z:=mU) rfl (by decide +kernel) ?_
  intro w4 x4 s4 h4
  refine aA ?_
  have hy1:y.oneCell'=true:=by rw [hys];rfl
  refine aG (v:=.agg #[aI (fold o),y]) rfl rfl rfl h4 (show aR Tryz.prog 50 2=true by decide +kernel) rfl (yL hy1) ?_
  intro w5 p5
  have x5:Ext w3 w5:=x4.move p5.mv (by rintro k ⟨⟩;exact Nat.le_refl _)
  have h5:=aE (cs:=[aI (fold o),y]) p5.this
  have hx5:=hx3.trans x5
  have hy5:=hy3.ext x5
  have hz5:=x5.at h3
  clear p5 h4 x4
  (repeat' first | ((with_reducible refine cY ?_);go_step) | ((with_reducible refine cJ ?_);first | refine eS ?_ | (refine dD ?_ ?_ <;> intro hc)) | fail)
  refine aD (enters_of Tryz.func61 rfl rfl) rfl rfl (wH (fold o) y (cQ l) _ hy5.sets hb) ?_;intro w6 x6;refine aA ?_
  have h6:=h5.ext x6
  have hx6:=hx5.trans x6
  have hy6:=hy5.ext x6
  have hz6:=x6.at hz5
  (repeat' first | ((with_reducible refine cY ?_);go_step) | ((with_reducible refine cJ ?_);first | refine eS ?_ | (refine dD ?_ ?_ <;> intro hc)) | fail)
  ·have q:¬ bZ (fold o) (cQ l)=0:=by simpa using (by assumption:(!decide (bZ (fold o) (cQ l)=0))=true)
   refine cH (v:=.agg mU.toArray) rfl (Runs.build0 (by kernel_rfl)) ?_
   refine aA ?_
   (repeat' first | ((with_reducible refine cY ?_);go_step) | ((with_reducible refine cJ ?_);first | refine eS ?_ | (refine dD ?_ ?_ <;> intro hc)) | fail)
   refine aG (v:=.agg mU.toArray) rfl rfl rfl hz6 (by decide +kernel) rfl (by decide +kernel) ?_
   intro w7 p7
   have x7:Ext w w7:=hx6.move p7.mv (by rintro k ⟨⟩;exact Nat.le_refl _)
   (repeat' first | ((with_reducible refine cY ?_);go_step) | ((with_reducible refine cJ ?_);first | refine eS ?_ | (refine dD ?_ ?_ <;> intro hc)) | fail)
   refine bodyPost_ret (aU (cs:=mU) rfl rfl p7.this (by decide +kernel)) rfl ⟨_,rfl,x7,?_⟩
   exact LoadU.bad hLE q
  ·have q:bZ (fold o) (cQ l)=0:=by simpa using (by assumption:(!decide (bZ (fold o) (cQ l)=0))=false)
   refine aG (v:=.agg #[aI (fold o),y]) rfl rfl rfl hz6 (show aR Tryz.prog 50 2=true by decide +kernel) rfl (yL hy1) ?_
   intro w7 p7
   have x7:Ext w w7:=hx6.move p7.mv (by rintro k ⟨⟩;exact Nat.le_refl _)
   have hy7:=hy6.put p7 (by have:=s1;omega)
   (repeat' first | ((with_reducible refine cY ?_);go_step) | ((with_reducible refine cJ ?_);first | refine eS ?_ | (refine dD ?_ ?_ <;> intro hc)) | fail)
   refine bodyPost_ret (aU (cs:=[aI (fold o),y]) rfl rfl p7.this (show cP Tryz.prog 50 2=true by decide +kernel)) rfl ⟨_,rfl,x7,?_⟩
   exact LoadU.good (by rw [hLE,q]) (hy7.weaken x1.size)
 ·have hLE:jW o l=vS l:=by rw [jW,if_neg hE]
  (repeat' first | ((with_reducible refine cY ?_);go_step) | ((with_reducible refine cJ ?_);first | refine eS ?_ | (refine dD ?_ ?_ <;> intro hc)) | fail)
  ·refine cH (v:=.agg mU.toArray) rfl (Runs.build0 (by kernel_rfl)) ?_
   refine aA ?_
   (repeat' first | ((with_reducible refine cY ?_);go_step) | ((with_reducible refine cJ ?_);first | refine eS ?_ | (refine dD ?_ ?_ <;> intro hc)) | fail)
   refine aG (v:=.agg mU.toArray) rfl rfl rfl h2 (by decide +kernel) rfl (by decide +kernel) ?_
   intro w3 p3
   have x3:Ext w w3:=hx2.move p3.mv (by rintro k ⟨⟩;exact Nat.le_refl _)
   (repeat' first | ((with_reducible refine cY ?_);go_step) | ((with_reducible refine cJ ?_);first | refine eS ?_ | (refine dD ?_ ?_ <;> intro hc)) | fail)
   refine bodyPost_ret (aU (cs:=mU) rfl rfl p3.this (by decide +kernel)) rfl ⟨_,rfl,x3,?_⟩
   exact LoadU.bad hLE hE
  ·exact absurd (by assumption:(!decide (vS l=0))=false) (by simp [hE])
theorem tA {k:Nat} {c:Value}:∀ (es:List (List Value)) (i j:Nat) (e:List Value),(∀ x ∈ es,x.length=k)→es[i]? = some e→j < k→(es.set i (e.set j c)).flatten=es.flatten.set (i * k + j) c
 | [],i,_,_,_,hi,_=>by simp at hi
 | x :: es,0,j,e,hall,hi,hj=>by
   have hx:=hall x (by simp)
   cases hi
   simp only [List.set_cons_zero,List.flatten_cons,Nat.zero_mul,Nat.zero_add]
   rw [List.set_append_left _ _ (by omega)]
 | x :: es,i + 1,j,e,hall,hi,hj=>by
   have hx:=hall x (by simp)
   simp only [List.set_cons_succ,List.flatten_cons]
   rw [tA es i j e (fun y hy=>hall y (by simp [hy])) (by simpa using hi) hj]
   rw [List.set_append_right _ _ (by rw [Nat.add_mul];omega),show (i + 1) * k + j - x.length=i * k + j by rw [hx,Nat.add_mul];omega]
theorem Own.storeF {P:Program} {B k e:Nat} {w:World} {v:Value} {es:List (List Value)} {t:TypeId} {i j:Nat} {ce:List Value} {c:Value} (h:Own B k e w v es) (hi:es[i]? = some ce) (hj:j < k) (hs:aR P t 1=true) (h1:c.oneCell'=true) :
 ∃ w' b o,dT (dN v (i * k)) j=.pointer (some ⟨b,o,none⟩)∧(storeVar t ⟨b,o,none⟩ c).run P w=.ok () w'∧Own B k e w' v (es.set i (ce.set j c))∧Mv v.ownBlock w w':=by
 have hil:=(List.getElem?_eq_some_iff.1 hi).1
 have hce:ce.length=k:=h.each ce (List.mem_of_getElem? hi)
 have hcc:c.cells=#[c]:=by cases c <;> first | rfl | cases h1
 rcases h.row.2 with ⟨rfl,h0⟩ | ⟨g,cap,cur,fz,rfl,hb,hg,hfz,hnc,hcm,hcs,htake⟩
 ·omega
 ·have hl:=bO h.each
  have hik:i * k + k≤es.length * k:=by
   have:(i + 1) * k≤es.length * k:=Nat.mul_le_mul_right k hil
   rwa [Nat.add_mul,Nat.one_mul] at this
  have hck:es.length * k≤cap * k:=Nat.mul_le_mul_right k hnc
  have hst:=eM P g (i * k + j) e fz [c] 0 cur w hg hfz (by simp;omega) (by simpa using h1)
  simp only [Nat.add_zero,List.length_cons,List.length_nil,Nat.zero_add] at hst
  have hset:cur.toList.take (i * k + j) ++ [c] ++ cur.toList.drop (i * k + j + 1)=cur.toList.set (i * k + j) c:=by
   rw [List.set_eq_take_append_cons_drop,if_pos (by simp;omega)];simp
  rw [hset] at hst
  obtain ⟨ti,hq,hsz⟩:=sC (jE hs)
  have hall:∀ x ∈ es.set i (ce.set j c),x.length=k:=by
   intro x hx
   rcases List.mem_or_eq_of_mem_set hx with hx | rfl
   ·exact h.each x hx
   ·simpa using hce
  refine ⟨w.setRow g (cur.toList.set (i * k + j) c).toArray,g,i * k + j,by simp [dN,dT,dW],?_,⟨⟨?_, .inr ⟨g,cap,(cur.toList.set (i * k + j) c).toArray,fz,?_,hb,setRow_heap w g cur _ e _ hg,?_,?_,hcm,?_,?_⟩⟩,hall⟩,⟨rfl,rfl,rfl,by simp,fun k _ hk=>setRow_other w g k _ (fun e=>hk (by simp [Value.ownBlock,e])),Nat.le_refl _⟩⟩
  ·simpa [storeVar,sizeOf,typeInfo,hq,hsz,hcc] using hst
  ·rw [bO hall]
  ·simp
  ·simpa using hfz
  ·simpa using hnc
  ·simpa using hcs
  ·rw [tA es i j ce h.each hi hj,← htake]
   simp only [List.length_set,List.take_set]
section
variable {P:Program} {ops:Array Oper} {Q:Exit→Act→World→Prop} {w:World} {rest:List Oper} {ts:List Value} {df:List Deferred} {ty:TypeId} {ps:String} {af:Array Edge} {g:Option (Nat × Bool)}
theorem EZ {B k e:Nat} {v c:Value} {es:List (List Value)} {ce:List Value} {t ty2:TypeId} {x y:Operand} {i j:Nat} (hw:Region.wanted (Oper.mk none (.store t x y) ty2 ps af g) (yielded ops ts.toArray)=true)
 (hx:(Act.mk ts.toArray df).eval x=dT (dN v (i * k)) j) (hy:(Act.mk ts.toArray df).eval y=c) (h:Own B k e w v es) (hi:es[i]? = some ce) (hj:j < k) (hs:aR P t 1=true) (h1:c.oneCell'=true)
 (hk:∀ w',Own B k e w' v (es.set i (ce.set j c))→Mv v.ownBlock w w'→wpList P ops Q rest (Act.mk ts.toArray df) w'):wpList P ops Q (Oper.mk none (.store t x y) ty2 ps af g :: rest) (Act.mk ts.toArray df) w:=by
 obtain ⟨w',b,o,he,hr,ho,hm⟩:=h.storeF (P:=P) hi hj hs h1
 refine jF hw (w':=w') ?_ (hk w' ho hm)
 simp [execOp,hx,hy,he,Instr.storeAt,Instr.sureAddr,hr]
end
structure SetsW (B:Nat) (w:World) (css:List (List Value)) (l:List RSet):Prop where
 len:css.length=l.length
 at':∀ (i:Nat) (s:RSet),l[i]? = some s→∃ x,css[i]? = some [aI s.name, .int .i64 s.kind, .int .i64 s.ttl,x]∧Own B 1 9 w x (aP s.data)
theorem SetsW.sets {B:Nat} {w:World} {css:List (List Value)} {l:List RSet} (h:SetsW B w css l):SetsC w css l :=
 ⟨h.len,fun i s hi=>let ⟨x,a,b⟩:=h.at' i s hi;⟨x,a,b.sl⟩⟩
theorem SetsW.ext {B:Nat} {w w':World} {css:List (List Value)} {l:List RSet} (h:SetsW B w css l) (hx:Ext w w'):SetsW B w' css l :=
 ⟨h.len,fun i s hi=>let ⟨x,a,b⟩:=h.at' i s hi;⟨x,a,b.ext hx⟩⟩
theorem SetsW.mv {B B' k' e':Nat} {w w':World} {css:List (List Value)} {l:List RSet} {v:Value} {es:List (List Value)} (h:SetsW B w css l) (ho:Own B' k' e' w v es) (he:9≠e') (hm:Mv v.ownBlock w w'):SetsW B w' css l :=
 ⟨h.len,fun i s hi=>let ⟨x,a,b⟩:=h.at' i s hi;⟨x,a,b.mv hm (b.ne ho he)⟩⟩
theorem SetsW.put {B b t:Nat} {w w':World} {css:List (List Value)} {l:List RSet} {cs:Array Value} {fz:Nat × Nat} {o:Obj} (h:SetsW B w css l) (hb:w.heap[b]? = some (.cells cs t fz)) (ht:t≠9) (hp:Put w w' b o):SetsW B w' css l :=
 ⟨h.len,fun i s hi=>let ⟨x,a,c⟩:=h.at' i s hi;⟨x,a,c.mv hp.mv (.inr (c.neBlock hb ht))⟩⟩
theorem SetsW.weaken {B C:Nat} {w:World} {css:List (List Value)} {l:List RSet} (h:SetsW B w css l) (hc:C≤B):SetsW C w css l :=
 ⟨h.len,fun i s hi=>let ⟨x,a,b⟩:=h.at' i s hi;⟨x,a,b.weaken hc⟩⟩
theorem SetsW.append {B:Nat} {w:World} {l m:List RSet} {c d:List (List Value)} (h:SetsW B w c l) (k:SetsW B w d m):SetsW B w (c ++ d) (l ++ m):=by
 refine ⟨by rw [List.length_append,List.length_append,h.len,k.len],fun i s hi => ?_⟩
 rw [List.getElem?_append] at hi ⊢
 rw [h.len]
 split at hi
 ·rw [if_pos ‹_›];exact h.at' i s hi
 ·rw [if_neg ‹_›];exact k.at' _ s hi
theorem SetsW.one {B:Nat} {w:World} {s:RSet} {x:Value} (h:Own B 1 9 w x (aP s.data)):SetsW B w [[aI s.name, .int .i64 s.kind, .int .i64 s.ttl,x]] [s] :=
 ⟨rfl,fun i t hi=>by
  match i,hi with
  | 0,hi=>cases hi;exact ⟨x,rfl,h⟩⟩
theorem SetsW.nil (B:Nat) (w:World):SetsW B w [] []:=⟨rfl,by simp⟩
theorem SetsW.from' {B C:Nat} {w:World} {css:List (List Value)} {l:List RSet} (h:SetsW B w css l) (hc:C≤B):FromC C css:=by
 intro f hf u hu
 obtain ⟨i,hi,rfl⟩:=List.mem_iff_getElem.1 hf
 obtain ⟨x,h1,h2⟩:=h.at' i _ (List.getElem?_eq_getElem (by rw [← h.len];exact hi))
 rw [List.getElem?_eq_getElem hi] at h1
 rw [Option.some.inj h1] at hu
 exact (FromC.one (h2.from' hc)) _ (List.mem_singleton.2 rfl) u hu
structure SetsV (B:Nat) (w:World) (v:Value) (l:List RSet):Prop where
 out:∃ css,Own B 4 131 w v css∧SetsW B w css l
theorem SetsV.ext {B:Nat} {w w':World} {v:Value} {l:List RSet} (h:SetsV B w v l) (hx:Ext w w'):SetsV B w' v l:=by
 obtain ⟨css,h1,h2⟩:=h
 exact ⟨css,h1.ext hx,h2.ext hx⟩
theorem SetsV.weaken {B C:Nat} {w:World} {v:Value} {l:List RSet} (h:SetsV B w v l) (hc:C≤B):SetsV C w v l:=by
 obtain ⟨css,h1,h2⟩:=h
 exact ⟨css,h1.weaken hc,h2.weaken hc⟩
theorem SetsV.put {B b t:Nat} {w w':World} {v:Value} {l:List RSet} {cs:Array Value} {fz:Nat × Nat} {o:Obj} (h:SetsV B w v l) (hb:w.heap[b]? = some (.cells cs t fz)) (ht:t≠9) (ht2:t≠131) (hp:Put w w' b o):SetsV B w' v l:=by
 obtain ⟨css,h1,h2⟩:=h
 exact ⟨css,h1.mv hp.mv (.inr (h1.neBlock hb ht2)),h2.put hb ht hp⟩
theorem SetsV.slf {B:Nat} {w:World} {v:Value} {l:List RSet} (h:SetsV B w v l):∃ a n c,v=.slice a n c:=by
 obtain ⟨css,h1,h2⟩:=h
 exact h1.sl.slf
def QO (s:SoaR) (n:Int):SoaR:={ s with serial:=n }
def MQ (o:List UInt8) (l:List RSet) (n:Int):Int:=if bZ o l=0 then (if (QO (eF o l) n).ok=true then 0 else 1) else bZ o l
def UT (o:List UInt8) (l:List RSet) (n:Int):List UInt8:=(QO (eF o l) n).data
def rR (d:List UInt8) (s:RSet):RSet:=if s.kind=6 then ⟨s.name,s.kind,s.ttl,[d]⟩ else s
def SF (o:List UInt8) (l:List RSet) (n:Int):List RSet:=if MQ o l n=0 then l.map (rR (UT o l n)) else []
def SG (o:List UInt8) (l:List RSet) (n:Int):List UInt8:=if MQ o l n=0 then o else []
def RenU (B:Nat) (o:List UInt8) (l:List RSet) (n:Int) (r:Value) (w':World):Prop :=
 ∃ v,r=.tuple #[.agg #[aI (SG o l n),v], .int .i64 (MQ o l n)]∧SetsO B w' v (SF o l n)
theorem RenU.bad {B:Nat} {o:List UInt8} {l:List RSet} {n e:Int} {w':World} (h:MQ o l n=e) (he:e≠0):RenU B o l n (.tuple #[.agg mU.toArray, .int .i64 e]) w':=by
 refine ⟨.slice none 0 0,?_,?_⟩
 ·rw [h,SG,if_neg (by rw [h];exact he)];rfl
 ·rw [SF,if_neg (by rw [h];exact he)];exact SetsO.nil _ _
theorem RenU.good {B:Nat} {o:List UInt8} {l:List RSet} {n:Int} {v:Value} {w':World} (h:MQ o l n=0) (hv:SetsO B w' v (l.map (rR (UT o l n)))):RenU B o l n (.tuple #[.agg #[aI o,v], .int .i64 0]) w':=by
 refine ⟨v,?_,?_⟩
 ·rw [SG,if_pos h,h]
 ·rw [SF,if_pos h];exact hv
theorem ZoneOk.one6 {o:List UInt8} {l:List RSet} (h:ZoneOk o l) {s:RSet} (hs:s ∈ l) (h6:s.kind=6):s.name=o∧s.data.length=1:=by
 have hr:=h.right s hs
 simp only [dZ,Bool.and_eq_true,Bool.not_eq_true',h6] at hr
 have:=hr.1.1.2
 simp only [decide_true,Bool.true_and,Bool.or_eq_false_iff,decide_eq_false_iff_not,ne_eq,Decidable.not_not] at this
 exact this
theorem IK {d:List UInt8} {s:RSet} (h:¬ s.kind=6):rR d s=s:=by rw [rR,if_neg h]
theorem FA {d:List UInt8} {s:RSet} (h:s.kind=6):rR d s=⟨s.name,s.kind,s.ttl,[d]⟩:=by rw [rR,if_pos h]
theorem SetsW.set {B:Nat} {w:World} {css:List (List Value)} {l:List RSet} (h:SetsW B w css l) {i:Nat} {s:RSet} {x:Value} (hx:Own B 1 9 w x (aP s.data)):SetsW B w (css.set i [aI s.name, .int .i64 s.kind, .int .i64 s.ttl,x]) (l.set i s):=by
 refine ⟨by rw [List.length_set,List.length_set,h.len],fun j t hj => ?_⟩
 by_cases e:i=j
 ·subst e
  have hlt:i < l.length:=by have:=(List.getElem?_eq_some_iff.1 hj).1;simpa using this
  rw [List.getElem?_set_self hlt] at hj
  cases hj
  exact ⟨x,List.getElem?_set_self (by rw [h.len];exact hlt),hx⟩
 ·rw [List.getElem?_set_ne e] at hj
  rw [List.getElem?_set_ne e]
  exact h.at' j t hj
end Go.Proofs.X
