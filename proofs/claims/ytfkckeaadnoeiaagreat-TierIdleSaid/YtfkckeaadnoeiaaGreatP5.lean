/- Laws and walks that the proof of the statement is made of (part 5). -/
import Derived.Test.YtfkckeaadnoeiaaGreatP4
set_option linter.unusedSimpArgs false
set_option linter.unusedVariables false
set_option maxRecDepth 100000
set_option maxHeartbeats 20000000
namespace Go.Proofs.X
open Go.RowKit
variable {cs:Array Value} {held:Bool} {qt:Int} {ps rs:List (List UInt8 × Nat)} {ls:List (List UInt8)} {css css0 es:List (List Value)} {d l m n o qn s t x y z:List UInt8} {B a b base c e fuel i j k p q:Nat} {fz:Nat × Nat} {row:Option Nat} {r u v:Value} {w w' w0 w1 w2:World}
def fY (o n:List UInt8) (s:RSet):Bool:=decide (s.kind=2) && decide (s.name≠o) && bY n s.name
def gT (o:List UInt8) (l:List RSet) (n:List UInt8):List UInt8 × Bool:=match l.find? (fY o n) with
 | some s=>(s.name,true)
 | none=>([],false)
theorem zI {b:List UInt8 × Bool} {s:RSet} (h:fY o n s=false):mY o n b s=b:=by
 unfold mY;rw [if_neg];rintro ⟨h1,h2,h3,_⟩;simp [fY,h1,h2,h3] at h
theorem GQ {s:RSet} (h:fY o n s=true):mY o n (m,false) s=(s.name,true):=by
 simp only [fY,Bool.and_eq_true,decide_eq_true_eq] at h;unfold mY;rw [if_pos ⟨h.1.1,h.1.2,h.2, .inl rfl⟩]
theorem EE {s:RSet} (h:fY o n s=true→qI m≤qI s.name):mY o n (m,true) s=(m,true):=by
 cases hc:fY o n s with
 | false=>exact zI hc
 | true =>
  have:=h hc;unfold mY;rw [if_neg];rintro ⟨_,_,_,h4⟩;rcases h4 with h4 | h4
  ·cases h4
  ·simp only at h4;omega
theorem CM:∀ {l:List RSet},(∀ t ∈ l,fY o n t=true→qI m≤qI t.name)→l.foldl (mY o n) (m,true)=(m,true)
 | [],_=>rfl
 | t :: l,h=>by
   rw [List.foldl_cons,EE (h t aX),CM fun u hu=>h u (by simp [hu])]
theorem CN:∀ {l:List RSet},l.Pairwise (fun s t=>fY o n s=true→fY o n t=true→qI s.name≤qI t.name)→ED o l n=gT o l n
 | [],_=>rfl
 | t :: l,h=>by
   obtain ⟨h1,h2⟩:=List.pairwise_cons.1 h;unfold ED gT;rw [List.foldl_cons,List.find?_cons];cases hc:fY o n t with
   | true=>simp only [GQ hc];exact CM fun u hu=>h1 u hu hc
   | false=>simp only [zI hc];exact CN h2
theorem wM {a:List (List UInt8)} (h:dZ n=some a):qI n=a.length:=by
 rw [CK] at h;cases hl:aM n with
 | none=>rw [hl] at h;cases h
 | some ls =>
  rw [hl] at h;cases h
  simp [qI,hl]
theorem jH (h:bY n t=true):∃ a b,dZ n=some a∧dZ t=some b∧a.take b.length=b:=by
 unfold bY at h;cases ha:dZ n with
 | none=>rw [ha] at h;cases h
 | some a =>
  cases hb:dZ t with
  | none=>rw [ha,hb] at h;cases h
  | some b =>
   rw [ha,hb] at h;exact ⟨a,b,rfl,rfl,by simpa using h⟩
theorem oD {a b:List (List UInt8)} (ha:dZ n=some a) (hb:dZ t=some b):bY n t=decide (a.take b.length=b):=by
 unfold bY;rw [ha,hb]
theorem wN {α:Type} {a b:List α} (h:a.take b.length=b):b.length≤a.length:=by
 have:=congrArg List.length h;rw [List.length_take] at this;omega
theorem JK {a b c:List (List UInt8)} (hb:a.take b.length=b) (hc:a.take c.length=c) (h:iT b c≤0):b.length≤c.length:=by
 have e:iT b c=if b.length < c.length then -1 else if c.length < b.length then 1 else 0:=by
  rcases Nat.le_total b.length c.length with hl | hl
  ·refine GN (k:=b.length) ?_ (Nat.le_refl _) hl (.inl rfl);rw [List.take_length,← hc,List.take_take,Nat.min_eq_left hl,hb]
  ·refine GN (k:=c.length) ?_ hl (Nat.le_refl _) (.inr rfl);rw [List.take_length,← hb,List.take_take,Nat.min_eq_left hl,hc]
 rw [e] at h;split at h
 ·omega
 ·split at h <;> omega
theorem PS {a b:List UInt8} {j k:Int} (h:eQ a b j k < 0):oX a b≤0:=by
 unfold eQ at h;split at h <;> omega
theorem zJ {l:List RSet} (h:cQ l=0) (n:List UInt8):ED o l n=gT o l n:=by
 refine CN ?_;rw [List.pairwise_iff_getElem];intro i j hi hj hij h1 h2;have hc:=PS (pE h i j hij hj);simp only [fY,Bool.and_eq_true] at h1 h2;obtain ⟨a,b,ha,hb,e1⟩:=jH h1.2;obtain ⟨a',c,ha',hc',e2⟩:=jH h2.2;rw [ha] at ha';cases ha'
 rw [wM hb,wM hc'];refine JK e1 e2 ?_;unfold oX at hc;rw [hb,hc'] at hc;exact hc
theorem mZ:(dZ n).isSome=(aM n).isSome:=by
 rw [CK];cases aM n <;> rfl
theorem zK (h:(aM n).isSome=true):bY n n=true:=by
 rw [← mZ] at h;obtain ⟨a,ha⟩:=Option.isSome_iff_exists.1 h;rw [oD ha ha];simp
theorem GR {a b c:List UInt8} (h:bY a b=true) (k:bY b c=true):bY a c=true:=by
 obtain ⟨x,y,hx,hy,e1⟩:=jH h;obtain ⟨y',z,hy',hz,e2⟩:=jH k;rw [hy] at hy';cases hy'
 have hl:=wN e2;rw [oD hx hz,decide_eq_true_eq];rw [← e1,List.take_take,Nat.min_eq_left hl] at e2;exact e2
theorem tV {a b:List UInt8} (h:bY a b=true):(aM a).isSome=true∧(aM b).isSome=true:=by
 obtain ⟨x,y,hx,hy,_⟩:=jH h;rw [← mZ,← mZ,hx,hy];exact ⟨rfl,rfl⟩
structure ZoneOk (o:List UInt8) (l:List RSet):Prop where
 lab:(aM o).isSome=true
 fold:fold o=o
 chk:cQ l=0
 soa:(cI l o 6).isSome=true
 ns:(cI l o 2).isSome=true
 right:∀ s ∈ l,jG o l s=true
theorem lQ {l:List RSet} (h:cV o l=0):ZoneOk o l:=by
 unfold cV at h;split at h
 ·cases h
 ·rename_i h1;split at h
  ·cases h
  ·rename_i h2;split at h
   ·cases h
   ·rename_i h3;simp only [not_or,ne_eq,Decidable.not_not,Bool.not_eq_false] at h1 h2;refine ⟨?_,h1.2.1,h1.2.2,h2.1,h2.2,fun s hs => ?_⟩
    ·have:=h1.1;unfold eX at this;split at this
     ·assumption
     ·cases this
    ·cases hr:jG o l s with
     | true=>rfl
     | false=>exact absurd (List.any_eq_true.2 ⟨s,hs,by simp [hr]⟩) h3
theorem qJ {l:List RSet} (h:ZoneOk o l):cV o l=0:=by
 obtain ⟨h1,h2,h3,h4,h5,h6⟩:=h;have h7:l.any (fun s => !jG o l s)=false:=by
  rw [List.any_eq_false];intro s hs;simp [h6 s hs]
 unfold cV eX;simp [h1,h2,h3,h4,h5,h7]
theorem GT {l:List RSet} {s:RSet} (h:jG o l s=true):bY s.name o=true:=by
 simp only [jG,Bool.and_eq_true] at h;exact h.1.1.1
theorem ZoneOk.may {l:List RSet} (h:ZoneOk o l) {s:RSet} (hs:s ∈ l):lP s=true:=by
 obtain ⟨i,hi,rfl⟩:=List.getElem_of_mem hs;exact uZ h.chk hi
theorem ZoneOk.small {l:List RSet} (h:ZoneOk o l) {s:RSet} (hs:s ∈ l):X.fold s.name=s.name∧(aM s.name).isSome=true :=
 ⟨GP (h.may hs),(tV (GT (h.right s hs))).1⟩
theorem oE {l:List RSet} {k:Int} {s:RSet} (h:cI l n k=some s):s ∈ l∧s.name=fold n∧s.kind=k:=by
 have h1:=List.mem_of_find?_eq_some h;have h2:=List.find?_some h;simp only [hit,Bool.and_eq_true,decide_eq_true_eq] at h2;exact ⟨h1,h2⟩
theorem ZoneOk.cut {l:List RSet} (h:ZoneOk o l) {c:List UInt8} (hc:ED o l n=(c,true)):bY n c=true∧c≠o∧ED o l c=(c,true):=by
 rw [zJ h.chk,gT] at hc;rw [zJ h.chk,gT];cases hf:l.find? (fY o n) with
 | none=>rw [hf] at hc;cases hc
 | some s =>
  rw [hf] at hc;simp only [Prod.mk.injEq,and_true] at hc;subst hc;obtain ⟨h1,la,lb,h2,h3⟩:=List.find?_eq_some_iff_append.1 hf;have hs:s ∈ l:=by rw [h2];simp
  have h1':=h1;simp only [fY,Bool.and_eq_true,decide_eq_true_eq] at h1';refine ⟨h1'.2,h1'.1.2,?_⟩;have:l.find? (fY o s.name)=some s:=by
   rw [List.find?_eq_some_iff_append];refine ⟨?_,la,lb,h2,fun t ht => ?_⟩
   ·simp only [fY,Bool.and_eq_true,decide_eq_true_eq];exact ⟨h1'.1,zK (h.small hs).2⟩
   ·have hn:=h3 t ht;cases hq:fY o s.name t with
    | false=>rfl
    | true =>
     simp only [fY,Bool.and_eq_true,decide_eq_true_eq] at hq;have:fY o n t=true:=by
      simp only [fY,Bool.and_eq_true,decide_eq_true_eq];exact ⟨hq.1,GR h1'.2 hq.2⟩
     rw [this] at hn;exact hn
  rw [this]
theorem GW (m:List UInt8):Lib.hasSuffix (m ++ [0]) [0]=true∧Lib.trimSuffix (m ++ [0]) [0]=m:=by
 have h:Lib.hasSuffix (m ++ [0]) [0]=true:=by
  unfold Lib.hasSuffix;rw [List.isSuffixOf_iff_suffix];exact List.suffix_append _ _
 refine ⟨h,?_⟩;unfold Lib.trimSuffix;rw [if_pos h];simp
theorem zM (h:jQ s=some m):s=m ++ [0]∧(aM m).isSome=true:=by
 unfold jQ at h;split at h
 ·rename_i hh;obtain ⟨h1,h2⟩:=hh;unfold Lib.hasSuffix at h1;rw [List.isSuffixOf_iff_suffix] at h1;obtain ⟨t,rfl⟩:=h1;obtain ⟨_,h3⟩:=GW t;rw [h3] at h h2;cases h
  exact ⟨rfl,h2⟩
 ·cases h
theorem UD (u v:Value) (a b:List (List UInt8)) (w:World) (hu:Sl 1 w u (aH a)) (hv:Sl 1 w v (aH b)):Calls Tryz.prog 99 #[u,v] w (aY w (.bool (decide (a=b)))):=by
 have hal:=hu.le;have ha:=bU a;have hb:=bU b;go_enter Tryz.func99,Tryz.ntmps99
 (repeat' first | ((with_reducible refine bH ?_);go_step) | ((with_reducible refine aV ?_);first | refine fD ?_ | (refine bO ?_ ?_ <;> intro hc)) | fail)
 ·have hne:=‹(!decide (((aH a).length:Int)=((aH b).length:Int)))=true›;go_ret;refine ⟨?_,Ext.refl _⟩;have:a≠b:=by rintro rfl;simp at hne
  simp [this]
 ·have hne:=‹(!decide (((aH a).length:Int)=((aH b).length:Int)))=false›;have hlen:a.length=b.length:=by simp at hne;omega
  go_loopw [5,13] (fun _ i wr=>∃ k:Nat,k≤a.length∧i=.int .i64 k∧Ext w wr∧a.take k=b.take k) (fun _ i _=>a.length - (intOf i).toNat)
  case atStart=>exact ⟨0,Nat.zero_le _,rfl,Ext.refl _,rfl⟩
  case round =>
   obtain ⟨k,hk,rfl,hx,hall⟩:=hrel;by_cases hlt:k < a.length
   ·have hlt2:k < b.length:=aC;have h1:=(hu.ext hx).elem (nX hlt);have h2:=(hv.ext hx).elem (nX hlt2);have hu2:=hu.ext hx;have hv2:=hv.ext hx;refine_lift IR ?_;intro _ _ _ _ _ _;refine dA (S:=Ext wr) zDk ?_;intro w2 x2 _;refine tk 0 ?_;refine aB ?_;refine tk 1 ?_;refine aB ?_;refine tk 2 ?_;refine aB ?_;refine tk 3 ?_;refine aB ?_;refine tk 4 ?_;refine aB ?_;refine tk 5 ?_;refine aB ?_;refine tk 6 ?_;refine aB ?_;refine tk 7 ?_;refine aB ?_;refine tk 8 ?_;refine aB ?_;refine cP zDk ?_;by_cases he:a[k]=b[k]
    ·have e1:decide (a[k]=b[k])=true:=decide_eq_true he;simp only [e1,Bool.not_true];refine_lift cL ?_;exact ⟨⟨k + 1,aC,by go_num,by exact gU,tQ hall hlt hlt2 he⟩,by simp [intOf];omega⟩
    ·have e1:decide (a[k]=b[k])=false:=decide_eq_false he;simp only [e1,Bool.not_false];refine_lift cL ?_;go_ret;refine ⟨?_,by exact gU⟩;simp [GJ hlt hlt2 he]
   ·have hk2:k=a.length:=aC;subst hk2;refine_lift xQ fun _ => ?_;go_ret;refine ⟨?_,by exact gU⟩;rw [List.take_length,hlen,List.take_length] at hall;simp [hall]
theorem jI (n t:List UInt8) (w:World):Calls Tryz.prog 51 #[aE n,aE t] w (aY w (.bool (bY n t))):=by
 go_enter Tryz.func51,Tryz.ntmps51
 refine_lift fM fun _ _ => ?_;refine gR (Aq n _) fun r1 w1 x1 h1 => ?_;cases ha:dZ n with
 | none =>
  rw [ha] at h1;obtain ⟨s1,rfl⟩:=h1;refine_lift fM fun _ _ => ?_;refine gR (Aq t _) fun r2 w2 x2 h2 => ?_;obtain ⟨s2,b2,rfl⟩:∃ s b,r2=.tuple #[s, .bool b]:=by
   cases hb:dZ t with
   | none=>rw [hb] at h2;obtain ⟨s,rfl⟩:=h2;exact ⟨s,_,rfl⟩
   | some y=>rw [hb] at h2;obtain ⟨s,rfl,_⟩:=h2;exact ⟨s,_,rfl⟩
  refine_lift cL ?_;go_ret;exact ⟨by simp [bY,ha],x1.trans x2⟩
 | some a =>
  rw [ha] at h1;obtain ⟨s1,rfl,hs1,hl1⟩:=h1;refine_lift fM fun _ _ => ?_;refine gR (Aq t _) fun r2 w2 x2 h2 => ?_;cases hb:dZ t with
  | none =>
   rw [hb] at h2;obtain ⟨s2,rfl⟩:=h2;refine_lift cL ?_;go_ret;exact ⟨by simp [bY,ha,hb],x1.trans x2⟩
  | some b =>
   rw [hb] at h2;obtain ⟨s2,rfl,hs2,hl2⟩:=h2;have hs1:=hs1.ext x2;have tl1:=bU a;have tl2:=bU b;refine_lift PH (fun hc => ?_) (fun _ _ hc => ?_)
   ·have hle:b.length≤a.length:=aC;have hcut:=hs1.cut (m:=0) (n:=(aH b).length) (Nat.zero_le _) aC;rw [List.drop_zero] at hcut;have hcut:Sl 1 w2 (dD s1 1 0 (aH b).length) (aH (a.take b.length)):=by
     rw [tl2] at hcut ⊢
     simpa [aH,List.map_take] using hcut
    refine bZ (UD _ _ _ _ _ hcut hs2) fun w3 x3 => ?_;refine_lift cL ?_;go_ret;exact ⟨by rw [oD ha hb];rfl,(x1.trans x2).trans x3⟩
   ·go_ret;refine ⟨?_,x1.trans x2⟩;have hlt:a.length < b.length:=aC;rw [oD ha hb,decide_eq_false (fun h=>by have:=wN h;omega)];rfl
def oF {α:Type} (p:α→Bool) (l:List α):Int:=match l.findIdx? p with
 | some i=>(i:Int)
 | none=>-1
theorem oG {α:Type} (p:α→Bool) (l:List α):(∃ (k:Nat) (hk:k < l.length),oF p l=k∧p l[k]=true∧l.find? p=some l[k])∨(oF p l=-1∧l.any p=false∧l.find? p=none):=by
 unfold oF;cases h:l.findIdx? p with
 | none =>
  rw [List.findIdx?_eq_none_iff] at h;refine .inr ⟨rfl,?_,?_⟩
  ·rw [List.any_eq_false];intro x hx;simp [h x hx]
  ·rw [List.find?_eq_none];intro x hx;simp [h x hx]
 | some k =>
  rw [List.findIdx?_eq_some_iff_getElem] at h;obtain ⟨hk,hp,hj⟩:=h;refine .inl ⟨k,hk,rfl,hp,?_⟩;rw [List.find?_eq_some_iff_getElem];exact ⟨hp,k,hk,rfl,fun j hjk=>by simpa using hj j hjk⟩
theorem vB {α:Type} {p:α→Bool} {l:List α} (hk:k < l.length) (ha:(l.take k).any p=false) (hp:p l[k]=true):oF p l=k:=by
 have:l.findIdx? p=some k:=by
  rw [List.findIdx?_eq_some_iff_getElem];refine ⟨hk,hp,fun j hj => ?_⟩;rw [List.any_eq_false] at ha;exact ha l[j] (by rw [List.mem_take_iff_getElem];exact ⟨j,aC,rfl⟩)
 rw [oF,this]
theorem vD {α:Type} {p:α→Bool} {l:List α} (ha:l.any p=false):oF p l=-1:=by
 have:l.findIdx? p=none:=by
  rw [List.findIdx?_eq_none_iff];intro x hx;rw [List.any_eq_false] at ha
  simpa using ha x hx
 rw [oF,this]
theorem tW {α:Type} (p:α→Bool) (l:List α):decide (0≤oF p l)=l.any p:=by
 rcases oG p l with ⟨k,hk,e,hp,_⟩ | ⟨e,h,_⟩
 ·rw [e,YQ hk hp];simp
 ·rw [e,h];rfl
def SetFn (w:World) (f:FuncId) (caps:Array Value) (l:List RSet) (p:RSet→Bool):Prop :=
 ∀ s ∈ l,∀ x w',Ext w w'→Sl 1 w' x (aH s.data)→Calls Tryz.prog f ([Value.agg #[aE s.name, .int .i64 s.kind, .int .i64 s.ttl,x]].toArray ++ caps) w' (aY w' (.bool (p s)))
theorem SetFn.ext {f:FuncId} {caps:Array Value} {l:List RSet} {p:RSet→Bool} (h:SetFn w f caps l p) (hx:Ext w w1):SetFn w1 f caps l p :=
 fun s hs x w' hx' hd=>h s hs x w' (hx.trans hx') hd
theorem nA (v:Value) (l:List RSet) (f:FuncId) (caps:Array Value) (p:RSet→Bool) (w:World) (hv:SetsAt w v l) (he:Enters Tryz.prog f) (hf:SetFn w f caps l p):Calls Tryz.prog 106 #[v, .func (.func f) #[] caps] w (aY w (.int .i64 (oF p l))):=by
 obtain ⟨cv,hv1,hvl⟩:=hv.sl;have hle:=hv1.le;go_enter Tryz.func106,Tryz.ntmps106
 refine_lift fM fun _ _ => ?_;go_loopw [5,8] (fun _ i wr=>∃ k:Nat,k≤l.length∧i=.int .i64 k∧Ext w wr∧(l.take k).any p=false) (fun _ i _=>l.length - (intOf i).toNat)
 case atStart=>exact ⟨0,Nat.zero_le _,rfl,Ext.refl _,rfl⟩
 case round =>
  obtain ⟨k,hk,rfl,hx,hall⟩:=hrel;have hv2:=hv1.ext hx;by_cases hlt:k < l.length
  ·obtain ⟨x,h4,h4d⟩:=(hv.ext hx).elem (List.getElem?_eq_getElem hlt);refine_lift IR ?_;intro _ _ _ _ _ _;refine dV he rfl rfl rfl (hf _ (List.getElem_mem hlt) x _ hx h4d) ?_;rintro e w2 ⟨rfl,x2⟩;refine ⟨_,rfl,?_⟩;refine aB ?_;cases hp:p l[k] with
   | true =>
    refine_lift cL ?_;go_ret;exact ⟨by rw [vB hlt hall hp];rfl,hx.trans x2⟩
   | false =>
    refine_lift cL ?_;exact ⟨⟨k + 1,aC,by go_num,hx.trans x2,nZ hlt hall hp⟩,by simp [intOf];omega⟩
  ·have:k=l.length:=aC;subst this;rw [List.take_length] at hall;refine_lift xQ fun _ => ?_;go_ret;exact ⟨by rw [vD hall];rfl,hx⟩
theorem mG (v:Value) (l:List RSet) (f:FuncId) (caps:Array Value) (p:RSet→Bool) (w:World) (hv:SetsAt w v l) (he:Enters Tryz.prog f) (hf:SetFn w f caps l p):Calls Tryz.prog 60 #[v, .func (.func f) #[] caps] w (aY w (.bool (l.any p))):=by
 go_enter Tryz.func60,Tryz.ntmps60
 refine_lift fM fun _ _ => ?_;refine bZ (nA v l f caps p _ hv he hf) fun w1 x1 => ?_;refine_lift cL ?_;go_ret;exact ⟨by rw [← tW];rfl,x1⟩
theorem YR (o n:List UInt8) (v pz pn:Value) (s:RSet) (x:Value) (w:World) (hz:Pts w pz [aE o,v]) (hn:Pts w pn [aE n]):Calls Tryz.prog 172 #[.agg #[aE s.name, .int .i64 s.kind, .int .i64 s.ttl,x],pz,pn] w (aY w (.bool (fY o n s))):=by
 go_enter Tryz.func172,Tryz.ntmps172
 refine_lift mO fun _ _ => ?_;refine mW (vs:=[aE s.name, .int .i64 s.kind, .int .i64 s.ttl,x]) fun p w1 x1 hp => ?_;refine aB ?_;have hz1:=hz.ext x1;have hn1:=hn.ext x1;refine_lift WP (fun hc hc => ?_) (fun hc => ?_) (fun _ _ hc hc => ?_)
 ·have hk:=‹s.kind=2›;have hne:=‹(!decide (s.name=o))=true›;refine bZ (jI n s.name _) fun w2 x2 => ?_;refine_lift cL ?_;go_ret;refine ⟨?_,x1.trans x2⟩;have hne':s.name≠o:=by simpa using hne
  simp [fY,hk,hne']
 all_goals
  go_ret;refine ⟨?_,x1⟩;simp_all [fY]
theorem WT (o:List UInt8) (v:Value) (l:List RSet) (n:List UInt8) (w:World) (hv:SetsAt w v l):Calls Tryz.prog 123 #[.agg #[aE o,v],aE n] w (aY w (.tuple #[aE (gT o l n).1, .bool (gT o l n).2])):=by
 obtain ⟨cv,hv1,hvl⟩:=hv.sl;go_enter Tryz.func123,Tryz.ntmps123
 refine_lift mO fun _ _ => ?_;refine mW (vs:=[aE o,v]) fun pz w1 x1 hz => ?_;refine aB ?_;refine_lift WM ?_;refine mW (vs:=[aE n]) fun pn w2 x2 hn => ?_;refine aB ?_;have hx2:=x1.trans x2;have hz2:=hz.ext x2;refine_lift fM fun _ _ => ?_;have hf:SetFn w2 172 #[pz,pn] l (fY o n):=fun s _ x w' hx' _=>YR o n v pz pn s x w' (hz2.ext hx') (hn.ext hx');refine bZ (nA v l 172 #[pz,pn] (fY o n) _ (hv.ext hx2) (enters_of Tryz.func172 rfl rfl) hf) fun w3 x3 => ?_;have hx3:=hx2.trans x3;have hz3:=hz2.ext x3;rcases oG (fY o n) l with ⟨k,hk,e,hp,hfi⟩ | ⟨e,h,hfi⟩
 ·rw [e];obtain ⟨x,h4,h4d⟩:=(hv.ext hx3).elem (List.getElem?_eq_getElem hk);have hv3:=hv1.ext hx3;refine_lift xQ fun _ => ?_;go_ret2;exact ⟨by simp only [gT,hfi];rfl,hx3⟩
 ·rw [e];refine_lift xQ fun _ => ?_;go_ret2;exact ⟨by simp only [gT,hfi];rfl,hx3⟩
def Rule (w:World) (f:Value) (b:Bool):Prop:=∃ (g:FuncId) (caps:Array Value),f=.func (.func g) #[] caps∧Enters Tryz.prog g∧∀ w',Ext w w'→Calls Tryz.prog g (([]:List Value).toArray ++ caps) w' (aY w' (.bool b))
theorem PT (o:List UInt8) (v ps pz:Value) (s:RSet) (u:Value) (w:World) (hs:Pts w ps [aE s.name, .int .i64 s.kind, .int .i64 s.ttl,u]) (hz:Pts w pz [aE o,v]):Calls Tryz.prog 118 #[ps,pz] w (aY w (.bool (bY s.name o))):=by
 go_enter Tryz.func118,Tryz.ntmps118
 refine_lift fM fun _ _ => ?_;refine bZ (jI s.name o _) fun w1 x1 => ?_;refine_lift cL ?_;go_ret;exact ⟨rfl,x1⟩
def GX (o:List UInt8) (s:RSet) (one:Bool):Bool:=decide (s.kind≠6) || (decide (s.name=o) && one)
theorem PU (o:List UInt8) (v ps pz pb:Value) (s:RSet) (u:Value) (one:Bool) (w:World) (hs:Pts w ps [aE s.name, .int .i64 s.kind, .int .i64 s.ttl,u]) (hz:Pts w pz [aE o,v]) (hb:Pts w pb [.bool one]):Calls Tryz.prog 119 #[ps,pz,pb] w (aY w (.bool (GX o s one))):=by
 go_enter Tryz.func119,Tryz.ntmps119
 refine_lift WO (fun hc hc => ?_) (fun hc => ?_) (fun hc hc => ?_)
 all_goals
  go_ret;refine ⟨?_,Ext.refl _⟩;simp_all [GX]
theorem NA (ps:Value) (s t:RSet) (u x:Value) (w:World) (hs:Pts w ps [aE s.name, .int .i64 s.kind, .int .i64 s.ttl,u]):Calls Tryz.prog 121 #[.agg #[aE t.name, .int .i64 t.kind, .int .i64 t.ttl,x],ps] w (aY w (.bool (zG s t))):=by
 go_enter Tryz.func121,Tryz.ntmps121
 refine_lift mO fun _ _ => ?_;refine mW (vs:=[aE t.name, .int .i64 t.kind, .int .i64 t.ttl,x]) fun p w1 x1 hp => ?_;refine aB ?_;have hs1:=hs.ext x1;refine_lift JA (fun hc => ?_) (fun hc => ?_)
 all_goals
  go_ret;refine ⟨?_,x1⟩;simp_all [zG]
def zN (l:List RSet) (s:RSet) (one:Bool):Bool:=decide (s.kind≠5) || (one && !l.any (zG s))
theorem PV (o:List UInt8) (v ps pz pb:Value) (l:List RSet) (s:RSet) (u:Value) (one:Bool) (w:World) (hs:Pts w ps [aE s.name, .int .i64 s.kind, .int .i64 s.ttl,u]) (hz:Pts w pz [aE o,v]) (hb:Pts w pb [.bool one]) (hv:SetsAt w v l):Calls Tryz.prog 120 #[ps,pb,pz] w (aY w (.bool (zN l s one))):=by
 have hf:SetFn w 121 #[ps] l (zG s):=fun t _ x w' hx' _=>NA ps s t u x w' (hs.ext hx');go_enter Tryz.func120,Tryz.ntmps120
 cases one with
 | false =>
  refine_lift JA (fun hc => ?_) (fun hc => ?_)
  all_goals
   go_ret;refine ⟨?_,Ext.refl _⟩;simp_all [zN]
 | true =>
  refine_lift PH (fun hc => ?_) (fun _ _ hc => ?_)
  ·have h5:s.kind=5:=by simpa using (by assumption:(!decide (s.kind=5))=false)
   refine bZ (mG v l 121 #[ps] (zG s) _ hv (enters_of Tryz.func121 rfl rfl) hf) fun w1 x1 => ?_;refine_lift cL ?_;go_ret;exact ⟨by simp [zN,h5],x1⟩
  all_goals
   go_ret;refine ⟨?_,Ext.refl _⟩;simp_all [zN]
def wO (o:List UInt8) (l:List RSet) (s:RSet):Bool :=
 !(gT o l s.name).2 || decide (s.kind=1) || decide (s.kind=28) || (decide (s.kind=2) && decide (s.name=(gT o l s.name).1))
theorem PW (o:List UInt8) (v ps pz:Value) (l:List RSet) (s:RSet) (u:Value) (w:World) (hs:Pts w ps [aE s.name, .int .i64 s.kind, .int .i64 s.ttl,u]) (hz:Pts w pz [aE o,v]) (hv:SetsAt w v l):Calls Tryz.prog 122 #[pz,ps] w (aY w (.bool (wO o l s))):=by
 go_enter Tryz.func122,Tryz.ntmps122
 refine_lift fM fun _ _ => ?_;refine bZ (WT o v l s.name _ hv) fun w1 x1 => ?_;generalize hcut:gT o l s.name=g at *;obtain ⟨c,is⟩:=g;have hs1:=hs.ext x1;cases is with
 | false =>
  refine_lift cL ?_;go_ret;exact ⟨by simp [wO,hcut],x1⟩
 | true =>
  (repeat' first | ((with_reducible refine bH ?_);go_step) | ((with_reducible refine aV ?_);first | refine fD ?_ | (refine bO ?_ ?_ <;> intro hc)) | fail)
  all_goals
   go_ret;refine ⟨?_,x1⟩;simp_all [wO]
theorem PX (f:Value) (b:Bool) (w:World) (hf:Rule w f b):Calls Tryz.prog 125 #[f] w (aY w (.bool (!b))):=by
 obtain ⟨g,caps,rfl,he,hc⟩:=hf;go_enter Tryz.func125,Tryz.ntmps125
 refine_lift fM fun _ _ => ?_;refine dV he rfl rfl rfl (hc _ (Ext.refl _)) ?_;rintro e w1 ⟨rfl,x1⟩;refine ⟨_,rfl,?_⟩;refine aB ?_;refine_lift cL ?_;go_ret;exact ⟨rfl,x1⟩
theorem Rule.ext {f:Value} {b:Bool} (h:Rule w f b) (hx:Ext w w'):Rule w' f b:=by
 obtain ⟨g,caps,h1,h2,h3⟩:=h;exact ⟨g,caps,h1,h2,fun w2 hx2=>h3 w2 (hx.trans hx2)⟩
def sR (l:List (Value × Bool)):List (List Value):=l.map fun x=>[x.1]
theorem BA (l:List (Value × Bool)):(sR l).length=l.length:=by simp [sR]
theorem NB {l:List (Value × Bool)} (h:k < l.length):(sR l)[k]? = some [l[k].1]:=by simp [sR,h]
def NC (x:Value × Bool):Bool := !x.2
theorem GY (v:Value) (l:List (Value × Bool)) (w:World) (hv:Sl 1 w v (sR l)) (hf:∀ x ∈ l,Rule w x.1 x.2):Calls Tryz.prog 173 #[v, .func (.func 125) #[] #[]] w (aY w (.int .i64 (oF NC l))):=by
 have hle:=hv.le;have hlen:=BA l;go_enter Tryz.func173,Tryz.ntmps173
 refine_lift fM fun _ _ => ?_;go_loopw [5,8] (fun _ i wr=>∃ k:Nat,k≤l.length∧i=.int .i64 k∧Ext w wr∧(l.take k).any NC=false) (fun _ i _=>l.length - (intOf i).toNat)
 case atStart=>exact ⟨0,Nat.zero_le _,rfl,Ext.refl _,rfl⟩
 case round =>
  obtain ⟨k,hk,rfl,hx,hall⟩:=hrel;have hv2:=hv.ext hx;by_cases hlt:k < l.length
  ·have hp:=hv2.elem (NB hlt);refine_lift IR ?_;intro _ _ _ _ _ _;refine dV (f:=125) (caps:=#[]) (enters_of Tryz.func125 rfl rfl) rfl rfl rfl (PX l[k].1 l[k].2 _ ((hf _ (List.getElem_mem hlt)).ext hx)) ?_;rintro e w2 ⟨rfl,x2⟩;refine ⟨_,rfl,?_⟩;refine aB ?_;cases hb:l[k].2 with
   | false =>
    refine_lift xQ fun _ => ?_;go_ret;exact ⟨by rw [vB hlt hall (by simp [NC,hb])];rfl,hx.trans x2⟩
   | true =>
    refine_lift xQ fun _ => ?_;exact ⟨⟨k + 1,aC,by go_num,hx.trans x2,nZ hlt hall (by simp [NC,hb])⟩,by simp [intOf];omega⟩
  ·have:k=l.length:=aC;subst this;rw [List.take_length] at hall;refine_lift xQ fun _ => ?_;go_ret;exact ⟨by rw [vD hall];rfl,hx⟩
theorem zO (v:Value) (l:List (Value × Bool)) (w:World) (hv:Sl 1 w v (sR l)) (hf:∀ x ∈ l,Rule w x.1 x.2):Calls Tryz.prog 124 #[v, .func (.func 125) #[] #[]] w (aY w (.bool (l.any NC))):=by
 go_enter Tryz.func124,Tryz.ntmps124
 refine_lift fM fun _ _ => ?_;refine bZ (GY v l _ hv hf) fun w1 x1 => ?_;refine_lift cL ?_;go_ret;exact ⟨by rw [← tW];rfl,x1⟩
theorem UE (o:List UInt8) (v:Value) (l:List RSet) (s:RSet) (u:Value) (w:World) (hv:SetsAt w v l) (hu:Sl 1 w u (aH s.data)) (hck:cQ l=0):Calls Tryz.prog 62 #[.agg #[aE o,v], .agg #[aE s.name, .int .i64 s.kind, .int .i64 s.ttl,u]] w (aY w (.bool (jG o l s))):=by
 have hlen:=bU s.data;go_enter Tryz.func62,Tryz.ntmps62
 refine_lift mO fun _ _ => ?_;refine mW (vs:=[aE o,v]) fun pz w1 x1 hz => ?_;refine aB ?_;refine_lift WM ?_;refine mW (vs:=[aE s.name, .int .i64 s.kind, .int .i64 s.ttl,u]) fun ps w2 x2 hs => ?_;refine aB ?_;have hz2:=hz.ext x2;have hx2:=x1.trans x2;have hu2:=hu.ext hx2;refine_lift fM fun _ _ => ?_;refine dT (z:=[.bool false]) fun w3 x3 s3 h3 => ?_;refine aB ?_;have hone:decide (((aH s.data).length:Int)=1)=decide (s.data.length=1):=by rw [hlen,Bool.eq_iff_iff];simp;omega
 rw [hone];refine dY (v:=.bool (decide (s.data.length=1))) rfl rfl rfl h3 zDk rfl ?_;intro w4 p4;have x4:=cB x3 p4;have hb4:=aA (cs:=[.bool (decide (s.data.length=1))]) p4.this;have hz4:=hz2.ext x4;have hs4:=hs.ext x4;have hx4:=hx2.trans x4;have hv4:=hv.ext hx4;clear p4 h3 x3;generalize hpb:Value.pointer (some ⟨w2.heap.size,0,none⟩)=pb at *;refine_lift fM fun _ _ => ?_;have r1:Rule w4 (.func (.func 118) #[] #[ps,pz]) (bY s.name o):=⟨118,_,rfl,enters_of Tryz.func118 rfl rfl,fun w' hx'=>PT o v ps pz s u w' (hs4.ext hx') (hz4.ext hx')⟩;have r2:Rule w4 (.func (.func 119) #[] #[ps,pz,pb]) (GX o s (decide (s.data.length=1))):=⟨119,_,rfl,enters_of Tryz.func119 rfl rfl,fun w' hx'=>PU o v ps pz pb s u _ w' (hs4.ext hx') (hz4.ext hx') (hb4.ext hx')⟩;have r3:Rule w4 (.func (.func 120) #[] #[ps,pb,pz]) (zN l s (decide (s.data.length=1))):=⟨120,_,rfl,enters_of Tryz.func120 rfl rfl,fun w' hx'=>PV o v ps pz pb l s u _ w' (hs4.ext hx') (hz4.ext hx') (hb4.ext hx') (hv4.ext hx')⟩;have r4:Rule w4 (.func (.func 122) #[] #[pz,ps]) (wO o l s):=⟨122,_,rfl,enters_of Tryz.func122 rfl rfl,fun w' hx'=>PW o v ps pz l s u w' (hs4.ext hx') (hz4.ext hx') (hv4.ext hx')⟩;refine oN (e:=27) (k:=1) (bytes:=8) (xs:=[.func (.func 118) #[] #[ps,pz], .func (.func 119) #[] #[ps,pz,pb], .func (.func 120) #[] #[ps,pb,pz], .func (.func 122) #[] #[pz,ps]]) (by simp [Value.cells]) fun v5 w5 x5 _ sl5 _ => ?_;refine aB ?_;have sl5:Sl 1 w5 v5 (sR [(.func (.func 118) #[] #[ps,pz],bY s.name o),(.func (.func 119) #[] #[ps,pz,pb],GX o s (decide (s.data.length=1))),(.func (.func 120) #[] #[ps,pb,pz],zN l s (decide (s.data.length=1))),(.func (.func 122) #[] #[pz,ps],wO o l s)]):=sl5;refine_lift fM fun _ _ => ?_;refine bZ (zO v5 _ _ sl5 (by
  intro x hx;simp only [List.mem_cons,List.not_mem_nil,or_false] at hx;rcases hx with rfl | rfl | rfl | rfl
  ·exact r1.ext x5
  ·exact r2.ext x5
  ·exact r3.ext x5
  ·exact r4.ext x5)) fun w6 x6 => ?_
 refine_lift cL ?_;go_ret;refine ⟨?_,(hx4.trans x5).trans x6⟩
 congr 2
 have h4:PQ o l s=wO o l s:=by rw [PQ,wO,zJ hck]
 simp only [jG,h4,List.any_cons,List.any_nil,NC,GX,zN,Bool.or_false];cases bY s.name o <;> cases wO o l s <;> simp <;> by_cases a6:s.kind=6 <;> by_cases a5:s.kind=5 <;> by_cases an:s.name=o <;> by_cases a1:s.data.length=1 <;> cases l.any (zG s) <;> simp_all
def fH:RSet:=⟨[],0,0,[]⟩
theorem tX {o:Option RSet} (h:match o with
 | some s=>∃ x,r=.tuple #[.agg #[aE s.name, .int .i64 s.kind, .int .i64 s.ttl,x], .bool true]∧Own w.heap.size 1 9 w' x (aH s.data)
 | none=>r=.tuple #[.agg gS.toArray, .bool false]):∃ x,r=.tuple #[.agg #[aE (o.getD fH).name, .int .i64 (o.getD fH).kind, .int .i64 (o.getD fH).ttl,x], .bool o.isSome]∧Sl 1 w' x (aH (o.getD fH).data):=by
 cases o with
 | none=>exact ⟨.slice none 0 0,h,Sl.nil _ _⟩
 | some s=>obtain ⟨x,h1,h2⟩:=h;exact ⟨x,h1,h2.sl⟩
theorem PY (o:List UInt8) (v pz:Value) (l:List RSet) (s:RSet) (u:Value) (w:World) (hz:Pts w pz [aE o,v]) (hv:SetsAt w v l) (hu:Sl 1 w u (aH s.data)) (hck:cQ l=0):Calls Tryz.prog 61 #[.agg #[aE s.name, .int .i64 s.kind, .int .i64 s.ttl,u],pz] w (aY w (.bool (!jG o l s))):=by
 go_enter Tryz.func61,Tryz.ntmps61
 repeat' (first | ((with_reducible refine bH ?_);go_step) | fail)
 refine mW (vs:=[aE s.name, .int .i64 s.kind, .int .i64 s.ttl,u]) fun ps w1 x1 hs => ?_;refine aB ?_;have hz1:=hz.ext x1
 (repeat' first | ((with_reducible refine bH ?_);go_step) | ((with_reducible refine aV ?_);first | refine fD ?_ | (refine bO ?_ ?_ <;> intro hc)) | fail)
 refine bT (enters_of Tryz.func62 rfl rfl) rfl rfl (UE o v l s u _ (hv.ext x1) (hu.ext x1) hck) ?_;intro w2 x2;refine aB ?_
 (repeat' first | ((with_reducible refine bH ?_);go_step) | ((with_reducible refine aV ?_);first | refine fD ?_ | (refine bO ?_ ?_ <;> intro hc)) | fail)
 go_ret;exact ⟨rfl,x1.trans x2⟩
theorem tZ (o:List UInt8) (v:Value) (l:List RSet) (w:World) (hv:SetsAt w v l) (hb:∀ s ∈ l,s.data.length≤1000000):Calls Tryz.prog 32 #[.agg #[aE o,v]] w (aY w (.int .i64 (cV o l))):=by
 obtain ⟨cv,hv1,hvl⟩:=hv.sl;have hle:=hv1.le;have hb':∀ s ∈ l,s.data.length≤8796093022208:=fun s hs=>by have:=hb s hs;omega
 go_enter Tryz.func32,Tryz.ntmps32
 repeat' (first | ((with_reducible refine bH ?_);go_step) | fail)
 refine mW (vs:=[aE o,v]) fun p w1 x1 hp => ?_;refine aB ?_
 (repeat' first | ((with_reducible refine bH ?_);go_step) | ((with_reducible refine aV ?_);first | refine fD ?_ | (refine bO ?_ ?_ <;> intro hc)) | fail)
 have c1:∀ w',Calls Tryz.prog 52 #[aE o] w' (aY w' (.int .i64 (eX o))):=fun w'=>OR o w';have hv2:=hv.ext x1;have c3:∀ w',Ext w1 w'→Calls Tryz.prog 58 #[v] w' (aY w' (.int .i64 (cQ l))):=fun w' x'=>Ew v l w' (hv2.ext x');refine cY zDk zDk ?_
 (try ((with_reducible refine DX ?_);refine TM ?_))
 refine gX (enters_of Tryz.func52 rfl rfl) rfl rfl (fun w' _=>c1 w') ?_;refine aB ?_
 (try ((with_reducible refine DX ?_);refine TM ?_))
 by_cases q1:eX o=0
 ·rw [decide_eq_true q1];simp only [Bool.not_true]
  (try ((with_reducible refine DX ?_);refine TM ?_))
  refine gX (enters_of Tryz.func53 rfl rfl) rfl rfl (fun w' _=>uX o w') ?_;refine aB ?_
  (try ((with_reducible refine DX ?_);refine TM ?_))
  by_cases q2:fold o=o
  ·rw [decide_eq_true q2];simp only [Bool.not_true]
   (try ((with_reducible refine DX ?_);refine TM ?_))
   refine gX (enters_of Tryz.func58 rfl rfl) rfl rfl (fun w' x'=>c3 w' x') ?_;refine aB ?_
   (try ((with_reducible refine DX ?_);refine TM ?_))
   intro w2 x2;by_cases q3:cQ l=0
   ·rw [decide_eq_true q3];simp only [Bool.not_true];have hx2:=x1.trans x2;have hp2:=hp.ext x2;have hs2:=hv.ext hx2
    (repeat' first | ((with_reducible refine bH ?_);go_step) | ((with_reducible refine aV ?_);first | refine fD ?_ | (refine bO ?_ ?_ <;> intro hc)) | fail)
    refine gE (enters_of Tryz.func59 rfl rfl) rfl rfl (Ar v l o 6 _ hs2 hb') ?_;intro r3 w3 x3 hr3;obtain ⟨y3,rfl,hy3⟩:=tX hr3;clear hr3
    (repeat' first | ((with_reducible refine bH ?_);go_step) | ((with_reducible refine aV ?_);first | refine fD ?_ | (refine bO ?_ ?_ <;> intro hc)) | fail)
    refine dT (z:=gS) fun w4 x4 s4 h4 => ?_;refine aB ?_;refine dH h4 (gB rfl rfl rfl (hy3.one)) fun w5 p5 => ?_;have x5:=cB x4 p5;have hx5:=hx2.trans (x3.trans x5);have hp5:=hp.ext (x2.trans (x3.trans x5));have hs5:=hv.ext hx5;clear p5 h4 x4
    (repeat' first | ((with_reducible refine bH ?_);go_step) | ((with_reducible refine aV ?_);first | refine fD ?_ | (refine bO ?_ ?_ <;> intro hc)) | fail)
    refine gE (enters_of Tryz.func59 rfl rfl) rfl rfl (Ar v l o 2 _ hs5 hb') ?_;intro r6 w6 x6 hr6;obtain ⟨y6,rfl,hy6⟩:=tX hr6;clear hr6
    (repeat' first | ((with_reducible refine bH ?_);go_step) | ((with_reducible refine aV ?_);first | refine fD ?_ | (refine bO ?_ ?_ <;> intro hc)) | fail)
    refine dT (z:=gS) fun w7 x7 s7 h7 => ?_;refine aB ?_;refine dH h7 (gB rfl rfl rfl (hy6.one)) fun w8 p8 => ?_;have x8:=cB x7 p8;have hx8:=hx5.trans (x6.trans x8);have hp8:=hp5.ext (x6.trans x8);have hs8:=hv.ext hx8;clear p8 h7 x7;cases f6:(cI l o 6).isSome with
    | false =>
     (repeat' first | ((with_reducible refine bH ?_);go_step) | ((with_reducible refine aV ?_);first | refine fD ?_ | (refine bO ?_ ?_ <;> intro hc)) | fail)
     go_ret;exact ⟨by rw [show cV o l=2 by simp [cV,q1,q2,q3,f6]];rfl,hx8⟩
    | true =>
     cases f2:(cI l o 2).isSome with
     | false =>
      (repeat' first | ((with_reducible refine bH ?_);go_step) | ((with_reducible refine aV ?_);first | refine fD ?_ | (refine bO ?_ ?_ <;> intro hc)) | fail)
      go_ret;exact ⟨by rw [show cV o l=2 by simp [cV,q1,q2,q3,f6,f2]];rfl,hx8⟩
     | true =>
      (repeat' first | ((with_reducible refine bH ?_);go_step) | ((with_reducible refine aV ?_);first | refine fD ?_ | (refine bO ?_ ?_ <;> intro hc)) | fail)
      have hf:SetFn w8 61 #[p] l (fun s => !jG o l s):=fun s _ x w' hx' hd'=>PY o v p l s x w' (hp8.ext hx') (hs8.ext hx') hd' q3;refine bT (enters_of Tryz.func60 rfl rfl) rfl rfl (mG v l 61 #[p] (fun s => !jG o l s) _ hs8 (enters_of Tryz.func61 rfl rfl) hf) ?_;intro w9 x9;refine aB ?_;cases ha:l.any (fun s => !jG o l s) with
      | true =>
       (repeat' first | ((with_reducible refine bH ?_);go_step) | ((with_reducible refine aV ?_);first | refine fD ?_ | (refine bO ?_ ?_ <;> intro hc)) | fail)
       go_ret;exact ⟨by rw [show cV o l=2 by simp only [cV,q1,q2,q3,f6,f2,ha];simp];rfl,hx8.trans x9⟩
      | false =>
       (repeat' first | ((with_reducible refine bH ?_);go_step) | ((with_reducible refine aV ?_);first | refine fD ?_ | (refine bO ?_ ?_ <;> intro hc)) | fail)
       go_ret;exact ⟨by rw [show cV o l=0 by simp only [cV,q1,q2,q3,f6,f2,ha];simp];rfl,hx8.trans x9⟩
   ·rw [decide_eq_false q3];simp only [Bool.not_false]
    (repeat' first | ((with_reducible refine bH ?_);go_step) | ((with_reducible refine aV ?_);first | refine fD ?_ | (refine bO ?_ ?_ <;> intro hc)) | fail)
    go_ret;exact ⟨by rw [show cV o l=1 by simp [cV,q3]];rfl,x1.trans x2⟩
  ·rw [decide_eq_false q2];simp only [Bool.not_false]
   (try ((with_reducible refine DX ?_);refine TM ?_))
   intro w2 x2
   (repeat' first | ((with_reducible refine bH ?_);go_step) | ((with_reducible refine aV ?_);first | refine fD ?_ | (refine bO ?_ ?_ <;> intro hc)) | fail)
   go_ret;exact ⟨by rw [show cV o l=1 by simp [cV,q2]];rfl,x1.trans x2⟩
 ·rw [decide_eq_false q1];simp only [Bool.not_false]
  (try ((with_reducible refine DX ?_);refine TM ?_))
  intro w2 x2
  (repeat' first | ((with_reducible refine bH ?_);go_step) | ((with_reducible refine aV ?_);first | refine fD ?_ | (refine bO ?_ ?_ <;> intro hc)) | fail)
  go_ret;exact ⟨by rw [show cV o l=1 by simp [cV,q1]];rfl,x1.trans x2⟩
theorem Bl (o:List UInt8) (v:Value) (l:List RSet) (n:List UInt8) (w:World) (hv:SetsAt w v l) (hb:∀ s ∈ l,s.data.length≤1000000):Calls Tryz.prog 102 #[.agg #[aE o,v],aE n] w (aY w (.tuple (if cV o l=0 then #[aE (ED o l n).1, .bool (ED o l n).2] else #[aE [], .bool false]))):=by
 go_enter Tryz.func102,Tryz.ntmps102
 repeat' (first | ((with_reducible refine bH ?_);go_step) | fail)
 refine mW (vs:=[aE o,v]) fun p w1 x1 hp => ?_;refine aB ?_;have hv1:=hv.ext x1
 (repeat' first | ((with_reducible refine bH ?_);go_step) | ((with_reducible refine aV ?_);first | refine fD ?_ | (refine bO ?_ ?_ <;> intro hc)) | fail)
 refine bT (enters_of Tryz.func32 rfl rfl) rfl rfl (tZ o v l _ hv1 hb) ?_;intro w2 x2;refine aB ?_;have hx2:=x1.trans x2;have hp2:=hp.ext x2;have hv2:=hv1.ext x2
 (repeat' first | ((with_reducible refine bH ?_);go_step) | ((with_reducible refine aV ?_);first | refine fD ?_ | (refine bO ?_ ?_ <;> intro hc)) | fail)
 ·rename_i q;have q':¬ cV o l=0:=by simpa using q
  go_ret2;exact ⟨by rw [if_neg q'];rfl,hx2⟩
 ·have q':cV o l=0:=by simpa using (by assumption:(!decide (cV o l=0))=false)
  refine bT (enters_of Tryz.func123 rfl rfl) rfl rfl (WT o v l n _ hv2) ?_;intro w3 x3;refine aB ?_
  (repeat' first | ((with_reducible refine bH ?_);go_step) | ((with_reducible refine aV ?_);first | refine fD ?_ | (refine bO ?_ ?_ <;> intro hc)) | fail)
  go_ret2;exact ⟨by rw [if_pos q',zJ (lQ q').chk];rfl,hx2.trans x3⟩
theorem JL {s:RSet} (h:lP s=true) (hi:i < s.data.length):bF ⟨s.name,s.kind,s.ttl,s.data[i]⟩=0:=by
 simp only [lP,Bool.and_eq_true,List.all_eq_true] at h;have:=h.2 i (by simpa using hi);simp only [qH,Bool.not_eq_true',Bool.or_eq_false_iff,decide_eq_false_iff_not,ne_eq,Decidable.not_not] at this;have e:s.data.getD i []=s.data[i]:=by simp [hi]
 rw [e] at this;exact this.1
theorem qK {r:Rec} (h:bF r=0):r.data.length≤4000∧fits r.kind r.data=true:=by
 unfold bF at h;split at h
 ·omega
 ·split at h
  ·omega
  ·rename_i h2;simp only [not_or,Bool.not_eq_false] at h2;exact ⟨aC,h2.2.2.2.2.2⟩
def zR:SoaR:=⟨[],[],0,0,0,0,0⟩
theorem PZ:zR.cells=dE:=rfl
def pX (o:List UInt8) (l:List RSet):List UInt8:=((cI l o 6).getD fH).data.getD 0 []
def fN (o:List UInt8) (l:List RSet):SoaR:=if cV o l=0 then fX (pX o l) else zR
theorem JM (h:(dK d).isSome=true):dK d=some (fX d):=by
 unfold dK at *;simp only at *;split at h
 ·rename_i h1;rw [if_pos h1]
 ·cases h
theorem ZoneOk.soaSet {l:List RSet} (h:ZoneOk o l):∃ s,cI l o 6=some s∧s ∈ l∧s.name=o∧s.kind=6∧s.data=[pX o l]∧dK (pX o l)=some (fX (pX o l))∧(pX o l).length≤4000:=by
 obtain ⟨s,hs⟩:=Option.isSome_iff_exists.1 h.soa;obtain ⟨h1,h2,h3⟩:=oE hs;have hr:=h.right s h1;have hm:=h.may h1;have hl:s.data.length=1:=by
  simp only [jG,Bool.and_eq_true,Bool.not_eq_true',h3] at hr;have:=hr.1.1.2;simp only [decide_true,Bool.true_and,Bool.or_eq_false_iff,decide_eq_false_iff_not,ne_eq,Decidable.not_not] at this;exact this.2
 have hd:s.data=[pX o l]:=by
  have e:pX o l=s.data.getD 0 []:=by rw [pX,hs];rfl
  rw [e]
  match s.data,hl with
  | [d],_=>rfl
 have hc:=JL hm (i:=0) aC;obtain ⟨c1,c2⟩:=qK hc;have e0:s.data[0]'(aC)=pX o l:=by simp [hd]
 simp only [e0,h3] at c1 c2;refine ⟨s,hs,h1,by rw [h2,h.fold],h3,hd,JM ?_,c1⟩
 simpa [fits] using c2
theorem zP (s:SoaR):(Value.agg s.cells.toArray).cells.all (·.oneCell')=true:=by
 simp [SoaR.cells,Value.cells,Value.oneCell',aE]
theorem Bm (o:List UInt8) (v:Value) (l:List RSet) (w:World) (hv:SetsAt w v l) (hb:∀ s ∈ l,s.data.length≤1000000) (hd:∀ s ∈ l,∀ d ∈ s.data,d.length≤4611686018427387904):Calls Tryz.prog 205 #[.agg #[aE o,v]] w (aY w (.tuple #[.agg (fN o l).cells.toArray, .int .i64 (cV o l)])):=by
 go_enter Tryz.func205,Tryz.ntmps205
 repeat' (first | ((with_reducible refine bH ?_);go_step) | fail)
 refine mW (vs:=[aE o,v]) fun p w1 x1 hp => ?_;refine aB ?_;refine dT (z:=dE) fun w2 x2 s2 h2 => ?_;refine aB ?_;have hx2:=x1.trans x2;have hp2:=hp.ext x2;have hv2:=hv.ext hx2
 (repeat' first | ((with_reducible refine bH ?_);go_step) | ((with_reducible refine aV ?_);first | refine fD ?_ | (refine bO ?_ ?_ <;> intro hc)) | fail)
 refine bT (enters_of Tryz.func32 rfl rfl) rfl rfl (tZ o v l _ hv2 hb) ?_;intro w3 x3;refine aB ?_;have hx3:=hx2.trans x3;have hp3:=hp2.ext x3;have hv3:=hv2.ext x3;have h3:=x3.at h2
 (repeat' first | ((with_reducible refine bH ?_);go_step) | ((with_reducible refine aV ?_);first | refine fD ?_ | (refine bO ?_ ?_ <;> intro hc)) | fail)
 ·have q:¬ cV o l=0:=by simpa using (by assumption:(!decide (cV o l=0))=true)
  refine cE (v:=.agg dE.toArray) rfl (Runs.build0 (by kernel_rfl)) ?_;refine aB ?_
  (repeat' first | ((with_reducible refine bH ?_);go_step) | ((with_reducible refine aV ?_);first | refine fD ?_ | (refine bO ?_ ?_ <;> intro hc)) | fail)
  refine dH (v:=.agg dE.toArray) h3 zDk fun w4 p4 => ?_;have x4:=cB hx3 p4
  (repeat' first | ((with_reducible refine bH ?_);go_step) | ((with_reducible refine aV ?_);first | refine fD ?_ | (refine bO ?_ ?_ <;> intro hc)) | fail)
  refine tN (cs:=dE) p4.this ⟨?_,x4⟩;rw [show fN o l=zR by rw [fN,if_neg q],PZ];rfl
 ·have q:cV o l=0:=by simpa using (by assumption:(!decide (cV o l=0))=false)
  obtain ⟨s,hf,hs,hn,hk,hdat,hpar,hlen⟩:=(lQ q).soaSet;have hZ:fN o l=fX (pX o l):=by rw [fN,if_pos q]
  have hP:∀ w',Calls Tryz.prog 135 #[aE (pX o l)] w' (aY w' (.tuple #[.agg (fX (pX o l)).cells.toArray, .int .i64 0])):=fun w'=>by
   have:=Dt (pX o l) w' aC;rw [hpar] at this;exact this
  clear hpar;generalize pX o l=dd at *;generalize hgen:fX dd=ss at *;refine gE (enters_of Tryz.func59 rfl rfl) rfl rfl (Ar v l o 6 _ hv3 (fun s hs=>by have:=hb s hs;omega)) ?_;intro r4 w4 x4 hr4;rw [hf] at hr4;obtain ⟨y,rfl,oy⟩:=hr4;have hx4:=hx3.trans x4
  (repeat' first | ((with_reducible refine bH ?_);go_step) | ((with_reducible refine aV ?_);first | refine fD ?_ | (refine bO ?_ ?_ <;> intro hc)) | fail)
  refine dT (z:=gS) fun w5 x5 s5 h5 => ?_;refine aB ?_;refine dH (v:=.agg #[aE s.name, .int .i64 s.kind, .int .i64 s.ttl,y]) h5 (gB rfl rfl rfl oy.one) fun w6 p6 => ?_;have x6:=cB x5 p6;have hp6:=aA (cs:=[aE s.name, .int .i64 s.kind, .int .i64 s.ttl,y]) p6.this;have hy6:=oy.sl.ext x6;rw [hdat] at hy6;have hx6:=hx4.trans x6;have h6:=(x4.trans x6).at h3;have hy0:=hy6.elem (i:=0) (e:=[aE dd]) rfl;clear p6 h5 x5;have hl1:(aH [dd]).length=1:=rfl
  (repeat' first | ((with_reducible refine bH ?_);go_step) | ((with_reducible refine aV ?_);first | refine fD ?_ | (refine bO ?_ ?_ <;> intro hc)) | fail)
  refine bT (enters_of Tryz.func135 rfl rfl) rfl rfl (hP _) ?_;intro w7 x7;refine aB ?_;have h7:=x7.at h6
  (repeat' first | ((with_reducible refine bH ?_);go_step) | ((with_reducible refine aV ?_);first | refine fD ?_ | (refine bO ?_ ?_ <;> intro hc)) | fail)
  refine dH (v:=.agg ss.cells.toArray) h7 (zP _) fun w8 p8 => ?_;have x8:=cB (hx6.trans x7) p8
  (repeat' first | ((with_reducible refine bH ?_);go_step) | ((with_reducible refine aV ?_);first | refine fD ?_ | (refine bO ?_ ?_ <;> intro hc)) | fail)
  refine tN (cs:=ss.cells) p8.this ⟨?_,x8⟩;rw [hZ,q];rfl
def lJ (s:List UInt8):List (List UInt8)→List (List UInt8)
 | []=>[s]
 | x :: l=>if Op.bytesLess x s=true then x :: lJ s l else if x=s then x :: l else s :: x :: l
theorem CO (s:List UInt8):∀ l:List (List UInt8),(lJ s l).length≤l.length + 1
 | []=>by simp [lJ]
 | x :: l=>by
   rw [lJ];split
   ·have:=CO s l;simp;omega
   ·split <;> simp
def dO (r:Rec):RSet:=⟨fold r.name,r.kind,r.ttl,[r.data]⟩
def kS (r:Rec):List RSet→List RSet
 | []=>[dO r]
 | g :: gs=>if zH g (dO r)=true then g :: kS r gs else if zH (dO r) g=true then dO r :: g :: gs else ⟨fold r.name,r.kind,min r.ttl g.ttl,lJ r.data g.data⟩ :: gs
def cA (l:List Rec):List RSet:=l.foldl (fun gs r=>kS r gs) []
theorem qL {l:List Rec} (h:k < l.length):cA (l.take (k + 1))=kS l[k] (cA (l.take k)):=by
 rw [cA,List.take_add_one,List.getElem?_eq_getElem h,Option.toList_some,List.foldl_append];rfl
theorem GZ (r:Rec):∀ gs:List RSet,(kS r gs).length≤gs.length + 1
 | []=>by simp [kS]
 | g :: gs=>by
   have:=GZ r gs;rw [kS];split
   ·simp;omega
   ·split <;> simp
theorem CP (r:Rec) (n:Nat):∀ gs:List RSet,(∀ s ∈ gs,s.data.length≤n)→∀ s ∈ kS r gs,s.data.length≤n + 1
 | [],_,s,h=>by
   have:s=dO r:=by simpa [kS] using h
   subst this;simp [dO]
 | g :: gs,hn,s,h=>by
   have hg:=hn g aX;have hn':∀ s ∈ gs,s.data.length≤n:=fun s hs=>hn s (by simp [hs]);rw [kS] at h;split at h
   ·rcases List.mem_cons.1 h with rfl | h
    ·omega
    ·exact CP r n gs hn' s h
   ·split at h
    ·rcases List.mem_cons.1 h with rfl | h
     ·simp [dO]
     ·have:=hn s h;omega
    ·rcases List.mem_cons.1 h with rfl | h
     ·have:=CO r.data g.data;show (lJ r.data g.data).length≤n + 1;omega
     ·have:=hn' s h;omega
theorem kN (l:List Rec):∀ k,k≤l.length→(cA (l.take k)).length≤k∧∀ s ∈ cA (l.take k),s.data.length≤k
 | 0,_=>by simp [cA]
 | k + 1,h=>by
   obtain ⟨h1,h2⟩:=kN l k aC;rw [qL (show k < l.length by omega)];have:=GZ (l[k]'(aC)) (cA (l.take k));exact ⟨aC,CP _ k _ h2⟩
def qN (l:List Rec):Int:=if l.all CE=false then 1 else if 200 < (cA l).length then 4 else if (cA l).any PO=true then 4 else 0
def RefR (B:Nat) (l:List Rec) (r:Value) (w':World):Prop:=if qN l=0 then ∃ v,r=.tuple #[v, .int .i64 0]∧SetsO B w' v (cA l) else r=.tuple #[.slice none 0 0, .int .i64 (qN l)]
theorem CQ:∀ {gs:List RSet} {r:Rec} {s:RSet},wF gs→s ∈ eC gs r→(s ∈ gs∧bG s r=false)∨(∃ t ∈ gs,bG t r=true∧s=kZ t r)∨((∀ t ∈ gs,bG t r=false)∧s=⟨fold r.name,r.kind,r.ttl,[r.data]⟩)
 | [],r,s,_,h=>by
   right;right;exact ⟨aX,by simpa [eC] using h⟩
 | a :: l,r,s,hd,h=>by
   obtain ⟨p1,p2⟩:=List.pairwise_cons.1 (hY.1 hd);by_cases hm:bG a r=true
   ·simp only [eC,hm,if_true,List.mem_cons] at h;rcases h with h | h
    ·exact .inr (.inl ⟨a,aX,hm,h⟩)
    ·refine .inl ⟨by simp [h],?_⟩;cases hs:bG s r with
     | false=>rfl
     | true =>
      exfalso
      simp only [bG,Bool.and_eq_true,decide_eq_true_eq] at hs hm;exact p1 s h ⟨by rw [hm.1,hs.1],by rw [hm.2,hs.2]⟩
   ·have hm':bG a r=false:=by simpa using hm
    simp only [eC,hm',Bool.false_eq_true,if_false,List.mem_cons] at h;rcases h with rfl | h
    ·exact .inl ⟨aX,hm'⟩
    ·rcases CQ (hY.2 p2) h with ⟨h1,h2⟩ | ⟨t,h1,h2,h3⟩ | ⟨h1,h2⟩
     ·exact .inl ⟨by simp [h1],h2⟩
     ·exact .inr (.inl ⟨t,by simp [h1],h2,h3⟩)
     ·refine .inr (.inr ⟨?_,h2⟩);intro t ht;rcases List.mem_cons.1 ht with rfl | ht
      ·exact hm'
      ·exact h1 t ht
structure Ch (L:List Rec) (s:RSet):Prop where
 dat:∀ d,d ∈ s.data↔∃ r ∈ L,bG s r=true∧r.data=d
 ttl:∃ r ∈ L,bG s r=true∧r.ttl=s.ttl
 low:∀ r ∈ L,bG s r=true→s.ttl≤r.ttl
theorem Ch.miss {L:List Rec} {s:RSet} {r:Rec} (h:Ch L s) (hm:bG s r=false):Ch (L ++ [r]) s where
 dat d:=by
  rw [h.dat];constructor
  ·rintro ⟨q,h1,h2⟩;exact ⟨q,by simp [h1],h2⟩
  ·rintro ⟨q,h1,h2,h3⟩;rcases List.mem_append.1 h1 with h1 | h1
   ·exact ⟨q,h1,h2,h3⟩
   ·obtain rfl:=List.mem_singleton.1 h1;rw [hm] at h2;cases h2
 ttl:=let ⟨q,h1,h2⟩:=h.ttl;⟨q,by simp [h1],h2⟩
 low q h1 h2:=by
  rcases List.mem_append.1 h1 with h1 | h1
  ·exact h.low q h1 h2
  ·obtain rfl:=List.mem_singleton.1 h1;rw [hm] at h2;cases h2
theorem Ch.bump {L:List Rec} {s:RSet} {r:Rec} (h:Ch L s) (hm:bG s r=true):Ch (L ++ [r]) (X.kZ s r) where
 dat d:=by
  show d ∈ s.data ++ [r.data]↔∃ q ∈ L ++ [r],bG s q=true∧q.data=d;rw [List.mem_append,h.dat,List.mem_singleton];constructor
  ·rintro (⟨q,h1,h2⟩ | rfl)
   ·exact ⟨q,by simp [h1],h2⟩
   ·exact ⟨r,aX,hm,rfl⟩
  ·rintro ⟨q,h1,h2,h3⟩;rcases List.mem_append.1 h1 with h1 | h1
   ·exact .inl ⟨q,h1,h2,h3⟩
   ·obtain rfl:=List.mem_singleton.1 h1;exact .inr h3.symm
 ttl:=by
  show ∃ q ∈ L ++ [r],bG s q=true∧q.ttl=min s.ttl r.ttl;obtain ⟨q,h1,h2,h3⟩:=h.ttl;rcases Int.le_total s.ttl r.ttl with hl | hl
  ·exact ⟨q,by simp [h1],h2,by rw [h3];omega⟩
  ·exact ⟨r,aX,hm,aC⟩
 low q h1 h2:=by
  show min s.ttl r.ttl≤q.ttl;rcases List.mem_append.1 h1 with h1 | h1
  ·have:=h.low q h1 h2;omega
  ·obtain rfl:=List.mem_singleton.1 h1;omega
theorem Ch.new {L:List Rec} {r:Rec} (h:∀ q ∈ L,bG ⟨fold r.name,r.kind,r.ttl,[r.data]⟩ q=false):Ch (L ++ [r]) ⟨fold r.name,r.kind,r.ttl,[r.data]⟩ where
 dat d:=by
  rw [List.mem_singleton];constructor
  ·rintro rfl;exact ⟨r,aX,by simp [bG],rfl⟩
  ·rintro ⟨q,h1,h2,h3⟩;rcases List.mem_append.1 h1 with h1 | h1
   ·rw [h q h1] at h2;cases h2
   ·obtain rfl:=List.mem_singleton.1 h1;exact h3.symm
 ttl:=⟨r,aX,by simp [bG],rfl⟩
 low q h1 h2:=by
  rcases List.mem_append.1 h1 with h1 | h1
  ·rw [h q h1] at h2;cases h2
  ·obtain rfl:=List.mem_singleton.1 h1;exact Int.le_refl _
theorem CR (l:List Rec):∀ k,k≤l.length→∀ s ∈ dB (l.take k),Ch (l.take k) s
 | 0,_,s,h=>by simp [dB] at h
 | k + 1,hk,s,h=>by
   have hlt:k < l.length:=aC;have e:l.take (k + 1)=l.take k ++ [l[k]]:=aX;rw [qG hlt] at h;rw [e];have ih:=CR l k aC;rcases CQ (lO _) h with ⟨h1,h2⟩ | ⟨t,h1,h2,rfl⟩ | ⟨h1,rfl⟩
   ·exact (ih s h1).miss h2
   ·exact (ih t h1).bump h2
   ·refine Ch.new fun q hq => ?_;obtain ⟨t,ht,hm,_⟩:=zF hq;have:=h1 t ht;cases hx:bG ⟨fold l[k].name,l[k].kind,l[k].ttl,[l[k].data]⟩ q with
    | false=>rfl
    | true =>
     exfalso
     simp only [bG,Bool.and_eq_true,decide_eq_true_eq] at hx hm;have h5:bG t l[k]=true:=by
      simp only [bG,Bool.and_eq_true,decide_eq_true_eq];exact ⟨by rw [hm.1,hx.1],by rw [hm.2,hx.2]⟩
     rw [this] at h5;cases h5
theorem Ch.norm {L:List Rec} {s:RSet} (h:Ch L s):Ch L (X.nY s) where
 dat d:=by
  show d ∈ Bj s.data↔∃ r ∈ L,bG s r=true∧r.data=d;rw [UA,h.dat]
 ttl:=h.ttl
 low:=h.low
theorem CS {l:List Rec} {s:RSet} (h:s ∈ fE l):Ch l s∧s.data.Pairwise (· < ·):=by
 obtain ⟨u,hu,rfl⟩:=List.mem_map.1 h;have:=CR l l.length (Nat.le_refl _);rw [List.take_length] at this;exact ⟨(this u hu).norm,JI _⟩
theorem Ch.uniq {L:List Rec} {s t:RSet} (h:Ch L s) (k:Ch L t) (hs:s.data.Pairwise (· < ·)) (ht:t.data.Pairwise (· < ·)) (hn:s.name=t.name) (hk:s.kind=t.kind):s=t:=by
 have hm:∀ r,bG s r=bG t r:=fun r=>by rw [bG,bG,hn,hk]
 have hd:s.data=t.data:=MS hs ht fun d=>by
  rw [h.dat,k.dat];simp only [hm]
 have ha:s.ttl=t.ttl:=by
  obtain ⟨q,h1,h2,h3⟩:=h.ttl;obtain ⟨q',k1,k2,k3⟩:=k.ttl;have e1:=k.low q h1 (by rw [← hm];exact h2);have e2:=h.low q' k1 (by rw [hm];exact k2);omega
 cases s;cases t
 simp_all
def pF (s t:RSet):Int:=eQ s.name t.name s.kind t.kind
theorem zQ:TPO pF:=mD.comap fun s:RSet=>(s.name,s.kind)
def SO (gs:List RSet):Prop:=gs.Pairwise fun s t=>pF s t < 0
def Bp (r:Rec) (t:RSet):RSet:=⟨fold r.name,r.kind,min r.ttl t.ttl,lJ r.data t.data⟩
theorem rH (a b:RSet):zH a b=decide (pF a b < 0):=MY a b
theorem fI {s:RSet} {r:Rec}:bG s r=true↔s.name=fold r.name∧s.kind=r.kind:=by simp [bG]
theorem uA {s t u:RSet} (hn:s.name=t.name) (hk:s.kind=t.kind):pF u s=pF u t∧pF s u=pF t u:=by
 unfold pF;rw [hn,hk];exact ⟨rfl,rfl⟩
theorem uB {s:RSet} {r:Rec} (h:pF s (dO r)≠0):bG s r=false:=by
 cases hm:bG s r with
 | false=>rfl
 | true =>
  obtain ⟨h1,h2⟩:=fI.1 hm;exact absurd (by rw [(uA (t:=dO r) h1 h2).2];exact zQ.refl _) h
theorem HA {r:Rec} (hr:Small (fold r.name)):∀ {gs:List RSet} {s:RSet},SO gs→(∀ g ∈ gs,Small g.name)→s ∈ kS r gs →
 (s ∈ gs∧bG s r=false)∨(∃ t ∈ gs,bG t r=true∧s=Bp r t)∨((∀ t ∈ gs,bG t r=false)∧s=dO r)
 | [],s,_,_,h=>by
   right;right;exact ⟨aX,by simpa [kS] using h⟩
 | g :: gs,s,hso,hsm,h=>by
   obtain ⟨p1,p2⟩:=List.pairwise_cons.1 hso;have hg:=hsm g aX;rw [kS,rH,rH] at h;by_cases h1:pF g (dO r) < 0
   ·rw [if_pos (decide_eq_true h1)] at h;have m1:bG g r=false:=uB aC;rcases List.mem_cons.1 h with rfl | h
    ·exact .inl ⟨aX,m1⟩
    ·rcases HA hr p2 (fun x hx=>hsm x (by simp [hx])) h with ⟨a,b⟩ | ⟨t,a,b,c⟩ | ⟨a,b⟩
     ·exact .inl ⟨by simp [a],b⟩
     ·exact .inr (.inl ⟨t,by simp [a],b,c⟩)
     ·refine .inr (.inr ⟨fun t ht => ?_,b⟩);rcases List.mem_cons.1 ht with rfl | ht
      ·exact m1
      ·exact a t ht
   ·rw [if_neg (by simpa using h1)] at h;by_cases h2:pF (dO r) g < 0
    ·rw [if_pos (decide_eq_true h2)] at h;have m1:bG g r=false:=uB (by have:=zQ.anti g (dO r);omega);have m2:∀ t ∈ gs,bG t r=false:=fun t ht=>uB (by
      have:=zQ.ltt h2 (p1 t ht);have:=zQ.anti t (dO r);omega)
     rcases List.mem_cons.1 h with rfl | h
     ·refine .inr (.inr ⟨fun t ht => ?_,rfl⟩);rcases List.mem_cons.1 ht with rfl | ht
      ·exact m1
      ·exact m2 t ht
     ·rcases List.mem_cons.1 h with rfl | h
      ·exact .inl ⟨aX,m1⟩
      ·exact .inl ⟨by simp [h],m2 s h⟩
    ·rw [if_neg (by simpa using h2)] at h;have h0:pF g (dO r)=0:=by have:=zQ.anti g (dO r);omega
     obtain ⟨e1,e2⟩:=mX hg hr h0;have mg:bG g r=true:=fI.2 ⟨e1,e2⟩;rcases List.mem_cons.1 h with rfl | h
     ·exact .inr (.inl ⟨g,aX,mg,rfl⟩)
     ·refine .inl ⟨by simp [h],uB ?_⟩;have:=p1 s h;rw [(uA (t:=dO r) e1 e2).2] at this;have:=zQ.anti s (dO r);omega
theorem HB {r:Rec}:∀ {gs:List RSet} {s:RSet},s ∈ kS r gs→s ∈ gs∨(s.name=fold r.name∧s.kind=r.kind)
 | [],s,h=>by
   right;have:s=dO r:=by simpa [kS] using h
   subst this;exact ⟨rfl,rfl⟩
 | g :: gs,s,h=>by
   rw [kS] at h;split at h
   ·rcases List.mem_cons.1 h with rfl | h
    ·exact .inl aX
    ·rcases HB h with h | h
     ·exact .inl (by simp [h])
     ·exact .inr h
   ·split at h
    ·rcases List.mem_cons.1 h with rfl | h
     ·exact .inr ⟨rfl,rfl⟩
     ·exact .inl h
    ·rcases List.mem_cons.1 h with rfl | h
     ·exact .inr ⟨rfl,rfl⟩
     ·exact .inl (by simp [h])
theorem LB {r:Rec} (hr:Small (fold r.name)):∀ {gs:List RSet},SO gs→(∀ g ∈ gs,Small g.name)→SO (kS r gs)
 | [],_,_=>by simp [kS,SO]
 | g :: gs,hso,hsm=>by
   obtain ⟨p1,p2⟩:=List.pairwise_cons.1 hso;have hg:=hsm g aX;rw [kS,rH,rH];by_cases h1:pF g (dO r) < 0
   ·rw [if_pos (decide_eq_true h1)];refine List.pairwise_cons.2 ⟨fun s hs => ?_,LB hr p2 fun x hx=>hsm x (by simp [hx])⟩;rcases HB hs with h | ⟨a,b⟩
    ·exact p1 s h
    ·rw [(uA (t:=dO r) a b).1];exact h1
   ·rw [if_neg (by simpa using h1)];by_cases h2:pF (dO r) g < 0
    ·rw [if_pos (decide_eq_true h2)];refine List.pairwise_cons.2 ⟨fun s hs => ?_,hso⟩;rcases List.mem_cons.1 hs with rfl | hs
     ·exact h2
     ·exact zQ.ltt h2 (p1 s hs)
    ·rw [if_neg (by simpa using h2)];have h0:pF g (dO r)=0:=by have:=zQ.anti g (dO r);omega
     obtain ⟨e1,e2⟩:=mX hg hr h0;refine List.pairwise_cons.2 ⟨fun s hs => ?_,p2⟩;have:=p1 s hs;rw [(uA (s:=g) (t:=⟨fold r.name,r.kind,min r.ttl g.ttl,lJ r.data g.data⟩) e1 e2).2] at this;exact this
theorem pG {s:List UInt8}:∀ {l:List (List UInt8)},l.Pairwise (· < ·)→(lJ s l).Pairwise (· < ·)∧∀ x,x ∈ lJ s l↔x=s∨x ∈ l
 | [],_=>by simp [lJ]
 | y :: l,h=>by
   obtain ⟨p1,p2⟩:=List.pairwise_cons.1 h;obtain ⟨i1,i2⟩:=pG (s:=s) p2;rw [lJ];by_cases h1:y < s
   ·rw [if_pos (KV.2 h1)];refine ⟨List.pairwise_cons.2 ⟨fun x hx => ?_,i1⟩,fun x => ?_⟩
    ·rcases (i2 x).1 hx with rfl | hx
     ·exact h1
     ·exact p1 x hx
    ·simp only [List.mem_cons,i2];exact or_left_comm
   ·rw [if_neg (fun hb=>h1 (KV.1 hb))];by_cases h2:y=s
    ·rw [if_pos h2];subst h2;exact ⟨h,fun x=>by simp⟩
    ·rw [if_neg h2];have h3:s < y:=wI (List.not_lt.1 h1) (fun e=>h2 e.symm);refine ⟨List.pairwise_cons.2 ⟨fun x hx => ?_,h⟩,fun x=>by simp⟩;rcases List.mem_cons.1 hx with rfl | hx
     ·exact h3
     ·exact List.lt_trans h3 (p1 x hx)
theorem CT {r:Rec} (hr:Small (fold r.name)):∀ {gs:List RSet},(∀ g ∈ gs,Small g.name)→∀ t ∈ gs,∃ s ∈ kS r gs,s.name=t.name∧s.kind=t.kind
 | [],_,t,h=>by simp at h
 | g :: gs,hsm,t,h=>by
   have hg:=hsm g aX;rw [kS,rH,rH];by_cases h1:pF g (dO r) < 0
   ·rw [if_pos (decide_eq_true h1)];rcases List.mem_cons.1 h with rfl | h
    ·exact ⟨t,aX,rfl,rfl⟩
    ·obtain ⟨s,a,b⟩:=CT hr (fun x hx=>hsm x (by simp [hx])) t h;exact ⟨s,by simp [a],b⟩
   ·rw [if_neg (by simpa using h1)];by_cases h2:pF (dO r) g < 0
    ·rw [if_pos (decide_eq_true h2)];exact ⟨t,List.mem_cons_of_mem _ h,rfl,rfl⟩
    ·rw [if_neg (by simpa using h2)];have h0:pF g (dO r)=0:=by have:=zQ.anti g (dO r);omega
     obtain ⟨e1,e2⟩:=mX hg hr h0;rcases List.mem_cons.1 h with rfl | h
     ·exact ⟨_,List.mem_cons_self,e1.symm,e2.symm⟩
     ·exact ⟨t,by simp [h],rfl,rfl⟩
theorem HC (r:Rec):∀ gs:List RSet,∃ s ∈ kS r gs,s.name=fold r.name∧s.kind=r.kind
 | []=>⟨dO r,by simp [kS],rfl,rfl⟩
 | g :: gs=>by
   obtain ⟨s,a,b⟩:=HC r gs;rw [kS];split
   ·exact ⟨s,by simp [a],b⟩
   ·split
    ·exact ⟨dO r,aX,rfl,rfl⟩
    ·exact ⟨_,List.mem_cons_self,rfl,rfl⟩
theorem Ch.newS {L:List Rec} {t:RSet} {r:Rec} (h:Ch L t) (hm:bG t r=true) (ht:t.data.Pairwise (· < ·)):Ch (L ++ [r]) (X.Bp r t):=by
 have hb:=h.bump hm;obtain ⟨e1,e2⟩:=fI.1 hm;have hk:∀ q,bG (X.Bp r t) q=bG (X.kZ t r) q:=fun q=>by simp only [bG,X.Bp,X.kZ,e1,e2];rfl
 refine ⟨fun d => ?_,?_,fun q hq hmq => ?_⟩
 ·show d ∈ lJ r.data t.data↔_;rw [(pG ht).2];have:=hb.dat d;simp only [hk];rw [← this];show _↔d ∈ t.data ++ [r.data];simp [or_comm]
 ·obtain ⟨q,a,b,c⟩:=hb.ttl;exact ⟨q,a,by rw [hk];exact b,by rw [c];show min t.ttl r.ttl=min r.ttl t.ttl;omega⟩
 ·have:=hb.low q hq (by rw [← hk];exact hmq);show min r.ttl t.ttl≤q.ttl;have h2:min t.ttl r.ttl≤q.ttl:=this;omega
theorem QA {r:Rec} (h:CE r=true):Small (fold r.name):=by
 obtain ⟨ls,hl⟩:=Option.isSome_iff_exists.1 (jE (r:=r) (n:=[]) (by simpa [CE] using h)).1;exact ⟨r.name,ls,hl,rfl⟩
theorem zS {l:List Rec} (hok:l.all CE=true):∀ k,k≤l.length→SO (cA (l.take k))∧(∀ s ∈ cA (l.take k),Ch (l.take k) s∧s.data.Pairwise (· < ·)∧Small s.name)∧∀ q ∈ l.take k,∃ s ∈ cA (l.take k),bG s q=true
 | 0,_=>by simp [cA,SO]
 | k + 1,h=>by
   have hlt:k < l.length:=aC;obtain ⟨i1,i2,i3⟩:=zS hok k aC;have hr:=QA (List.all_eq_true.1 hok _ (List.getElem_mem hlt));have hsm:∀ g ∈ cA (l.take k),Small g.name:=fun g hg=>(i2 g hg).2.2;have e:l.take (k + 1)=l.take k ++ [l[k]]:=aX;rw [qL hlt,e];refine ⟨LB hr i1 hsm,fun s hs => ?_,fun q hq => ?_⟩
   ·rcases HA hr i1 hsm hs with ⟨a,b⟩ | ⟨t,a,b,rfl⟩ | ⟨a,rfl⟩
    ·exact ⟨(i2 s a).1.miss b,(i2 s a).2⟩
    ·exact ⟨(i2 t a).1.newS b (i2 t a).2.1,(pG (i2 t a).2.1).1,hr⟩
    ·refine ⟨Ch.new fun q hq => ?_,by simp [dO],hr⟩;obtain ⟨t,ht,hm⟩:=i3 q hq;cases hx:bG ⟨fold l[k].name,l[k].kind,l[k].ttl,[l[k].data]⟩ q with
     | false=>rfl
     | true =>
      exfalso
      obtain ⟨x1,x2⟩:=fI.1 hx;obtain ⟨y1,y2⟩:=fI.1 hm;have h5:bG t l[k]=true:=fI.2 ⟨y1.trans x1.symm,y2.trans x2.symm⟩;rw [a t ht] at h5;cases h5
   ·rcases List.mem_append.1 hq with hq | hq
    ·obtain ⟨t,ht,hm⟩:=i3 q hq;obtain ⟨s,a,b,c⟩:=CT hr hsm t ht;obtain ⟨y1,y2⟩:=fI.1 hm;exact ⟨s,a,fI.2 ⟨b.trans y1,c.trans y2⟩⟩
    ·obtain rfl:=List.mem_singleton.1 hq;obtain ⟨s,a,b,c⟩:=HC l[k] (cA (l.take k));exact ⟨s,a,fI.2 ⟨b,c⟩⟩
theorem zT {l:List Rec} (hok:l.all CE=true):SO (cA l)∧(∀ s ∈ cA l,Ch l s∧s.data.Pairwise (· < ·)∧Small s.name)∧∀ q ∈ l,∃ s ∈ cA l,bG s q=true:=by
 have:=zS hok l.length (Nat.le_refl _)
 rwa [List.take_length] at this
theorem wP {l:List Rec} (hok:l.all CE=true):(cA l).Perm (fE l):=by
 obtain ⟨i1,i2,i3⟩:=zT hok;have n1:(fE l).Nodup:=(tU _).imp fun h e=>by subst e;exact h ⟨rfl,rfl⟩
 have n0:(cA l).Nodup:=i1.imp fun h e=>by subst e;have:=zQ.refl ‹RSet›;omega
 refine (List.perm_ext_iff_of_nodup n0 n1).2 fun s=>⟨fun hs => ?_,fun hs => ?_⟩
 ·obtain ⟨hc,hst,_⟩:=i2 s hs;obtain ⟨q,h1,h2,_⟩:=hc.ttl;obtain ⟨t,ht,hm,_⟩:=zF h1;have hg:nY t ∈ fE l:=List.mem_map_of_mem ht;obtain ⟨hc',hst'⟩:=CS hg;obtain ⟨x1,x2⟩:=fI.1 h2;obtain ⟨y1,y2⟩:=fI.1 hm;have e:=hc.uniq hc' hst hst' (x1.trans y1.symm) (x2.trans y2.symm);rw [e];exact hg
 ·obtain ⟨hc,hst⟩:=CS hs;obtain ⟨q,h1,h2,_⟩:=hc.ttl;obtain ⟨t,ht,hm⟩:=i3 q h1;obtain ⟨hc',hst',_⟩:=i2 t ht;obtain ⟨x1,x2⟩:=fI.1 h2;obtain ⟨y1,y2⟩:=fI.1 hm;have e:=hc.uniq hc' hst hst' (x1.trans y1.symm) (x2.trans y2.symm);rw [e];exact ht
theorem BC {l:List Rec} (hok:l.all CE=true):sP (cA l):=by
 obtain ⟨i1,_,_⟩:=zT hok;intro i j s t hij hi hj;obtain ⟨a,rfl⟩:=List.getElem?_eq_some_iff.1 hi;obtain ⟨b,rfl⟩:=List.getElem?_eq_some_iff.1 hj;have h:=List.pairwise_iff_getElem.1 i1 i j a b hij;have:=zQ.anti (cA l)[j] (cA l)[i];show 0≤pF (cA l)[j] (cA l)[i];omega
theorem UF {l:List Rec} (hok:l.all CE=true) {out:List RSet} (hp:out.Perm (fE l)) (hs:sP out):out=cA l :=
 JJ hok hp (wP hok) hs (BC hok)
theorem WU (l:List Rec):qN l=jF l:=by
 unfold qN jF;cases hok:l.all CE with
 | false=>simp
 | true =>
  have hp:=wP hok;have hl:=hp.length_eq;have ha:(cA l).any PO=(fE l).any PO:=by
   cases h:(fE l).any PO with
   | true =>
    obtain ⟨s,h1,h2⟩:=List.any_eq_true.1 h;exact List.any_eq_true.2 ⟨s,hp.mem_iff.2 h1,h2⟩
   | false =>
    cases h':(cA l).any PO with
    | false=>rfl
    | true =>
     obtain ⟨s,h1,h2⟩:=List.any_eq_true.1 h';rw [List.any_eq_true.2 ⟨s,hp.mem_iff.1 h1,h2⟩] at h;cases h
  rw [ha,hl];simp only [Bool.true_eq_false,if_false];split <;> split <;> rfl
def iP:List Value:=[aE [], .slice none 0 0]
theorem CU:∀ {l:List (List UInt8)},x ∈ lJ s l→x=s∨x ∈ l
 | [],h=>by simp [lJ] at h;exact .inl h
 | y :: l,h=>by
   unfold lJ at h;split at h
   ·rcases List.mem_cons.1 h with rfl | h
    ·exact .inr aX
    ·rcases CU h with h | h
     ·exact .inl h
     ·exact .inr (by simp [h])
   ·split at h
    ·exact .inr h
    ·rcases List.mem_cons.1 h with rfl | h
     ·exact .inl rfl
     ·exact .inr h
theorem HD {r:Rec}:∀ {gs:List RSet} {s:RSet} {d:List UInt8},s ∈ kS r gs→d ∈ s.data→d=r.data∨∃ t ∈ gs,d ∈ t.data
 | [],s,d,h,hd=>by
   have:s=dO r:=by simpa [kS] using h
   subst this;exact .inl (by simpa [dO] using hd)
 | g :: gs,s,d,h,hd=>by
   rw [kS] at h;split at h
   ·rcases List.mem_cons.1 h with rfl | h
    ·exact .inr ⟨s,aX,hd⟩
    ·rcases HD h hd with h | ⟨t,ht,h⟩
     ·exact .inl h
     ·exact .inr ⟨t,by simp [ht],h⟩
   ·split at h
    ·rcases List.mem_cons.1 h with rfl | h
     ·exact .inl (by simpa [dO] using hd)
     ·exact .inr ⟨s,h,hd⟩
    ·rcases List.mem_cons.1 h with rfl | h
     ·rcases CU hd with h | h
      ·exact .inl h
      ·exact .inr ⟨g,aX,h⟩
     ·exact .inr ⟨s,by simp [h],hd⟩
theorem zU {l:List Rec}:∀ k,k≤l.length→∀ s ∈ cA (l.take k),∀ d ∈ s.data,∃ r ∈ l,d=r.data
 | 0,_,s,hs,_,_=>by simp [cA] at hs
 | k + 1,h,s,hs,d,hd=>by
   rw [qL (show k < l.length by omega)] at hs;rcases HD hs hd with h1 | ⟨t,ht,h1⟩
   ·exact ⟨_,List.getElem_mem _,h1⟩
   ·exact zU k aC t ht d h1
theorem HE {l:List Rec} {s:RSet} (hs:s ∈ cA l) (hd:d ∈ s.data):∃ r ∈ l,d=r.data :=
 zU l.length (Nat.le_refl _) s (by rw [List.take_length];exact hs) d hd
theorem JN (l:List Rec):∀ s ∈ cA l,s.data.length≤l.length:=by
 have:=(kN l l.length (Nat.le_refl _)).2
 rwa [List.take_length] at this
def jJ (o:List UInt8) (l:List Rec):Int:=if qN l=0 then cV (fold o) (cA l) else qN l
def fZ (o:List UInt8) (l:List Rec):List UInt8:=if jJ o l=0 then fold o else []
def pR (o:List UInt8) (l:List Rec):List RSet:=if jJ o l=0 then cA l else []
def LoadU (B:Nat) (o:List UInt8) (l:List Rec) (r:Value) (w':World):Prop :=
 ∃ v,r=.tuple #[.agg #[aE (fZ o l),v], .int .i64 (jJ o l)]∧SetsO B w' v (pR o l)
theorem LoadU.bad {l:List Rec} {e:Int} (h:jJ o l=e) (he:e≠0):LoadU B o l (.tuple #[.agg iP.toArray, .int .i64 e]) w':=by
 refine ⟨.slice none 0 0,?_,?_⟩
 ·rw [h,fZ,if_neg (by rw [h];exact he)];rfl
 ·rw [pR,if_neg (by rw [h];exact he)];exact SetsO.nil _ _
theorem LoadU.good {l:List Rec} (h:jJ o l=0) (hv:SetsO B w' v (cA l)):LoadU B o l (.tuple #[.agg #[aE (fold o),v], .int .i64 0]) w':=by
 refine ⟨v,?_,?_⟩
 ·rw [fZ,if_pos h,h]
 ·rw [pR,if_pos h];exact hv
def QB (B:Nat) (l:List Rec) (r:Value) (w':World):Prop:=∃ v,r=.tuple #[v, .int .i64 (qN l)]∧(qN l=0→SetsO B w' v (cA l))
theorem RefR.uni {l:List Rec} (h:RefR B l r w'):QB B l r w':=by
 unfold RefR at h;split at h
 ·rename_i h0;obtain ⟨v,rfl,hv⟩:=h;exact ⟨v,by rw [h0],fun _=>hv⟩
 ·rename_i h0;exact ⟨_,h,fun h1=>absurd h1 h0⟩
theorem GroupO.uni {l:List Rec} (h:GroupO B l r w'):QB B l r w':=by
 unfold GroupO at h;rw [← WU] at h;split at h
 ·rename_i h0;obtain ⟨out,v,rfl,hp,hs,hv⟩:=h;have hok:l.all CE=true:=by
   cases hok:l.all CE with
   | true=>rfl
   | false=>rw [qN,if_pos hok] at h0;cases h0
  have e:=UF hok hp hs;exact ⟨v,by rw [h0],fun _=>by rw [← e];exact hv⟩
 ·rename_i h0;exact ⟨_,h,fun h1=>absurd h1 h0⟩
theorem zV (h:v.oneCell'=true):(Value.agg #[aE o,v]).cells.all (·.oneCell')=true:=by
 simp [Value.cells,h,show (aE o).oneCell'=true from rfl]
theorem QC (o:List UInt8) (v:Value) (l:List Rec) (w:World) (hv:Sl 4 w v (aF l)) (hl:l.length≤10000) (hd:∀ r ∈ l,r.data.length≤4611686018427387904):Calls Tryz.prog 31 #[aE o,v] w (kX w (LoadU w.heap.size o l)):=by
 have hb:∀ s ∈ cA l,s.data.length≤1000000:=fun s hs=>by have:=JN l s hs;omega
 have hd2:∀ s ∈ cA l,∀ d ∈ s.data,d.length≤4611686018427387904:=fun s hs d hd3=>by
  obtain ⟨r,hr,rfl⟩:=HE hs hd3;exact hd r hr
 go_enter Tryz.func31,Tryz.ntmps31
 repeat' (first | ((with_reducible refine bH ?_);go_step) | fail)
 refine dT (z:=iP) fun w1 x1 s1 h1 => ?_;refine aB ?_;have hv1:=hv.ext x1
 (repeat' first | ((with_reducible refine bH ?_);go_step) | ((with_reducible refine aV ?_);first | refine fD ?_ | (refine bO ?_ ?_ <;> intro hc)) | fail)
 refine gE (enters_of Tryz.func57 rfl rfl) rfl rfl (Du v l _ hv1 hl) ?_;intro r w2 x2 hr;obtain ⟨y,rfl,hy⟩:=hr.uni;clear hr;have h2:=x2.at h1;have hx2:=x1.trans x2;by_cases hE:qN l=0
 ·have hy:=hy hE;have hLE:jJ o l=cV (fold o) (cA l):=by rw [jJ,if_pos hE]
  rw [hE];obtain ⟨ya,yn,yc,hys⟩:∃ a n c,y=.slice a n c:=by obtain ⟨css,h,_⟩:=hy;exact h.slf
  (repeat' first | ((with_reducible refine bH ?_);go_step) | ((with_reducible refine aV ?_);first | refine fD ?_ | (refine bO ?_ ?_ <;> intro hc)) | fail)
  refine bT (enters_of Tryz.func53 rfl rfl) rfl rfl (uX o _) ?_;intro w3 x3;refine aB ?_;have h3:=x3.at h2;have hx3:=hx2.trans x3;have hy3:=hy.ext x3
  (repeat' first | ((with_reducible refine bH ?_);go_step) | ((with_reducible refine aV ?_);first | refine fD ?_ | (refine bO ?_ ?_ <;> intro hc)) | fail)
  refine cE (v:=.agg #[aE (fold o),y]) rfl (Runs.build (vals:=[(0,aE (fold o)),(1,y)]) rfl (by rw [hys];kernel_rfl)) ?_;refine aB ?_;refine dT (z:=iP) fun w4 x4 s4 h4 => ?_;refine aB ?_;have hy1:y.oneCell'=true:=by rw [hys];rfl
  refine dH (v:=.agg #[aE (fold o),y]) h4 (zV hy1) fun w5 p5 => ?_;have x5:=cB x4 p5;have h5:=aA (cs:=[aE (fold o),y]) p5.this;have hx5:=hx3.trans x5;have hy5:=hy3.ext x5;have hz5:=x5.at h3;clear p5 h4 x4
  (repeat' first | ((with_reducible refine bH ?_);go_step) | ((with_reducible refine aV ?_);first | refine fD ?_ | (refine bO ?_ ?_ <;> intro hc)) | fail)
  refine bT (enters_of Tryz.func32 rfl rfl) rfl rfl (tZ (fold o) y (cA l) _ hy5.sets hb) ?_;intro w6 x6;refine aB ?_;have h6:=h5.ext x6;have hx6:=hx5.trans x6;have hy6:=hy5.ext x6;have hz6:=x6.at hz5
  (repeat' first | ((with_reducible refine bH ?_);go_step) | ((with_reducible refine aV ?_);first | refine fD ?_ | (refine bO ?_ ?_ <;> intro hc)) | fail)
  ·have q:¬ cV (fold o) (cA l)=0:=by simpa using (by assumption:(!decide (cV (fold o) (cA l)=0))=true)
   refine cE (v:=.agg iP.toArray) rfl (Runs.build0 (by kernel_rfl)) ?_;refine aB ?_
   (repeat' first | ((with_reducible refine bH ?_);go_step) | ((with_reducible refine aV ?_);first | refine fD ?_ | (refine bO ?_ ?_ <;> intro hc)) | fail)
   refine dH (v:=.agg iP.toArray) hz6 zDk fun w7 p7 => ?_;have x7:=cB hx6 p7
   (repeat' first | ((with_reducible refine bH ?_);go_step) | ((with_reducible refine aV ?_);first | refine fD ?_ | (refine bO ?_ ?_ <;> intro hc)) | fail)
   refine tN (cs:=iP) p7.this ⟨_,rfl,x7,?_⟩;exact LoadU.bad hLE q
  ·have q:cV (fold o) (cA l)=0:=by simpa using (by assumption:(!decide (cV (fold o) (cA l)=0))=false)
   refine dH (v:=.agg #[aE (fold o),y]) hz6 (zV hy1) fun w7 p7 => ?_;have x7:=cB hx6 p7;have hy7:=hy6.put p7 (by have:=s1;omega)
   (repeat' first | ((with_reducible refine bH ?_);go_step) | ((with_reducible refine aV ?_);first | refine fD ?_ | (refine bO ?_ ?_ <;> intro hc)) | fail)
   refine tN (cs:=[aE (fold o),y]) p7.this ⟨_,rfl,x7,?_⟩;exact LoadU.good (by rw [hLE,q]) (hy7.weaken x1.size)
 ·have hLE:jJ o l=qN l:=by rw [jJ,if_neg hE]
  (repeat' first | ((with_reducible refine bH ?_);go_step) | ((with_reducible refine aV ?_);first | refine fD ?_ | (refine bO ?_ ?_ <;> intro hc)) | fail)
  ·refine cE (v:=.agg iP.toArray) rfl (Runs.build0 (by kernel_rfl)) ?_;refine aB ?_
   (repeat' first | ((with_reducible refine bH ?_);go_step) | ((with_reducible refine aV ?_);first | refine fD ?_ | (refine bO ?_ ?_ <;> intro hc)) | fail)
   refine dH (v:=.agg iP.toArray) h2 zDk fun w3 p3 => ?_;have x3:=cB hx2 p3
   (repeat' first | ((with_reducible refine bH ?_);go_step) | ((with_reducible refine aV ?_);first | refine fD ?_ | (refine bO ?_ ?_ <;> intro hc)) | fail)
   refine tN (cs:=iP) p3.this ⟨_,rfl,x3,?_⟩;exact LoadU.bad hLE hE
  ·exact absurd (by assumption:(!decide (qN l=0))=false) (by simp [hE])
theorem uC {c:Value}:∀ (es:List (List Value)) (i j:Nat) (e:List Value),(∀ x ∈ es,x.length=k)→es[i]? = some e→j < k→(es.set i (e.set j c)).flatten=es.flatten.set (i * k + j) c
 | [],i,_,_,_,hi,_=>by simp at hi
 | x :: es,0,j,e,hall,hi,hj=>by
   have hx:=hall x aX;cases hi
   simp only [List.set_cons_zero,List.flatten_cons,Nat.zero_mul,Nat.zero_add];rw [List.set_append_left _ _ aC]
 | x :: es,i + 1,j,e,hall,hi,hj=>by
   have hx:=hall x aX;simp only [List.set_cons_succ,List.flatten_cons];rw [uC es i j e (fun y hy=>hall y (by simp [hy])) (by simpa using hi) hj];rw [List.set_append_right _ _ (by rw [Nat.add_mul];omega),show (i + 1) * k + j - x.length=i * k + j by rw [hx,Nat.add_mul];omega]
theorem Own.storeF {P:Program} {t:TypeId} {ce:List Value} {c:Value} (h:Own B k e w v es) (hi:es[i]? = some ce) (hj:j < k) (hs:dG P t 1=true) (h1:c.oneCell'=true) :
 ∃ w' b o,aT (cJ v (i * k)) j=.pointer (some ⟨b,o,none⟩)∧(storeVar t ⟨b,o,none⟩ c).run P w=.ok () w'∧Own B k e w' v (es.set i (ce.set j c))∧Mv v.ownBlock w w':=by
 have hil:=(List.getElem?_eq_some_iff.1 hi).1;have hce:ce.length=k:=h.each ce (List.mem_of_getElem? hi);have hcc:c.cells=#[c]:=by cases c <;> first | rfl | cases h1
 rcases h.row.2 with ⟨rfl,h0⟩ | ⟨g,cap,cur,fz,rfl,hb,hg,hfz,hnc,hcm,hcs,htake⟩
 ·omega
 ·have hl:=aZ h.each;have hik:i * k + k≤es.length * k:=by
   have:(i + 1) * k≤es.length * k:=Nat.mul_le_mul_right k hil
   rwa [Nat.add_mul,Nat.one_mul] at this
  have hck:es.length * k≤cap * k:=Nat.mul_le_mul_right k hnc;have hst:=eB P g (i * k + j) e fz [c] 0 cur w hg hfz (by simp;omega) (by simpa using h1);simp only [Nat.add_zero,List.length_cons,List.length_nil,Nat.zero_add] at hst;have hset:cur.toList.take (i * k + j) ++ [c] ++ cur.toList.drop (i * k + j + 1)=cur.toList.set (i * k + j) c:=by
   rw [List.set_eq_take_append_cons_drop,if_pos (by simp;omega)];simp
  rw [hset] at hst;obtain ⟨ti,hq,hsz⟩:=rF (iM hs);have hall:∀ x ∈ es.set i (ce.set j c),x.length=k:=by
   intro x hx;rcases List.mem_or_eq_of_mem_set hx with hx | rfl
   ·exact h.each x hx
   ·simpa using hce
  refine ⟨w.setRow g (cur.toList.set (i * k + j) c).toArray,g,i * k + j,by simp [cJ,aT,cX],?_,⟨⟨?_, .inr ⟨g,cap,(cur.toList.set (i * k + j) c).toArray,fz,?_,hb,setRow_heap w g cur _ e _ hg,?_,?_,hcm,?_,?_⟩⟩,hall⟩,⟨rfl,rfl,rfl,aX,fun k _ hk=>setRow_other w g k _ (fun e=>hk (by simp [Value.ownBlock,e])),Nat.le_refl _⟩⟩
  ·simpa [storeVar,sizeOf,typeInfo,hq,hsz,hcc] using hst
  ·rw [aZ hall]
  ·simp
  ·simpa using hfz
  ·simpa using hnc
  ·simpa using hcs
  ·rw [uC es i j ce h.each hi hj,← htake];simp only [List.length_set,List.take_set]
section
variable {P:Program} {ops:Array Oper} {Q:Exit→Act→World→Prop} {w:World} {rest:List Oper} {ts:List Value} {df:List Deferred} {ty:TypeId} {ps:String} {af:Array Edge} {g:Option (Nat × Bool)}
theorem kU {c:Value} {ce:List Value} {t ty2:TypeId} {x y:Operand} (hw:Region.wanted (Oper.mk none (.store t x y) ty2 ps af g) (yielded ops ts.toArray)=true)
 (hx:(Act.mk ts.toArray df).eval x=aT (cJ v (i * k)) j) (hy:(Act.mk ts.toArray df).eval y=c) (h:Own B k e w v es) (hi:es[i]? = some ce) (hj:j < k) (hs:dG P t 1=true) (h1:c.oneCell'=true)
 (hk:∀ w',Own B k e w' v (es.set i (ce.set j c))→Mv v.ownBlock w w'→wpList P ops Q rest (Act.mk ts.toArray df) w'):wpList P ops Q (Oper.mk none (.store t x y) ty2 ps af g :: rest) (Act.mk ts.toArray df) w:=by
 obtain ⟨w',b,o,he,hr,ho,hm⟩:=h.storeF (P:=P) hi hj hs h1;refine iN hw (w':=w') ?_ (hk w' ho hm);simp [execOp,hx,hy,he,Instr.storeAt,Instr.sureAddr,hr]
end
structure SetsW (B:Nat) (w:World) (css:List (List Value)) (l:List RSet):Prop where
 len:css.length=l.length
 at':∀ (i:Nat) (s:RSet),l[i]? = some s→∃ x,css[i]? = some [aE s.name, .int .i64 s.kind, .int .i64 s.ttl,x]∧Own B 1 9 w x (aH s.data)
theorem SetsW.sets {l:List RSet} (h:SetsW B w css l):SetsC w css l :=
 ⟨h.len,fun i s hi=>let ⟨x,a,b⟩:=h.at' i s hi;⟨x,a,b.sl⟩⟩
theorem SetsW.ext {l:List RSet} (h:SetsW B w css l) (hx:Ext w w'):SetsW B w' css l :=
 ⟨h.len,fun i s hi=>let ⟨x,a,b⟩:=h.at' i s hi;⟨x,a,b.ext hx⟩⟩
theorem SetsW.mv {B' k' e':Nat} {l:List RSet} (h:SetsW B w css l) (ho:Own B' k' e' w v es) (he:9≠e') (hm:Mv v.ownBlock w w'):SetsW B w' css l :=
 ⟨h.len,fun i s hi=>let ⟨x,a,b⟩:=h.at' i s hi;⟨x,a,b.mv hm (b.ne ho he)⟩⟩
theorem SetsW.put {t:Nat} {l:List RSet} {o:Obj} (h:SetsW B w css l) (hb:w.heap[b]? = some (.cells cs t fz)) (ht:t≠9) (hp:Put w w' b o):SetsW B w' css l :=
 ⟨h.len,fun i s hi=>let ⟨x,a,c⟩:=h.at' i s hi;⟨x,a,c.mv hp.mv (.inr (c.neBlock hb ht))⟩⟩
theorem SetsW.weaken {C:Nat} {l:List RSet} (h:SetsW B w css l) (hc:C≤B):SetsW C w css l :=
 ⟨h.len,fun i s hi=>let ⟨x,a,b⟩:=h.at' i s hi;⟨x,a,b.weaken hc⟩⟩
theorem SetsW.append {l m:List RSet} {c d:List (List Value)} (h:SetsW B w c l) (k:SetsW B w d m):SetsW B w (c ++ d) (l ++ m):=by
 refine ⟨by rw [List.length_append,List.length_append,h.len,k.len],fun i s hi => ?_⟩;rw [List.getElem?_append] at hi ⊢;rw [h.len];split at hi
 ·rw [if_pos ‹_›];exact h.at' i s hi
 ·rw [if_neg ‹_›];exact k.at' _ s hi
theorem SetsW.one {s:RSet} {x:Value} (h:Own B 1 9 w x (aH s.data)):SetsW B w [[aE s.name, .int .i64 s.kind, .int .i64 s.ttl,x]] [s] :=
 ⟨rfl,fun i t hi=>by
  match i,hi with
  | 0,hi=>cases hi;exact ⟨x,rfl,h⟩⟩
theorem SetsW.nil (B:Nat) (w:World):SetsW B w [] []:=⟨rfl,aX⟩
theorem SetsW.from' {C:Nat} {l:List RSet} (h:SetsW B w css l) (hc:C≤B):FromC C css:=by
 intro f hf u hu;obtain ⟨i,hi,rfl⟩:=List.mem_iff_getElem.1 hf;obtain ⟨x,h1,h2⟩:=h.at' i _ (List.getElem?_eq_getElem (by rw [← h.len];exact hi));rw [List.getElem?_eq_getElem hi] at h1;rw [Option.some.inj h1] at hu;exact (FromC.one (h2.from' hc)) _ (List.mem_singleton.2 rfl) u hu
structure SetsV (B:Nat) (w:World) (v:Value) (l:List RSet):Prop where
 out:∃ css,Own B 4 136 w v css∧SetsW B w css l
theorem SetsV.toO {C:Nat} {l:List RSet} (h:SetsV B w v l) (hc:C≤B):SetsO C w v l:=by
 obtain ⟨css,h1,h2⟩:=h;exact ⟨css,h1.sl,h1.from' hc,h2.sets,h2.from' hc⟩
theorem SetsV.ext {l:List RSet} (h:SetsV B w v l) (hx:Ext w w'):SetsV B w' v l:=by
 obtain ⟨css,h1,h2⟩:=h;exact ⟨css,h1.ext hx,h2.ext hx⟩
theorem SetsV.weaken {C:Nat} {l:List RSet} (h:SetsV B w v l) (hc:C≤B):SetsV C w v l:=by
 obtain ⟨css,h1,h2⟩:=h;exact ⟨css,h1.weaken hc,h2.weaken hc⟩
theorem SetsV.put {t:Nat} {l:List RSet} {o:Obj} (h:SetsV B w v l) (hb:w.heap[b]? = some (.cells cs t fz)) (ht:t≠9) (ht2:t≠136) (hp:Put w w' b o):SetsV B w' v l:=by
 obtain ⟨css,h1,h2⟩:=h;exact ⟨css,h1.mv hp.mv (.inr (h1.neBlock hb ht2)),h2.put hb ht hp⟩
theorem SetsV.slf {l:List RSet} (h:SetsV B w v l):∃ a n c,v=.slice a n c:=by
 obtain ⟨css,h1,h2⟩:=h;exact h1.sl.slf
theorem QD (v:Value) (css:List (List Value)) (w:World) (hv:Sl 4 w v css) (h1:∀ f ∈ css,∀ u ∈ f,u.oneCell'=true) (hl:css.length≤1000000):Calls Tryz.prog 63 #[v] w (kX w fun v' w'=>Own w.heap.size 4 136 w' v' css):=by
 go_enter Tryz.func63,Tryz.ntmps63
 (repeat' first | ((with_reducible refine bH ?_);go_step) | ((with_reducible refine aV ?_);first | refine fD ?_ | (refine bO ?_ ?_ <;> intro hc)) | fail)
 ·have hn:=‹vX v=true›;go_ret;have:css=[]:=hv.isNil hn;refine ⟨_,rfl,Ext.refl _,?_⟩;rw [this];exact Own.nil _ _ _ _
 ·refine jY (t:=68) (e:=136) (k:=4) (bytes:=56) zDk rfl ?_;intro v2 w2 x2 s2 o2;refine aB ?_
  (repeat' first | ((with_reducible refine bH ?_);go_step) | ((with_reducible refine aV ?_);first | refine fD ?_ | (refine bO ?_ ?_ <;> intro hc)) | fail)
  refine bW (B:=w.heap.size) (e:=136) rfl o2 rfl (hv.ext x2) h1 x2.size (by simp;omega) ?_;intro v3 w3 o3 m3 _;have x3:=o2.mvx m3 x2 (Nat.le_refl _);refine aB ?_
  (repeat' first | ((with_reducible refine bH ?_);go_step) | ((with_reducible refine aV ?_);first | refine fD ?_ | (refine bO ?_ ?_ <;> intro hc)) | fail)
  go_ret;exact ⟨_,rfl,x3,by simpa using o3⟩
def WV (s:SoaR) (n:Int):SoaR:={ s with serial:=n }
def QE (o:List UInt8) (l:List RSet) (n:Int):Int:=if cV o l=0 then (if (WV (fN o l) n).ok=true then 0 else 1) else cV o l
def Bq (o:List UInt8) (l:List RSet) (n:Int):List UInt8:=(WV (fN o l) n).data
def sS (d:List UInt8) (s:RSet):RSet:=if s.kind=6 then ⟨s.name,s.kind,s.ttl,[d]⟩ else s
def YS (o:List UInt8) (l:List RSet) (n:Int):List RSet:=if QE o l n=0 then l.map (sS (Bq o l n)) else []
def YT (o:List UInt8) (l:List RSet) (n:Int):List UInt8:=if QE o l n=0 then o else []
def RenU (B:Nat) (o:List UInt8) (l:List RSet) (n:Int) (r:Value) (w':World):Prop :=
 ∃ v,r=.tuple #[.agg #[aE (YT o l n),v], .int .i64 (QE o l n)]∧SetsO B w' v (YS o l n)
theorem RenU.bad {l:List RSet} {n e:Int} (h:QE o l n=e) (he:e≠0):RenU B o l n (.tuple #[.agg iP.toArray, .int .i64 e]) w':=by
 refine ⟨.slice none 0 0,?_,?_⟩
 ·rw [h,YT,if_neg (by rw [h];exact he)];rfl
 ·rw [YS,if_neg (by rw [h];exact he)];exact SetsO.nil _ _
theorem RenU.good {l:List RSet} {n:Int} (h:QE o l n=0) (hv:SetsO B w' v (l.map (sS (Bq o l n)))):RenU B o l n (.tuple #[.agg #[aE o,v], .int .i64 0]) w':=by
 refine ⟨v,?_,?_⟩
 ·rw [YT,if_pos h,h]
 ·rw [YS,if_pos h];exact hv
theorem ZoneOk.one6 {l:List RSet} (h:ZoneOk o l) {s:RSet} (hs:s ∈ l) (h6:s.kind=6):s.name=o∧s.data.length=1:=by
 have hr:=h.right s hs;simp only [jG,Bool.and_eq_true,Bool.not_eq_true',h6] at hr;have:=hr.1.1.2;simp only [decide_true,Bool.true_and,Bool.or_eq_false_iff,decide_eq_false_iff_not,ne_eq,Decidable.not_not] at this;exact this
theorem LC {s:RSet} (h:¬ s.kind=6):sS d s=s:=by rw [sS,if_neg h]
theorem HF {s:RSet} (h:s.kind=6):sS d s=⟨s.name,s.kind,s.ttl,[d]⟩:=by rw [sS,if_pos h]
theorem SetsW.set {l:List RSet} (h:SetsW B w css l) {s:RSet} {x:Value} (hx:Own B 1 9 w x (aH s.data)):SetsW B w (css.set i [aE s.name, .int .i64 s.kind, .int .i64 s.ttl,x]) (l.set i s):=by
 refine ⟨by rw [List.length_set,List.length_set,h.len],fun j t hj => ?_⟩;by_cases e:i=j
 ·subst e;have hlt:i < l.length:=by have:=(List.getElem?_eq_some_iff.1 hj).1;simpa using this
  rw [List.getElem?_set_self hlt] at hj;cases hj
  exact ⟨x,List.getElem?_set_self (by rw [h.len];exact hlt),hx⟩
 ·rw [List.getElem?_set_ne e] at hj;rw [List.getElem?_set_ne e];exact h.at' j t hj
structure SetsM (B:Nat) (w0 w:World) (css0 css:List (List Value)) (l:List RSet) (d:List UInt8) (k:Nat):Prop where
 len:css.length=l.length
 new:∀ (i:Nat) (s:RSet),l[i]? = some s→i < k→∃ x,css[i]? = some [aE s.name, .int .i64 s.kind, .int .i64 s.ttl,x]∧Own B 1 9 w x (aH (sS d s).data)
 old:∀ i,k≤i→css[i]? = css0[i]?
theorem SetsM.ext {l:List RSet} (h:SetsM B w0 w css0 css l d k) (hx:Ext w w'):SetsM B w0 w' css0 css l d k :=
 ⟨h.len,fun i s hi hk=>let ⟨x,a,b⟩:=h.new i s hi hk;⟨x,a,b.ext hx⟩,h.old⟩
theorem SetsM.mv {l:List RSet} (h:SetsM B w0 w css0 css l d k) (hm:Mv row w w') (hne:∀ x es,Own B 1 9 w x es→x.ownBlock=none∨x.ownBlock≠row):SetsM B w0 w' css0 css l d k :=
 ⟨h.len,fun i s hi hk=>let ⟨x,a,b⟩:=h.new i s hi hk;⟨x,a,b.mv hm (hne x _ b)⟩,h.old⟩
theorem SetsM.step {l:List RSet} (h:SetsM B w0 w css0 css l d k) (hk:k < l.length) {y:Value} (hy:Own B 1 9 w y (aH (sS d l[k]).data)) :
 SetsM B w0 w css0 (css.set k [aE l[k].name, .int .i64 l[k].kind, .int .i64 l[k].ttl,y]) l d (k + 1):=by
 refine ⟨by rw [List.length_set,h.len],fun i s hi hik => ?_,fun i hi => ?_⟩
 ·by_cases e:k=i
  ·subst e;rw [List.getElem?_eq_getElem hk] at hi;cases hi
   exact ⟨y,List.getElem?_set_self (by rw [h.len];exact hk),hy⟩
  ·obtain ⟨x,a,b⟩:=h.new i s hi aC;exact ⟨x,by rw [List.getElem?_set_ne e];exact a,b⟩
 ·rw [List.getElem?_set_ne aC];exact h.old i aC
theorem ND {s:RSet}:(sS d s).name=s.name∧(sS d s).kind=s.kind∧(sS d s).ttl=s.ttl:=by
 unfold sS;split <;> exact ⟨rfl,rfl,rfl⟩
theorem SetsM.done {l:List RSet} (h:SetsM B w0 w css0 css l d l.length):SetsW B w css (l.map (sS d)):=by
 refine ⟨by rw [List.length_map,h.len],fun i s hi => ?_⟩;rw [List.getElem?_map] at hi;cases hq:l[i]? with
 | none=>rw [hq] at hi;cases hi
 | some t =>
  rw [hq] at hi;cases hi
  obtain ⟨x,a,b⟩:=h.new i t hq (List.getElem?_eq_some_iff.1 hq).1;obtain ⟨e1,e2,e3⟩:=ND (d:=d) (s:=t);exact ⟨x,by rw [e1,e2,e3];exact a,b⟩
theorem QF {s:SoaR} (h:dK d=some s):s.ok=true:=by
 unfold dK at h;simp only at h;split at h
 ·rename_i hh;cases h;exact hh.2.2.2
 ·cases h
theorem ZoneOk.only {l:List RSet} (h:ZoneOk o l) {s:RSet} (hs:s ∈ l) (h6:s.kind=6):s.data=[pX o l]:=by
 obtain ⟨t,ht,_,_,_,hd,_⟩:=h.soaSet;obtain ⟨i,hi,rfl⟩:=List.mem_iff_getElem.1 hs;have hf:=MZ h.chk hi;rw [h6,(h.one6 hs h6).1,ht] at hf;rw [← Option.some.inj hf];exact hd
theorem ZoneOk.back {l:List RSet} (h:ZoneOk o l):(l.map (sS d)).map (sS (pX o l))=l:=by
 rw [List.map_map]
 conv=>rhs;rw [← List.map_id l]
 apply List.map_congr_left;intro s hs;simp only [Function.comp,id];by_cases h6:s.kind=6
 ·rw [HF (d:=d) h6,HF (by exact h6)];have:=h.only hs h6;cases s
  simp only at this;rw [this]
 ·rw [LC (d:=d) h6,LC h6]
theorem wQ {l:List RSet} {r:Rec} (h:r ∈ bC l):∃ s ∈ l,∃ d ∈ s.data,r=tS s d:=by
 simp only [bC,List.mem_flatten,List.mem_map] at h;obtain ⟨rs,⟨s,hs,rfl⟩,hr⟩:=h;simp only [eI,List.mem_map] at hr;obtain ⟨d,hd,rfl⟩:=hr;exact ⟨s,hs,d,hd,rfl⟩
def CV (a b:List Rec):List Rec:=a.filter fun r => !decide (r ∈ b)
structure DeltaR where
 fr:Int
 to:Int
 gone:List Rec
 new:List Rec
 deriving DecidableEq,Inhabited
def WW:DeltaR:=⟨0,0,[],[]⟩
def Br (oa:List UInt8) (la:List RSet) (ob:List UInt8) (lb:List RSet):Int :=
 if cV oa la=0 then (if cV ob lb=0 then (if oa=ob then 0 else 1) else cV ob lb) else cV oa la
def Bs (oa:List UInt8) (la:List RSet) (ob:List UInt8) (lb:List RSet):DeltaR :=
 if Br oa la ob lb=0 then ⟨(fN oa la).serial,(fN ob lb).serial,CV (bC la) (bC lb),CV (bC lb) (bC la)⟩ else WW
def WX:List Rec→List Rec→Option (List Rec)
 | l,[]=>some l
 | l,r :: g=>if r ∈ l then WX (l.erase r) g else none
def Bt:List Rec→List Rec→Option (List Rec)
 | l,[]=>some l
 | l,r :: g=>if r ∈ l then none else Bt (l ++ [r]) g
def LD (l:List Rec) (d:DeltaR):Option (List Rec):=(WX l d.gone).bind fun m=>Bt m d.new
def Bu (o:List UInt8) (m:List Rec) (to:Int):Int :=
 if jJ o m=0 then (if (fN (fZ o m) (pR o m)).serial=to∧(bC (pR o m)).length=m.length∧CV m (bC (pR o m))=[] then 0 else 2) else jJ o m
def sT (o:List UInt8) (l:List RSet) (d:DeltaR):Int :=
 if cV o l=0 then (if (fN o l).serial=d.fr then (match LD (bC l) d with
  | none=>5
  | some m=>Bu o m d.to) else 7) else cV o l
def JO (o:List UInt8) (l:List RSet) (d:DeltaR):List RSet:=if sT o l d=0 then pR o ((LD (bC l) d).getD []) else []
def HG (o:List UInt8) (l:List RSet) (d:DeltaR):List UInt8:=if sT o l d=0 then fZ o ((LD (bC l) d).getD []) else []
theorem Ch.same {L M:List Rec} {s:RSet} (h:Ch L s) (hm:∀ r,r ∈ L↔r ∈ M):Ch M s where
 dat d:=by
  rw [h.dat];constructor
  ·rintro ⟨r,h1,h2⟩;exact ⟨r,(hm r).1 h1,h2⟩
  ·rintro ⟨r,h1,h2⟩;exact ⟨r,(hm r).2 h1,h2⟩
 ttl:=let ⟨r,h1,h2⟩:=h.ttl;⟨r,(hm r).1 h1,h2⟩
 low r h1 h2:=h.low r ((hm r).2 h1) h2
theorem Bv {oa ob:List UInt8} {la lb:List RSet} (h:Br oa la ob lb=0):ZoneOk oa la∧ZoneOk oa lb∧oa=ob∧Bs oa la ob lb=⟨(fN oa la).serial,(fN oa lb).serial,CV (bC la) (bC lb),CV (bC lb) (bC la)⟩:=by
 have h0:=h;unfold Br at h;split at h
 ·rename_i q1;split at h
  ·rename_i q2;split at h
   ·rename_i q3;subst q3;exact ⟨lQ q1,lQ q2,rfl,by rw [Bs,if_pos h0]⟩
   ·cases h
  ·rename_i q2;exact absurd h q2
 ·rename_i q1;exact absurd h q1
def qO:List Value:=[aE [], .int .i64 0, .int .i64 0,aE []]
theorem jK (v:Value) (l:List Rec) (w:World) (hv:Sl 4 w v (aF l)) (hl:l.length≤1000000):Calls Tryz.prog 45 #[v] w (kX w fun v' w'=>Own w.heap.size 4 37 w' v' (aF l)):=by
 have hlen:=aK l;go_enter Tryz.func45,Tryz.ntmps45
 (repeat' first | ((with_reducible refine bH ?_);go_step) | ((with_reducible refine aV ?_);first | refine fD ?_ | (refine bO ?_ ?_ <;> intro hc)) | fail)
 ·have hn:=‹vX v=true›;go_ret;have:aF l=[]:=hv.isNil hn;refine ⟨_,rfl,Ext.refl _,?_⟩;rw [this];exact Own.nil _ _ _ _
 ·refine jY (t:=28) (e:=37) (k:=4) (bytes:=48) zDk rfl ?_;intro v2 w2 x2 s2 o2;refine aB ?_;refine_lift cL ?_;refine bW (B:=w.heap.size) (e:=37) rfl o2 rfl (hv.ext x2) (by intro f hf u hu;obtain ⟨r,_,rfl⟩:=List.mem_map.1 hf;simp only [Rec.cells,List.mem_cons,List.not_mem_nil,or_false] at hu;rcases hu with rfl | rfl | rfl | rfl <;> rfl) x2.size (by simp;omega) ?_;intro v3 w3 o3 m3 _;have x3:=o2.mvx m3 x2 (Nat.le_refl _);refine aB ?_;refine_lift cL ?_;go_ret;exact ⟨_,rfl,x3,by simpa using o3⟩
end Go.Proofs.X
namespace Go.Proofs.X
open Go.RowKit
def Dw:List Value:=[.int .i64 0, .int .i64 0, .slice none 0 0, .slice none 0 0]
def DelA (d:DeltaR) (r:Value) (w:World):Prop:=∃ g n,r=.agg #[.int .i64 d.fr, .int .i64 d.to,g,n]∧Sl 4 w g (aF d.gone)∧Sl 4 w n (aF d.new)
def DelO (B:Nat) (d:DeltaR) (r:Value) (w:World):Prop:=∃ g n,r=.agg #[.int .i64 d.fr, .int .i64 d.to,g,n]∧Own B 4 37 w g (aF d.gone)∧Own B 4 37 w n (aF d.new)
theorem DelO.a {B:Nat} {d:DeltaR} {r:Value} {w:World} (h:DelO B d r w):DelA d r w:=let ⟨g,n,e,a,b⟩:=h;⟨g,n,e,a.sl,b.sl⟩
def DelU (B:Nat) (d:DeltaR) (e:Int) (r:Value) (w:World):Prop:=∃ y,r=.tuple #[y, .int .i64 e]∧DelO B d y w
theorem DelU.bad {B:Nat} {d:DeltaR} {e:Int} {w:World} (h:d=WW):DelU B d e (.tuple #[.agg Dw.toArray, .int .i64 e]) w:=by
 subst h;exact ⟨_,rfl,_,_,rfl,Own.nil _ _ _ _,Own.nil _ _ _ _⟩
variable {cs:Array Value} {held:Bool} {qt:Int} {ps rs:List (List UInt8 × Nat)} {ls:List (List UInt8)} {css css0 es:List (List Value)} {d l m n o qn s t x y z:List UInt8} {B a b base c e fuel i j k p q:Nat} {fz:Nat × Nat} {row:Option Nat} {r u v:Value} {w w' w0 w1 w2:World}
theorem gM {l:List Rec}:∀ f ∈ aF l,∀ u ∈ f,u.oneCell'=true:=by
 intro f hf u hu;obtain ⟨r,_,rfl⟩:=List.mem_map.1 hf;simp only [Rec.cells,List.mem_cons,List.not_mem_nil,or_false] at hu;rcases hu with rfl | rfl | rfl | rfl <;> rfl
theorem DelA.ext {d:DeltaR} (h:DelA d r w) (hx:Ext w w'):DelA d r w':=by
 obtain ⟨g,n,e,a,b⟩:=h;exact ⟨g,n,e,a.ext hx,b.ext hx⟩
theorem NE (pn:Value) (n:List UInt8) (s:RSet) (u:Value) (w:World) (hn:Pts w pn [aE n]):Calls Tryz.prog 204 #[.agg #[aE s.name, .int .i64 s.kind, .int .i64 s.ttl,u],pn] w (aY w (.bool (bY s.name n))):=by
 go_enter Tryz.func204,Tryz.ntmps204
 refine_lift mO fun _ _ => ?_;refine mW (vs:=[aE s.name, .int .i64 s.kind, .int .i64 s.ttl,u]) fun ps w1 x1 hs => ?_;refine aB ?_;have hn1:=hn.ext x1;refine_lift fM fun _ _ => ?_;refine bZ (jI s.name n _) fun w2 x2 => ?_;refine_lift cL ?_;go_ret;exact ⟨rfl,x1.trans x2⟩
theorem QH (o:List UInt8) (v:Value) (l:List RSet) (n:List UInt8) (w:World) (hv:SetsAt w v l):Calls Tryz.prog 160 #[.agg #[aE o,v],aE n] w (aY w (.bool (l.any fun s=>bY s.name n))):=by
 go_enter Tryz.func160,Tryz.ntmps160
 refine_lift rW ?_;intro _ _ _;refine mW (vs:=[aE o,v]) fun p w1 x1 hp => ?_;refine aB ?_;refine_lift WM ?_;refine mW (vs:=[aE n]) fun pn w2 x2 hn => ?_;refine aB ?_;have hx2:=x1.trans x2;have hp2:=hp.ext x2;have hv2:=hv.ext hx2;refine_lift fM fun _ _ => ?_;have hf:SetFn w2 204 #[pn] l (fun s=>bY s.name n):=fun s _ x w' hx' _=>NE pn n s x w' (hn.ext hx');refine bZ (mG v l 204 #[pn] (fun s=>bY s.name n) _ hv2 (enters_of Tryz.func204 rfl rfl) hf) fun w3 x3 => ?_;refine_lift cL ?_;go_ret;exact ⟨rfl,hx2.trans x3⟩
def NF (l:List RSet) (n a:List UInt8):List RSet:=(l.filter fun s=>decide (s.name=n)).map fun s=>⟨a,s.kind,s.ttl,s.data⟩
theorem UG {l:List RSet} {a:List UInt8} (h:k < l.length):NF (l.take (k + 1)) n a=NF (l.take k) n a ++ (if l[k].name=n then [⟨a,l[k].kind,l[k].ttl,l[k].data⟩] else []):=by
 unfold NF;rw [List.take_succ_eq_append_getElem h,List.filter_append,List.map_append]
 congr 1
 by_cases hm:l[k].name=n <;> simp [hm]
theorem QI (l:List RSet) (n a:List UInt8):(NF l n a).length≤l.length:=by
 unfold NF;rw [List.length_map];exact List.length_filter_le _ _
theorem Bw (o:List UInt8) (v:Value) (l:List RSet) (n a:List UInt8) (w0 w:World) (hx0:Ext w0 w) (hv0:SetsAt w0 v l) (hl:l.length≤100000) :
 Calls Tryz.prog 161 #[.agg #[aE o,v],aE n,aE a] w (kX w fun r w'=>∃ css,Own w.heap.size 4 136 w' r css∧SetsC w0 css (NF l n a)):=by
 have hv:=hv0.ext hx0;obtain ⟨cv,hv1,hvl⟩:=hv.sl;go_enter Tryz.func161,Tryz.ntmps161
 refine_lift rW ?_;intro _ _ _;refine mW (vs:=[aE o,v]) fun p w1 x1 hp => ?_;refine aB ?_;have hv2:=hv1.ext x1;refine_lift fM fun _ _ => ?_;go_loopw [7,9,13] (fun r _ i wr=>∃ (k:Nat) (css:List (List Value)),k≤l.length∧i=.int .i64 k∧Ext w wr∧Own w.heap.size 4 136 wr r css∧SetsC w0 css (NF (l.take k) n a)) (fun _ _ i _=>l.length - (intOf i).toNat)
 case atStart=>exact ⟨0,[],Nat.zero_le _,rfl,x1,Own.nil _ _ _ _,⟨rfl,by simp [NF]⟩⟩
 case round =>
  obtain ⟨k,css,hk,rfl,hx,ho,hc⟩:=hrel;have hvr:=hv1.ext hx;by_cases hlt:k < l.length
  ·obtain ⟨x,h4w,h4dw⟩:=hv0.elem (List.getElem?_eq_getElem hlt);have h4:=h4w.ext (hx0.trans hx);have h4d:=h4dw.ext (hx0.trans hx);have hst:=UG (n:=n) (a:=a) hlt;have hcl:=hc.len;have hal:=QI (l.take k) n a;rw [List.length_take] at hal;refine_lift IR ?_;intro _ _ _ _ _ _;refine dT (z:=gS) fun w2 x2 s2 h2 => ?_;refine aB ?_;refine dH (v:=.agg #[aE l[k].name, .int .i64 l[k].kind, .int .i64 l[k].ttl,x]) h2 (gB rfl rfl rfl (h4d.ext x2).one) fun w3 p3 => ?_;have x3:=cB x2 p3;have b3:w3.heap[wr.heap.size]? = some (.cells [aE l[k].name, .int .i64 l[k].kind, .int .i64 l[k].ttl,x].toArray 136 (0,0)):=p3.this;have h3:=aA b3;have hx3:=hx.trans x3;have ho3:=ho.ext x3;clear p3 h2 x2;refine_lift PH (fun _ => ?_) (fun _ _ _ => ?_)
   ·have hm:l[k].name=n:=by assumption
    rw [if_pos hm] at hst;refine eZ 0 _ b3 rfl fun w4 p4 => ?_;have x4:=cB x3 p4;have h5:Pts w4 (.pointer (some ⟨wr.heap.size,0,none⟩)) [aE a, .int .i64 l[k].kind, .int .i64 l[k].ttl,x]:=aA p4.this;have hx4:=hx.trans x4;have ho4:=ho.ext x4;have hd4:=h4d.ext x4;clear p4 b3 h3;refine_lift cL ?_;refine Bc [aE a, .int .i64 l[k].kind, .int .i64 l[k].ttl,x] hx4 ho4 aC ?_ ⟨rfl,rfl,rfl,by intro u hu;simp only [List.mem_cons,List.not_mem_nil,or_false] at hu;rcases hu with rfl | rfl | rfl | rfl <;> first | rfl | exact hd4.one⟩;intro s5 v5 w5 w6 x5 m6 x6 o6;refine aB ?_;refine_lift cL ?_;exact ⟨⟨k + 1,_,aC,by go_num,x6,o6,by rw [hst];exact hc.append (SetsC.one (s:=⟨a,l[k].kind,l[k].ttl,l[k].data⟩) h4dw)⟩,by simp [intOf];omega⟩
   ·have hm:¬ l[k].name=n:=by assumption
    rw [if_neg hm,List.append_nil] at hst;exact ⟨⟨k + 1,css,aC,by go_num,hx3,ho3,by rw [hst];exact hc⟩,by simp [intOf];omega⟩
  ·have:k=l.length:=aC;subst this;rw [List.take_length] at hc;refine_lift xQ fun _ => ?_;go_ret;exact ⟨_,rfl,hx,_,ho,hc⟩
end Go.Proofs.X
