/- Laws and walks that the proof of the statement is made of (part 5). -/
import Derived.Test.YtfkckeaadnoeiaaGreatP4
set_option linter.unusedSimpArgs false
set_option linter.unusedVariables false
set_option maxRecDepth 100000
set_option maxHeartbeats 20000000
namespace Go.Proofs.X
open Go.RowKit
variable {cs:Array Value} {held:Bool} {qt:Int} {ps rs:List (List UInt8×Nat)} {ls:List (List UInt8)} {css css0 es:List (List Value)} {d l m n o qn s t x y z:List UInt8} {B a b base c e fuel i j k p q:Nat} {fz:Nat×Nat} {row:Option Nat} {r u v:Value} {w w' w0 w1 w2:World}
def QN (o:List UInt8) (l:List RSet) (s:RSet):Bool :=
 !(FD o l s.name).2||decide (s.kind=1)||decide (s.kind=28)||(decide (s.kind=2)&&decide (s.name=(FD o l s.name).1))
def AE (s t:RSet):Bool:=decide (t.name=s.name)&&decide (t.kind≠5)
def jG (o:List UInt8) (l:List RSet) (s:RSet):Bool :=
 bW s.name o && !(decide (s.kind=6)&&(decide (s.name≠o)||decide (s.data.length≠1))) && !(decide (s.kind=5)&&(decide (s.data.length≠1)||l.any (AE s)))&&QN o l s
def AF (a b:RSet):Bool:=decide (pF a.name b.name<0)||(decide (pF a.name b.name=0)&&decide (a.kind<b.kind))
theorem NW (a b:RSet):AF a b=decide (eT a.name b.name a.kind b.kind<0):=by
 unfold AF eT NL;by_cases h1:pF a.name b.name<0
 ·rw [if_pos aC];simp [h1]
 ·by_cases h2:pF a.name b.name=0
  ·simp [h2];by_cases h3:a.kind<b.kind
   ·simp [h3]
   ·simp [h3];split<;>omega
  ·rw [if_pos h2];simp [h1,h2]
def eH (o:List UInt8):Int:=if (aM o).isSome then 0 else 1
def cW (o:List UInt8) (l:List RSet):Int :=
 if eH o≠0∨fold o≠o∨cU l≠0 then 1 else
 if (cK l o 6).isSome=false∨(cK l o 2).isSome=false then 2 else
 if l.any (fun s => !jG o l s)=true then 2 else 0
theorem TPO.ltt {α:Type} {c:α→α→Int} (h:TPO c) {x y z:α} (h1:c x y<0) (h2:c y z<0):c x z<0:=by
 have h3:=h.tr x y z aC aC;rcases Int.lt_or_eq_of_le h3 with h4|h4
 ·exact h4
 ·exfalso
  have h5:=(h.eqL h4 (z:=y)).1 aC;have h6:=h.anti y z;omega
theorem HT {l:List RSet} (h:cU l=0):∀ i,i<l.length→kI l i=false:=by
 unfold cU at h;split at h
 ·omega
 ·split at h
  ·rename_i h1;intro i hi;rw [List.all_eq_true]at h1;have:=h1 i (by simpa using hi)
   simpa using this
  ·omega
theorem vS {l:List RSet} (h:cU l=0) (hi:i<l.length):lS l[i]=true:=by
 have:=HT h i hi;rw [kI,List.getElem?_eq_getElem hi]at this;simp only [Bool.or_eq_false_iff,Bool.not_eq_false']at this;exact this.1
theorem QO {l:List RSet} (h:cU l=0) (hi:i+1<l.length):eT l[i].name l[i+1].name l[i].kind l[i+1].kind<0:=by
 have:=HT h (i+1) hi;rw [kI,List.getElem?_eq_getElem hi]at this;simp only [Bool.or_eq_false_iff,Bool.and_eq_false_iff,decide_eq_false_iff_not]at this;have h2:=this.2.resolve_left aC;have e:l.getD (i+1 - 1) default=l[i]:=by simp [show i<l.length by omega]
 rw [e]at h2;omega
theorem pL {l:List RSet} (h:cU l=0) (i:Nat):∀ j (hj:i<j) (hl:j<l.length),eT l[i].name l[j].name l[i].kind l[j].kind<0
 | 0,hj,_=>by omega
 | j+1,hj,hl=>by
   have h1:=QO h hl;by_cases e:i=j
   ·subst e;exact h1
   ·have h2:=pL h i j aC aC;exact mI.ltt (x:=(l[i].name,l[i].kind)) (y:=(l[j].name,l[j].kind)) (z:=(l[j+1].name,l[j+1].kind)) h2 h1
theorem HU {s:RSet} (h:lS s=true):fold s.name=s.name:=by
 simp only [lS,Bool.and_eq_true,decide_eq_true_eq]at h;exact h.1.1.1
theorem NX {l:List RSet} (h:cU l=0) (hi:i<l.length):cK l l[i].name l[i].kind=some l[i]:=by
 have hf:=HU (vS h hi);refine MC hi ?_ (by simp [hit,hf]);rw [List.find?_eq_none];intro x hx hh;obtain ⟨j,hj,rfl⟩:=List.getElem_of_mem hx;have hj':j<i:=by rw [List.length_take]at hj;omega
 rw [List.getElem_take]at hh;simp only [hit,hf,Bool.and_eq_true,decide_eq_true_eq]at hh;have h1:=pL h j i hj' hi;rw [hh.1,hh.2]at h1;have h2:=mI.refl (l[i].name,l[i].kind);simp only at h2;omega
theorem Ci {α β:Type} {F:α→β→World→Prop} {G:α→β→World→Prop} {goal:Prop} (h1:(∀ x y w',F x y w'→G x y w')→goal) (h2:∀ x y w',F x y w'→G x y w'):goal:=h1 h2
def gB (o n:List UInt8) (s:RSet):Bool:=decide (s.kind=2)&&decide (s.name≠o)&&bW n s.name
def gU (o:List UInt8) (l:List RSet) (n:List UInt8):List UInt8×Bool:=match l.find? (gB o n) with
 | some s=>(s.name,true)
 | none=>([],false)
theorem AG {b:List UInt8×Bool} {s:RSet} (h:gB o n s=false):nF o n b s=b:=by
 unfold nF;rw [if_neg];rintro ⟨h1,h2,h3,_⟩;simp [gB,h1,h2,h3]at h
theorem HV {s:RSet} (h:gB o n s=true):nF o n (m,false) s=(s.name,true):=by
 simp only [gB,Bool.and_eq_true,decide_eq_true_eq]at h;unfold nF;rw [if_pos ⟨h.1.1,h.1.2,h.2, .inl rfl⟩]
theorem FE {s:RSet} (h:gB o n s=true→qP m≤qP s.name):nF o n (m,true) s=(m,true):=by
 cases hc:gB o n s with
 | false=>exact AG hc
 | true =>
  have:=h hc;unfold nF;rw [if_neg];rintro ⟨_,_,_,h4⟩;rcases h4 with h4|h4
  ·cases h4
  ·simp only at h4;omega
theorem DL:∀ {l:List RSet},(∀ t∈l,gB o n t=true→qP m≤qP t.name)→l.foldl (nF o n) (m,true)=(m,true)
 | [],_=>rfl
 | t::l,h=>by
   rw [List.foldl_cons,FE (h t aX),DL fun u hu=>h u (by simp [hu])]
theorem DM:∀ {l:List RSet},l.Pairwise (fun s t=>gB o n s=true→gB o n t=true→qP s.name≤qP t.name)→FD o l n=gU o l n
 | [],_=>rfl
 | t::l,h=>by
   obtain ⟨h1,h2⟩:=List.pairwise_cons.1 h;unfold FD gU;rw [List.foldl_cons,List.find?_cons];cases hc:gB o n t with
   | true=>simp only [HV hc];exact DL fun u hu=>h1 u hu hc
   | false=>simp only [AG hc];exact DM h2
theorem xG {a:List (List UInt8)} (h:dO n=some a):qP n=a.length:=by
 rw [DJ]at h;cases hl:aM n with
 | none=>rw [hl]at h;cases h
 | some ls =>
  rw [hl]at h;cases h
  simp [qP,hl]
theorem jH (h:bW n t=true):∃ a b,dO n=some a∧dO t=some b∧a.take b.length=b:=by
 unfold bW at h;cases ha:dO n with
 | none=>rw [ha]at h;cases h
 | some a =>
  cases hb:dO t with
  | none=>rw [ha,hb]at h;cases h
  | some b =>
   rw [ha,hb]at h;exact ⟨a,b,rfl,rfl,by simpa using h⟩
theorem oM {a b:List (List UInt8)} (ha:dO n=some a) (hb:dO t=some b):bW n t=decide (a.take b.length=b):=by
 unfold bW;rw [ha,hb]
theorem xH {α:Type} {a b:List α} (h:a.take b.length=b):b.length≤a.length:=by
 have:=congrArg List.length h;rw [List.length_take]at this;omega
theorem KI {a b c:List (List UInt8)} (hb:a.take b.length=b) (hc:a.take c.length=c) (h:iV b c≤0):b.length≤c.length:=by
 have e:iV b c=if b.length<c.length then -1 else if c.length<b.length then 1 else 0:=by
  rcases Nat.le_total b.length c.length with hl|hl
  ·refine HS (k:=b.length) ?_ (Nat.le_refl _) hl (.inl rfl);rw [List.take_length,← hc,List.take_take,Nat.min_eq_left hl,hb]
  ·refine HS (k:=c.length) ?_ hl (Nat.le_refl _) (.inr rfl);rw [List.take_length,← hb,List.take_take,Nat.min_eq_left hl,hc]
 rw [e]at h;split at h
 ·omega
 ·split at h<;>omega
theorem QP {a b:List UInt8} {j k:Int} (h:eT a b j k<0):pF a b≤0:=by
 unfold eT at h;split at h<;>omega
theorem AH {l:List RSet} (h:cU l=0) (n:List UInt8):FD o l n=gU o l n:=by
 refine DM ?_;rw [List.pairwise_iff_getElem];intro i j hi hj hij h1 h2;have hc:=QP (pL h i j hij hj);simp only [gB,Bool.and_eq_true]at h1 h2;obtain ⟨a,b,ha,hb,e1⟩:=jH h1.2;obtain ⟨a',c,ha',hc',e2⟩:=jH h2.2;rw [ha]at ha';cases ha'
 rw [xG hb,xG hc'];refine KI e1 e2 ?_;unfold pF at hc;rw [hb,hc']at hc;exact hc
theorem nG:(dO n).isSome=(aM n).isSome:=by
 rw [DJ];cases aM n<;>rfl
theorem AI (h:(aM n).isSome=true):bW n n=true:=by
 rw [← nG]at h;obtain ⟨a,ha⟩:=Option.isSome_iff_exists.1 h;rw [oM ha ha];simp
theorem HW {a b c:List UInt8} (h:bW a b=true) (k:bW b c=true):bW a c=true:=by
 obtain ⟨x,y,hx,hy,e1⟩:=jH h;obtain ⟨y',z,hy',hz,e2⟩:=jH k;rw [hy]at hy';cases hy'
 have hl:=xH e2;rw [oM hx hz,decide_eq_true_eq];rw [← e1,List.take_take,Nat.min_eq_left hl]at e2;exact e2
theorem uK {a b:List UInt8} (h:bW a b=true):(aM a).isSome=true∧(aM b).isSome=true:=by
 obtain ⟨x,y,hx,hy,_⟩:=jH h;rw [← nG,← nG,hx,hy];exact ⟨rfl,rfl⟩
structure ZoneOk (o:List UInt8) (l:List RSet):Prop where
 lab:(aM o).isSome=true
 fold:fold o=o
 chk:cU l=0
 soa:(cK l o 6).isSome=true
 ns:(cK l o 2).isSome=true
 right:∀ s∈l,jG o l s=true
theorem lT {l:List RSet} (h:cW o l=0):ZoneOk o l:=by
 unfold cW at h;split at h
 ·cases h
 ·rename_i h1;split at h
  ·cases h
  ·rename_i h2;split at h
   ·cases h
   ·rename_i h3;simp only [not_or,ne_eq,Decidable.not_not,Bool.not_eq_false]at h1 h2;refine ⟨?_,h1.2.1,h1.2.2,h2.1,h2.2,fun s hs=>?_⟩
    ·have:=h1.1;unfold eH at this;split at this
     ·assumption
     ·cases this
    ·cases hr:jG o l s with
     | true=>rfl
     | false=>exact absurd (List.any_eq_true.2 ⟨s,hs,by simp [hr]⟩) h3
theorem qQ {l:List RSet} (h:ZoneOk o l):cW o l=0:=by
 obtain ⟨h1,h2,h3,h4,h5,h6⟩:=h;have h7:l.any (fun s => !jG o l s)=false:=by
  rw [List.any_eq_false];intro s hs;simp [h6 s hs]
 unfold cW eH;simp [h1,h2,h3,h4,h5,h7]
theorem HX {l:List RSet} {s:RSet} (h:jG o l s=true):bW s.name o=true:=by
 simp only [jG,Bool.and_eq_true]at h;exact h.1.1.1
theorem ZoneOk.may {l:List RSet} (h:ZoneOk o l) {s:RSet} (hs:s∈l):lS s=true:=by
 obtain ⟨i,hi,rfl⟩:=List.getElem_of_mem hs;exact vS h.chk hi
theorem ZoneOk.small {l:List RSet} (h:ZoneOk o l) {s:RSet} (hs:s∈l):X.fold s.name=s.name∧(aM s.name).isSome=true :=
 ⟨HU (h.may hs),(uK (HX (h.right s hs))).1⟩
theorem oN {l:List RSet} {k:Int} {s:RSet} (h:cK l n k=some s):s∈l∧s.name=fold n∧s.kind=k:=by
 have h1:=List.mem_of_find?_eq_some h;have h2:=List.find?_some h;simp only [hit,Bool.and_eq_true,decide_eq_true_eq]at h2;exact ⟨h1,h2⟩
theorem ZoneOk.cut {l:List RSet} (h:ZoneOk o l) {c:List UInt8} (hc:FD o l n=(c,true)):bW n c=true∧c≠o∧FD o l c=(c,true):=by
 rw [AH h.chk,gU]at hc;rw [AH h.chk,gU];cases hf:l.find? (gB o n) with
 | none=>rw [hf]at hc;cases hc
 | some s =>
  rw [hf]at hc;simp only [Prod.mk.injEq,and_true]at hc;subst hc;obtain ⟨h1,la,lb,h2,h3⟩:=List.find?_eq_some_iff_append.1 hf;have hs:s∈l:=by rw [h2];simp
  have h1':=h1;simp only [gB,Bool.and_eq_true,decide_eq_true_eq]at h1';refine ⟨h1'.2,h1'.1.2,?_⟩;have:l.find? (gB o s.name)=some s:=by
   rw [List.find?_eq_some_iff_append];refine ⟨?_,la,lb,h2,fun t ht=>?_⟩
   ·simp only [gB,Bool.and_eq_true,decide_eq_true_eq];exact ⟨h1'.1,AI (h.small hs).2⟩
   ·have hn:=h3 t ht;cases hq:gB o s.name t with
    | false=>rfl
    | true =>
     simp only [gB,Bool.and_eq_true,decide_eq_true_eq]at hq;have:gB o n t=true:=by
      simp only [gB,Bool.and_eq_true,decide_eq_true_eq];exact ⟨hq.1,HW h1'.2 hq.2⟩
     rw [this]at hn;exact hn
  rw [this]
theorem HY (m:List UInt8):Lib.hasSuffix (m ++ [0]) [0]=true∧Lib.trimSuffix (m ++ [0]) [0]=m:=by
 have h:Lib.hasSuffix (m ++ [0]) [0]=true:=by
  unfold Lib.hasSuffix;rw [List.isSuffixOf_iff_suffix];exact List.suffix_append _ _
 refine ⟨h,?_⟩;unfold Lib.trimSuffix;rw [if_pos h];simp
theorem AJ (h:jR s=some m):s=m ++ [0]∧(aM m).isSome=true:=by
 unfold jR at h;split at h
 ·rename_i hh;obtain ⟨h1,h2⟩:=hh;unfold Lib.hasSuffix at h1;rw [List.isSuffixOf_iff_suffix]at h1;obtain ⟨t,rfl⟩:=h1;obtain ⟨_,h3⟩:=HY t;rw [h3]at h h2;cases h
  exact ⟨rfl,h2⟩
 ·cases h
theorem VB (u v:Value) (a b:List (List UInt8)) (w:World) (hu:Sl 1 w u (aH a)) (hv:Sl 1 w v (aH b)):Calls Tryz.prog 99 #[u,v] w (bC w (.bool (decide (a=b)))):=by
 have hal:=hu.le;have ha:=bH a;have hb:=bH b;go_enter Tryz.func99,Tryz.ntmps99
 (repeat' first|((with_reducible refine aZ ?_);go_step)|((with_reducible refine aS ?_);first|refine dU ?_|(refine bG ?_ ?_<;>intro hc))|fail)
 ·have hne:=‹(!decide (((aH a).length:Int)=((aH b).length:Int)))=true›;go_ret;refine ⟨?_,Ext.refl _⟩;have:a≠b:=by rintro rfl;simp at hne
  simp [this]
 ·have hne:=‹(!decide (((aH a).length:Int)=((aH b).length:Int)))=false›;have hlen:a.length=b.length:=by simp at hne;omega
  go_loopw [5,13] (fun _ i wr=>∃ k:Nat,k≤a.length∧i=.int .i64 k∧Ext w wr∧a.take k=b.take k) (fun _ i _=>a.length - (intOf i).toNat)
  case atStart=>exact ⟨0,Nat.zero_le _,rfl,Ext.refl _,rfl⟩
  case round =>
   obtain ⟨k,hk,rfl,hx,hall⟩:=hrel;by_cases hlt:k<a.length
   ·have hlt2:k<b.length:=aC;have h1:=(hu.ext hx).elem (kH hlt);have h2:=(hv.ext hx).elem (kH hlt2);have hu2:=hu.ext hx;have hv2:=hv.ext hx;refine_lift JS ?_;intro _ _ _ _ _ _;refine cQ (S:=Ext wr) zDk ?_;intro w2 x2 _;refine tk 0 ?_;refine aB ?_;refine tk 1 ?_;refine aB ?_;refine tk 2 ?_;refine aB ?_;refine tk 3 ?_;refine aB ?_;refine tk 4 ?_;refine aB ?_;refine tk 5 ?_;refine aB ?_;refine tk 6 ?_;refine aB ?_;refine tk 7 ?_;refine aB ?_;refine tk 8 ?_;refine aB ?_;refine cO zDk ?_;by_cases he:a[k]=b[k]
    ·have e1:decide (a[k]=b[k])=true:=decide_eq_true he;simp only [e1,Bool.not_true];refine_lift cL ?_;exact ⟨⟨k+1,aC,by go_num,by exact fP,uE hall hlt hlt2 he⟩,by simp [intOf];omega⟩
    ·have e1:decide (a[k]=b[k])=false:=decide_eq_false he;simp only [e1,Bool.not_false];refine_lift cL ?_;go_ret;refine ⟨?_,by exact fP⟩;simp [HP hlt hlt2 he]
   ·have hk2:k=a.length:=aC;subst hk2;refine_lift yL fun _=>?_;go_ret;refine ⟨?_,by exact fP⟩;rw [List.take_length,hlen,List.take_length]at hall;simp [hall]
theorem jI (n t:List UInt8) (w:World):Calls Tryz.prog 51 #[aE n,aE t] w (bC w (.bool (bW n t))):=by
 go_enter Tryz.func51,Tryz.ntmps51
 refine_lift fN fun _ _=>?_;refine gY (Br n _) fun r1 w1 x1 h1=>?_;cases ha:dO n with
 | none =>
  rw [ha]at h1;obtain ⟨s1,rfl⟩:=h1;refine_lift fN fun _ _=>?_;refine gY (Br t _) fun r2 w2 x2 h2=>?_;obtain ⟨s2,b2,rfl⟩:∃ s b,r2=.tuple #[s, .bool b]:=by
   cases hb:dO t with
   | none=>rw [hb]at h2;obtain ⟨s,rfl⟩:=h2;exact ⟨s,_,rfl⟩
   | some y=>rw [hb]at h2;obtain ⟨s,rfl,_⟩:=h2;exact ⟨s,_,rfl⟩
  refine_lift cL ?_;go_ret;exact ⟨by simp [bW,ha],x1.trans x2⟩
 | some a =>
  rw [ha]at h1;obtain ⟨s1,rfl,hs1,hl1⟩:=h1;refine_lift fN fun _ _=>?_;refine gY (Br t _) fun r2 w2 x2 h2=>?_;cases hb:dO t with
  | none =>
   rw [hb]at h2;obtain ⟨s2,rfl⟩:=h2;refine_lift cL ?_;go_ret;exact ⟨by simp [bW,ha,hb],x1.trans x2⟩
  | some b =>
   rw [hb]at h2;obtain ⟨s2,rfl,hs2,hl2⟩:=h2;have hs1:=hs1.ext x2;have tl1:=bH a;have tl2:=bH b;refine_lift PZ (fun hc=>?_) (fun _ _ hc=>?_)
   ·have hle:b.length≤a.length:=aC;have hcut:=hs1.cut (m:=0) (n:=(aH b).length) (Nat.zero_le _) aC;rw [List.drop_zero]at hcut;have hcut:Sl 1 w2 (dD s1 1 0 (aH b).length) (aH (a.take b.length)):=by
     rw [tl2]at hcut ⊢
     simpa [aH,List.map_take]using hcut
    refine cB (VB _ _ _ _ _ hcut hs2) fun w3 x3=>?_;refine_lift cL ?_;go_ret;exact ⟨by rw [oM ha hb];rfl,(x1.trans x2).trans x3⟩
   ·go_ret;refine ⟨?_,x1.trans x2⟩;have hlt:a.length<b.length:=aC;rw [oM ha hb,decide_eq_false (fun h=>by have:=xH h;omega)];rfl
def oO {α:Type} (p:α→Bool) (l:List α):Int:=match l.findIdx? p with
 | some i=>(i:Int)
 | none=>-1
theorem oP {α:Type} (p:α→Bool) (l:List α):(∃ (k:Nat) (hk:k<l.length),oO p l=k∧p l[k]=true∧l.find? p=some l[k])∨(oO p l=-1∧l.any p=false∧l.find? p=none):=by
 unfold oO;cases h:l.findIdx? p with
 | none =>
  rw [List.findIdx?_eq_none_iff]at h;refine .inr ⟨rfl,?_,?_⟩
  ·rw [List.any_eq_false];intro x hx;simp [h x hx]
  ·rw [List.find?_eq_none];intro x hx;simp [h x hx]
 | some k =>
  rw [List.findIdx?_eq_some_iff_getElem]at h;obtain ⟨hk,hp,hj⟩:=h;refine .inl ⟨k,hk,rfl,hp,?_⟩;rw [List.find?_eq_some_iff_getElem];exact ⟨hp,k,hk,rfl,fun j hjk=>by simpa using hj j hjk⟩
theorem vT {α:Type} {p:α→Bool} {l:List α} (hk:k<l.length) (ha:(l.take k).any p=false) (hp:p l[k]=true):oO p l=k:=by
 have:l.findIdx? p=some k:=by
  rw [List.findIdx?_eq_some_iff_getElem];refine ⟨hk,hp,fun j hj=>?_⟩;rw [List.any_eq_false]at ha;exact ha l[j] (by rw [List.mem_take_iff_getElem];exact ⟨j,aC,rfl⟩)
 rw [oO,this]
theorem vU {α:Type} {p:α→Bool} {l:List α} (ha:l.any p=false):oO p l=-1:=by
 have:l.findIdx? p=none:=by
  rw [List.findIdx?_eq_none_iff];intro x hx;rw [List.any_eq_false]at ha
  simpa using ha x hx
 rw [oO,this]
theorem uL {α:Type} (p:α→Bool) (l:List α):decide (0≤oO p l)=l.any p:=by
 rcases oP p l with ⟨k,hk,e,hp,_⟩|⟨e,h,_⟩
 ·rw [e,ZL hk hp];simp
 ·rw [e,h];rfl
def SetFn (w:World) (f:FuncId) (caps:Array Value) (l:List RSet) (p:RSet→Bool):Prop :=
 ∀ s∈l,∀ x w',Ext w w'→Sl 1 w' x (aH s.data)→Calls Tryz.prog f ([Value.agg #[aE s.name, .int .i64 s.kind, .int .i64 s.ttl,x]].toArray++caps) w' (bC w' (.bool (p s)))
theorem SetFn.ext {f:FuncId} {caps:Array Value} {l:List RSet} {p:RSet→Bool} (h:SetFn w f caps l p) (hx:Ext w w1):SetFn w1 f caps l p :=
 fun s hs x w' hx' hd=>h s hs x w' (hx.trans hx') hd
theorem nH (v:Value) (l:List RSet) (f:FuncId) (caps:Array Value) (p:RSet→Bool) (w:World) (hv:SetsAt w v l) (he:Enters Tryz.prog f) (hf:SetFn w f caps l p):Calls Tryz.prog 106 #[v, .func (.func f) #[] caps] w (bC w (.int .i64 (oO p l))):=by
 obtain ⟨cv,hv1,hvl⟩:=hv.sl;have hle:=hv1.le;go_enter Tryz.func106,Tryz.ntmps106
 refine_lift fN fun _ _=>?_;go_loopw [5,8] (fun _ i wr=>∃ k:Nat,k≤l.length∧i=.int .i64 k∧Ext w wr∧(l.take k).any p=false) (fun _ i _=>l.length - (intOf i).toNat)
 case atStart=>exact ⟨0,Nat.zero_le _,rfl,Ext.refl _,rfl⟩
 case round =>
  obtain ⟨k,hk,rfl,hx,hall⟩:=hrel;have hv2:=hv1.ext hx;by_cases hlt:k<l.length
  ·obtain ⟨x,h4,h4d⟩:=(hv.ext hx).elem (List.getElem?_eq_getElem hlt);refine_lift JS ?_;intro _ _ _ _ _ _;refine dW he rfl rfl rfl (hf _ (List.getElem_mem hlt) x _ hx h4d) ?_;rintro e w2 ⟨rfl,x2⟩;refine ⟨_,rfl,?_⟩;refine aB ?_;cases hp:p l[k] with
   | true =>
    refine_lift cL ?_;go_ret;exact ⟨by rw [vT hlt hall hp];rfl,hx.trans x2⟩
   | false =>
    refine_lift cL ?_;exact ⟨⟨k+1,aC,by go_num,hx.trans x2,oL hlt hall hp⟩,by simp [intOf];omega⟩
  ·have:k=l.length:=aC;subst this;rw [List.take_length]at hall;refine_lift yL fun _=>?_;go_ret;exact ⟨by rw [vU hall];rfl,hx⟩
theorem mN (v:Value) (l:List RSet) (f:FuncId) (caps:Array Value) (p:RSet→Bool) (w:World) (hv:SetsAt w v l) (he:Enters Tryz.prog f) (hf:SetFn w f caps l p):Calls Tryz.prog 60 #[v, .func (.func f) #[] caps] w (bC w (.bool (l.any p))):=by
 go_enter Tryz.func60,Tryz.ntmps60
 refine_lift fN fun _ _=>?_;refine cB (nH v l f caps p _ hv he hf) fun w1 x1=>?_;refine_lift cL ?_;go_ret;exact ⟨by rw [← uL];rfl,x1⟩
theorem ZM (o n:List UInt8) (v pz pn:Value) (s:RSet) (x:Value) (w:World) (hz:Pts w pz [aE o,v]) (hn:Pts w pn [aE n]):Calls Tryz.prog 172 #[.agg #[aE s.name, .int .i64 s.kind, .int .i64 s.ttl,x],pz,pn] w (bC w (.bool (gB o n s))):=by
 go_enter Tryz.func172,Tryz.ntmps172
 refine_lift mT fun _ _=>?_;refine mW (vs:=[aE s.name, .int .i64 s.kind, .int .i64 s.ttl,x]) fun p w1 x1 hp=>?_;refine aB ?_;have hz1:=hz.ext x1;have hn1:=hn.ext x1;refine_lift XK (fun hc hc=>?_) (fun hc=>?_) (fun _ _ hc hc=>?_)
 ·have hk:=‹s.kind=2›;have hne:=‹(!decide (s.name=o))=true›;refine cB (jI n s.name _) fun w2 x2=>?_;refine_lift cL ?_;go_ret;refine ⟨?_,x1.trans x2⟩;have hne':s.name≠o:=by simpa using hne
  simp [gB,hk,hne']
 all_goals
  go_ret;refine ⟨?_,x1⟩;simp_all [gB]
theorem XO (o:List UInt8) (v:Value) (l:List RSet) (n:List UInt8) (w:World) (hv:SetsAt w v l):Calls Tryz.prog 123 #[.agg #[aE o,v],aE n] w (bC w (.tuple #[aE (gU o l n).1, .bool (gU o l n).2])):=by
 obtain ⟨cv,hv1,hvl⟩:=hv.sl;go_enter Tryz.func123,Tryz.ntmps123
 refine_lift mT fun _ _=>?_;refine mW (vs:=[aE o,v]) fun pz w1 x1 hz=>?_;refine aB ?_;refine_lift XH ?_;refine mW (vs:=[aE n]) fun pn w2 x2 hn=>?_;refine aB ?_;have hx2:=x1.trans x2;have hz2:=hz.ext x2;refine_lift fN fun _ _=>?_;have hf:SetFn w2 172 #[pz,pn] l (gB o n):=fun s _ x w' hx' _=>ZM o n v pz pn s x w' (hz2.ext hx') (hn.ext hx');refine cB (nH v l 172 #[pz,pn] (gB o n) _ (hv.ext hx2) (enters_of Tryz.func172 rfl rfl) hf) fun w3 x3=>?_;have hx3:=hx2.trans x3;have hz3:=hz2.ext x3;rcases oP (gB o n) l with ⟨k,hk,e,hp,hfi⟩|⟨e,h,hfi⟩
 ·rw [e];obtain ⟨x,h4,h4d⟩:=(hv.ext hx3).elem (List.getElem?_eq_getElem hk);have hv3:=hv1.ext hx3;refine_lift yL fun _=>?_;go_ret2;exact ⟨by simp only [gU,hfi];rfl,hx3⟩
 ·rw [e];refine_lift yL fun _=>?_;go_ret2;exact ⟨by simp only [gU,hfi];rfl,hx3⟩
def Rule (w:World) (f:Value) (b:Bool):Prop:=∃ (g:FuncId) (caps:Array Value),f=.func (.func g) #[] caps∧Enters Tryz.prog g∧∀ w',Ext w w'→Calls Tryz.prog g (([]:List Value).toArray++caps) w' (bC w' (.bool b))
theorem QR (o:List UInt8) (v ps pz:Value) (s:RSet) (u:Value) (w:World) (hs:Pts w ps [aE s.name, .int .i64 s.kind, .int .i64 s.ttl,u]) (hz:Pts w pz [aE o,v]):Calls Tryz.prog 118 #[ps,pz] w (bC w (.bool (bW s.name o))):=by
 go_enter Tryz.func118,Tryz.ntmps118
 refine_lift fN fun _ _=>?_;refine cB (jI s.name o _) fun w1 x1=>?_;refine_lift cL ?_;go_ret;exact ⟨rfl,x1⟩
def HZ (o:List UInt8) (s:RSet) (one:Bool):Bool:=decide (s.kind≠6)||(decide (s.name=o)&&one)
theorem QS (o:List UInt8) (v ps pz pb:Value) (s:RSet) (u:Value) (one:Bool) (w:World) (hs:Pts w ps [aE s.name, .int .i64 s.kind, .int .i64 s.ttl,u]) (hz:Pts w pz [aE o,v]) (hb:Pts w pb [.bool one]):Calls Tryz.prog 119 #[ps,pz,pb] w (bC w (.bool (HZ o s one))):=by
 go_enter Tryz.func119,Tryz.ntmps119
 refine_lift XJ (fun hc hc=>?_) (fun hc=>?_) (fun hc hc=>?_)
 all_goals
  go_ret;refine ⟨?_,Ext.refl _⟩;simp_all [HZ]
theorem NY (ps:Value) (s t:RSet) (u x:Value) (w:World) (hs:Pts w ps [aE s.name, .int .i64 s.kind, .int .i64 s.ttl,u]):Calls Tryz.prog 121 #[.agg #[aE t.name, .int .i64 t.kind, .int .i64 t.ttl,x],ps] w (bC w (.bool (AE s t))):=by
 go_enter Tryz.func121,Tryz.ntmps121
 refine_lift mT fun _ _=>?_;refine mW (vs:=[aE t.name, .int .i64 t.kind, .int .i64 t.ttl,x]) fun p w1 x1 hp=>?_;refine aB ?_;have hs1:=hs.ext x1;refine_lift KB (fun hc=>?_) (fun hc=>?_)
 all_goals
  go_ret;refine ⟨?_,x1⟩;simp_all [AE]
def AK (l:List RSet) (s:RSet) (one:Bool):Bool:=decide (s.kind≠5)||(one && !l.any (AE s))
theorem QT (o:List UInt8) (v ps pz pb:Value) (l:List RSet) (s:RSet) (u:Value) (one:Bool) (w:World) (hs:Pts w ps [aE s.name, .int .i64 s.kind, .int .i64 s.ttl,u]) (hz:Pts w pz [aE o,v]) (hb:Pts w pb [.bool one]) (hv:SetsAt w v l):Calls Tryz.prog 120 #[ps,pb,pz] w (bC w (.bool (AK l s one))):=by
 have hf:SetFn w 121 #[ps] l (AE s):=fun t _ x w' hx' _=>NY ps s t u x w' (hs.ext hx');go_enter Tryz.func120,Tryz.ntmps120
 cases one with
 | false =>
  refine_lift KB (fun hc=>?_) (fun hc=>?_)
  all_goals
   go_ret;refine ⟨?_,Ext.refl _⟩;simp_all [AK]
 | true =>
  refine_lift PZ (fun hc=>?_) (fun _ _ hc=>?_)
  ·have h5:s.kind=5:=by simpa using (by assumption:(!decide (s.kind=5))=false)
   refine cB (mN v l 121 #[ps] (AE s) _ hv (enters_of Tryz.func121 rfl rfl) hf) fun w1 x1=>?_;refine_lift cL ?_;go_ret;exact ⟨by simp [AK,h5],x1⟩
  all_goals
   go_ret;refine ⟨?_,Ext.refl _⟩;simp_all [AK]
def xI (o:List UInt8) (l:List RSet) (s:RSet):Bool :=
 !(gU o l s.name).2||decide (s.kind=1)||decide (s.kind=28)||(decide (s.kind=2)&&decide (s.name=(gU o l s.name).1))
theorem QU (o:List UInt8) (v ps pz:Value) (l:List RSet) (s:RSet) (u:Value) (w:World) (hs:Pts w ps [aE s.name, .int .i64 s.kind, .int .i64 s.ttl,u]) (hz:Pts w pz [aE o,v]) (hv:SetsAt w v l):Calls Tryz.prog 122 #[pz,ps] w (bC w (.bool (xI o l s))):=by
 go_enter Tryz.func122,Tryz.ntmps122
 refine_lift fN fun _ _=>?_;refine cB (XO o v l s.name _ hv) fun w1 x1=>?_;generalize hcut:gU o l s.name=g at *;obtain ⟨c,is⟩:=g;have hs1:=hs.ext x1;cases is with
 | false =>
  refine_lift cL ?_;go_ret;exact ⟨by simp [xI,hcut],x1⟩
 | true =>
  (repeat' first|((with_reducible refine aZ ?_);go_step)|((with_reducible refine aS ?_);first|refine dU ?_|(refine bG ?_ ?_<;>intro hc))|fail)
  all_goals
   go_ret;refine ⟨?_,x1⟩;simp_all [xI]
theorem QV (f:Value) (b:Bool) (w:World) (hf:Rule w f b):Calls Tryz.prog 125 #[f] w (bC w (.bool (!b))):=by
 obtain ⟨g,caps,rfl,he,hc⟩:=hf;go_enter Tryz.func125,Tryz.ntmps125
 refine_lift fN fun _ _=>?_;refine dW he rfl rfl rfl (hc _ (Ext.refl _)) ?_;rintro e w1 ⟨rfl,x1⟩;refine ⟨_,rfl,?_⟩;refine aB ?_;refine_lift cL ?_;go_ret;exact ⟨rfl,x1⟩
theorem Rule.ext {f:Value} {b:Bool} (h:Rule w f b) (hx:Ext w w'):Rule w' f b:=by
 obtain ⟨g,caps,h1,h2,h3⟩:=h;exact ⟨g,caps,h1,h2,fun w2 hx2=>h3 w2 (hx.trans hx2)⟩
def tA (l:List (Value×Bool)):List (List Value):=l.map fun x=>[x.1]
theorem BY (l:List (Value×Bool)):(tA l).length=l.length:=by simp [tA]
theorem NZ {l:List (Value×Bool)} (h:k<l.length):(tA l)[k]? = some [l[k].1]:=by simp [tA,h]
def OA (x:Value×Bool):Bool := !x.2
theorem IA (v:Value) (l:List (Value×Bool)) (w:World) (hv:Sl 1 w v (tA l)) (hf:∀ x∈l,Rule w x.1 x.2):Calls Tryz.prog 173 #[v, .func (.func 125) #[] #[]] w (bC w (.int .i64 (oO OA l))):=by
 have hle:=hv.le;have hlen:=BY l;go_enter Tryz.func173,Tryz.ntmps173
 refine_lift fN fun _ _=>?_;go_loopw [5,8] (fun _ i wr=>∃ k:Nat,k≤l.length∧i=.int .i64 k∧Ext w wr∧(l.take k).any OA=false) (fun _ i _=>l.length - (intOf i).toNat)
 case atStart=>exact ⟨0,Nat.zero_le _,rfl,Ext.refl _,rfl⟩
 case round =>
  obtain ⟨k,hk,rfl,hx,hall⟩:=hrel;have hv2:=hv.ext hx;by_cases hlt:k<l.length
  ·have hp:=hv2.elem (NZ hlt);refine_lift JS ?_;intro _ _ _ _ _ _;refine dW (f:=125) (caps:=#[]) (enters_of Tryz.func125 rfl rfl) rfl rfl rfl (QV l[k].1 l[k].2 _ ((hf _ (List.getElem_mem hlt)).ext hx)) ?_;rintro e w2 ⟨rfl,x2⟩;refine ⟨_,rfl,?_⟩;refine aB ?_;cases hb:l[k].2 with
   | false =>
    refine_lift yL fun _=>?_;go_ret;exact ⟨by rw [vT hlt hall (by simp [OA,hb])];rfl,hx.trans x2⟩
   | true =>
    refine_lift yL fun _=>?_;exact ⟨⟨k+1,aC,by go_num,hx.trans x2,oL hlt hall (by simp [OA,hb])⟩,by simp [intOf];omega⟩
  ·have:k=l.length:=aC;subst this;rw [List.take_length]at hall;refine_lift yL fun _=>?_;go_ret;exact ⟨by rw [vU hall];rfl,hx⟩
theorem AL (v:Value) (l:List (Value×Bool)) (w:World) (hv:Sl 1 w v (tA l)) (hf:∀ x∈l,Rule w x.1 x.2):Calls Tryz.prog 124 #[v, .func (.func 125) #[] #[]] w (bC w (.bool (l.any OA))):=by
 go_enter Tryz.func124,Tryz.ntmps124
 refine_lift fN fun _ _=>?_;refine cB (IA v l _ hv hf) fun w1 x1=>?_;refine_lift cL ?_;go_ret;exact ⟨by rw [← uL];rfl,x1⟩
theorem VC (o:List UInt8) (v:Value) (l:List RSet) (s:RSet) (u:Value) (w:World) (hv:SetsAt w v l) (hu:Sl 1 w u (aH s.data)) (hck:cU l=0):Calls Tryz.prog 62 #[.agg #[aE o,v], .agg #[aE s.name, .int .i64 s.kind, .int .i64 s.ttl,u]] w (bC w (.bool (jG o l s))):=by
 have hlen:=bH s.data;go_enter Tryz.func62,Tryz.ntmps62
 refine_lift mT fun _ _=>?_;refine mW (vs:=[aE o,v]) fun pz w1 x1 hz=>?_;refine aB ?_;refine_lift XH ?_;refine mW (vs:=[aE s.name, .int .i64 s.kind, .int .i64 s.ttl,u]) fun ps w2 x2 hs=>?_;refine aB ?_;have hz2:=hz.ext x2;have hx2:=x1.trans x2;have hu2:=hu.ext hx2;refine_lift fN fun _ _=>?_;refine dX (z:=[.bool false]) fun w3 x3 s3 h3=>?_;refine aB ?_;have hone:decide (((aH s.data).length:Int)=1)=decide (s.data.length=1):=by rw [hlen,Bool.eq_iff_iff];simp;omega
 rw [hone];refine eA (v:=.bool (decide (s.data.length=1))) rfl rfl rfl h3 zDk rfl ?_;intro w4 p4;have x4:=cJ x3 p4;have hb4:=aA (cs:=[.bool (decide (s.data.length=1))]) p4.this;have hz4:=hz2.ext x4;have hs4:=hs.ext x4;have hx4:=hx2.trans x4;have hv4:=hv.ext hx4;clear p4 h3 x3;generalize hpb:Value.pointer (some ⟨w2.heap.size,0,none⟩)=pb at *;refine_lift fN fun _ _=>?_;have r1:Rule w4 (.func (.func 118) #[] #[ps,pz]) (bW s.name o):=⟨118,_,rfl,enters_of Tryz.func118 rfl rfl,fun w' hx'=>QR o v ps pz s u w' (hs4.ext hx') (hz4.ext hx')⟩;have r2:Rule w4 (.func (.func 119) #[] #[ps,pz,pb]) (HZ o s (decide (s.data.length=1))):=⟨119,_,rfl,enters_of Tryz.func119 rfl rfl,fun w' hx'=>QS o v ps pz pb s u _ w' (hs4.ext hx') (hz4.ext hx') (hb4.ext hx')⟩;have r3:Rule w4 (.func (.func 120) #[] #[ps,pb,pz]) (AK l s (decide (s.data.length=1))):=⟨120,_,rfl,enters_of Tryz.func120 rfl rfl,fun w' hx'=>QT o v ps pz pb l s u _ w' (hs4.ext hx') (hz4.ext hx') (hb4.ext hx') (hv4.ext hx')⟩;have r4:Rule w4 (.func (.func 122) #[] #[pz,ps]) (xI o l s):=⟨122,_,rfl,enters_of Tryz.func122 rfl rfl,fun w' hx'=>QU o v ps pz l s u w' (hs4.ext hx') (hz4.ext hx') (hv4.ext hx')⟩;refine oD (e:=27) (k:=1) (bytes:=8) (xs:=[.func (.func 118) #[] #[ps,pz], .func (.func 119) #[] #[ps,pz,pb], .func (.func 120) #[] #[ps,pb,pz], .func (.func 122) #[] #[pz,ps]]) (by simp [Value.cells]) fun v5 w5 x5 _ sl5 _=>?_;refine aB ?_;have sl5:Sl 1 w5 v5 (tA [(.func (.func 118) #[] #[ps,pz],bW s.name o),(.func (.func 119) #[] #[ps,pz,pb],HZ o s (decide (s.data.length=1))),(.func (.func 120) #[] #[ps,pb,pz],AK l s (decide (s.data.length=1))),(.func (.func 122) #[] #[pz,ps],xI o l s)]):=sl5;refine_lift fN fun _ _=>?_;refine cB (AL v5 _ _ sl5 (by
  intro x hx;simp only [List.mem_cons,List.not_mem_nil,or_false]at hx;rcases hx with rfl|rfl|rfl|rfl
  ·exact r1.ext x5
  ·exact r2.ext x5
  ·exact r3.ext x5
  ·exact r4.ext x5)) fun w6 x6=>?_
 refine_lift cL ?_;go_ret;refine ⟨?_,(hx4.trans x5).trans x6⟩
 congr 2
 have h4:QN o l s=xI o l s:=by rw [QN,xI,AH hck]
 simp only [jG,h4,List.any_cons,List.any_nil,OA,HZ,AK,Bool.or_false];cases bW s.name o<;>cases xI o l s<;>simp<;>by_cases a6:s.kind=6<;>by_cases a5:s.kind=5<;>by_cases an:s.name=o<;>by_cases a1:s.data.length=1<;>cases l.any (AE s)<;>simp_all
def fH:RSet:=⟨[],0,0,[]⟩
theorem uM {o:Option RSet} (h:match o with
 | some s=>∃ x,r=.tuple #[.agg #[aE s.name, .int .i64 s.kind, .int .i64 s.ttl,x], .bool true]∧Own w.heap.size 1 9 w' x (aH s.data)
 | none=>r=.tuple #[.agg gT.toArray, .bool false]):∃ x,r=.tuple #[.agg #[aE (o.getD fH).name, .int .i64 (o.getD fH).kind, .int .i64 (o.getD fH).ttl,x], .bool o.isSome]∧Sl 1 w' x (aH (o.getD fH).data):=by
 cases o with
 | none=>exact ⟨.slice none 0 0,h,Sl.nil _ _⟩
 | some s=>obtain ⟨x,h1,h2⟩:=h;exact ⟨x,h1,h2.sl⟩
theorem QW (o:List UInt8) (v pz:Value) (l:List RSet) (s:RSet) (u:Value) (w:World) (hz:Pts w pz [aE o,v]) (hv:SetsAt w v l) (hu:Sl 1 w u (aH s.data)) (hck:cU l=0):Calls Tryz.prog 61 #[.agg #[aE s.name, .int .i64 s.kind, .int .i64 s.ttl,u],pz] w (bC w (.bool (!jG o l s))):=by
 go_enter Tryz.func61,Tryz.ntmps61
 repeat' (first|((with_reducible refine aZ ?_);go_step)|fail)
 refine mW (vs:=[aE s.name, .int .i64 s.kind, .int .i64 s.ttl,u]) fun ps w1 x1 hs=>?_;refine aB ?_;have hz1:=hz.ext x1
 (repeat' first|((with_reducible refine aZ ?_);go_step)|((with_reducible refine aS ?_);first|refine dU ?_|(refine bG ?_ ?_<;>intro hc))|fail)
 refine bK (enters_of Tryz.func62 rfl rfl) rfl rfl (VC o v l s u _ (hv.ext x1) (hu.ext x1) hck) ?_;intro w2 x2;refine aB ?_
 (repeat' first|((with_reducible refine aZ ?_);go_step)|((with_reducible refine aS ?_);first|refine dU ?_|(refine bG ?_ ?_<;>intro hc))|fail)
 go_ret;exact ⟨rfl,x1.trans x2⟩
theorem uN (o:List UInt8) (v:Value) (l:List RSet) (w:World) (hv:SetsAt w v l) (hb:∀ s∈l,s.data.length≤1000000):Calls Tryz.prog 32 #[.agg #[aE o,v]] w (bC w (.int .i64 (cW o l))):=by
 obtain ⟨cv,hv1,hvl⟩:=hv.sl;have hle:=hv1.le;have hb':∀ s∈l,s.data.length≤8796093022208:=fun s hs=>by have:=hb s hs;omega
 go_enter Tryz.func32,Tryz.ntmps32
 repeat' (first|((with_reducible refine aZ ?_);go_step)|fail)
 refine mW (vs:=[aE o,v]) fun p w1 x1 hp=>?_;refine aB ?_
 (repeat' first|((with_reducible refine aZ ?_);go_step)|((with_reducible refine aS ?_);first|refine dU ?_|(refine bG ?_ ?_<;>intro hc))|fail)
 have c1:∀ w',Calls Tryz.prog 52 #[aE o] w' (bC w' (.int .i64 (eH o))):=fun w'=>PO o w';have hv2:=hv.ext x1;have c3:∀ w',Ext w1 w'→Calls Tryz.prog 58 #[v] w' (bC w' (.int .i64 (cU l))):=fun w' x'=>Ft v l w' (hv2.ext x');refine dA zDk zDk ?_
 (try ((with_reducible refine EW ?_);refine UH ?_))
 refine hO (enters_of Tryz.func52 rfl rfl) rfl rfl (fun w' _=>c1 w') ?_;refine aB ?_
 (try ((with_reducible refine EW ?_);refine UH ?_))
 by_cases q1:eH o=0
 ·rw [decide_eq_true q1];simp only [Bool.not_true]
  (try ((with_reducible refine EW ?_);refine UH ?_))
  refine hO (enters_of Tryz.func53 rfl rfl) rfl rfl (fun w' _=>vQ o w') ?_;refine aB ?_
  (try ((with_reducible refine EW ?_);refine UH ?_))
  by_cases q2:fold o=o
  ·rw [decide_eq_true q2];simp only [Bool.not_true]
   (try ((with_reducible refine EW ?_);refine UH ?_))
   refine hO (enters_of Tryz.func58 rfl rfl) rfl rfl (fun w' x'=>c3 w' x') ?_;refine aB ?_
   (try ((with_reducible refine EW ?_);refine UH ?_))
   intro w2 x2;by_cases q3:cU l=0
   ·rw [decide_eq_true q3];simp only [Bool.not_true];have hx2:=x1.trans x2;have hp2:=hp.ext x2;have hs2:=hv.ext hx2
    (repeat' first|((with_reducible refine aZ ?_);go_step)|((with_reducible refine aS ?_);first|refine dU ?_|(refine bG ?_ ?_<;>intro hc))|fail)
    refine fV (enters_of Tryz.func59 rfl rfl) rfl rfl (Bs v l o 6 _ hs2 hb') ?_;intro r3 w3 x3 hr3;obtain ⟨y3,rfl,hy3⟩:=uM hr3;clear hr3
    (repeat' first|((with_reducible refine aZ ?_);go_step)|((with_reducible refine aS ?_);first|refine dU ?_|(refine bG ?_ ?_<;>intro hc))|fail)
    refine dX (z:=gT) fun w4 x4 s4 h4=>?_;refine aB ?_;refine dL h4 (gE rfl rfl rfl (hy3.one)) fun w5 p5=>?_;have x5:=cJ x4 p5;have hx5:=hx2.trans (x3.trans x5);have hp5:=hp.ext (x2.trans (x3.trans x5));have hs5:=hv.ext hx5;clear p5 h4 x4
    (repeat' first|((with_reducible refine aZ ?_);go_step)|((with_reducible refine aS ?_);first|refine dU ?_|(refine bG ?_ ?_<;>intro hc))|fail)
    refine fV (enters_of Tryz.func59 rfl rfl) rfl rfl (Bs v l o 2 _ hs5 hb') ?_;intro r6 w6 x6 hr6;obtain ⟨y6,rfl,hy6⟩:=uM hr6;clear hr6
    (repeat' first|((with_reducible refine aZ ?_);go_step)|((with_reducible refine aS ?_);first|refine dU ?_|(refine bG ?_ ?_<;>intro hc))|fail)
    refine dX (z:=gT) fun w7 x7 s7 h7=>?_;refine aB ?_;refine dL h7 (gE rfl rfl rfl (hy6.one)) fun w8 p8=>?_;have x8:=cJ x7 p8;have hx8:=hx5.trans (x6.trans x8);have hp8:=hp5.ext (x6.trans x8);have hs8:=hv.ext hx8;clear p8 h7 x7;cases f6:(cK l o 6).isSome with
    | false =>
     (repeat' first|((with_reducible refine aZ ?_);go_step)|((with_reducible refine aS ?_);first|refine dU ?_|(refine bG ?_ ?_<;>intro hc))|fail)
     go_ret;exact ⟨by rw [show cW o l=2 by simp [cW,q1,q2,q3,f6]];rfl,hx8⟩
    | true =>
     cases f2:(cK l o 2).isSome with
     | false =>
      (repeat' first|((with_reducible refine aZ ?_);go_step)|((with_reducible refine aS ?_);first|refine dU ?_|(refine bG ?_ ?_<;>intro hc))|fail)
      go_ret;exact ⟨by rw [show cW o l=2 by simp [cW,q1,q2,q3,f6,f2]];rfl,hx8⟩
     | true =>
      (repeat' first|((with_reducible refine aZ ?_);go_step)|((with_reducible refine aS ?_);first|refine dU ?_|(refine bG ?_ ?_<;>intro hc))|fail)
      have hf:SetFn w8 61 #[p] l (fun s => !jG o l s):=fun s _ x w' hx' hd'=>QW o v p l s x w' (hp8.ext hx') (hs8.ext hx') hd' q3;refine bK (enters_of Tryz.func60 rfl rfl) rfl rfl (mN v l 61 #[p] (fun s => !jG o l s) _ hs8 (enters_of Tryz.func61 rfl rfl) hf) ?_;intro w9 x9;refine aB ?_;cases ha:l.any (fun s => !jG o l s) with
      | true =>
       (repeat' first|((with_reducible refine aZ ?_);go_step)|((with_reducible refine aS ?_);first|refine dU ?_|(refine bG ?_ ?_<;>intro hc))|fail)
       go_ret;exact ⟨by rw [show cW o l=2 by simp only [cW,q1,q2,q3,f6,f2,ha];simp];rfl,hx8.trans x9⟩
      | false =>
       (repeat' first|((with_reducible refine aZ ?_);go_step)|((with_reducible refine aS ?_);first|refine dU ?_|(refine bG ?_ ?_<;>intro hc))|fail)
       go_ret;exact ⟨by rw [show cW o l=0 by simp only [cW,q1,q2,q3,f6,f2,ha];simp];rfl,hx8.trans x9⟩
   ·rw [decide_eq_false q3];simp only [Bool.not_false]
    (repeat' first|((with_reducible refine aZ ?_);go_step)|((with_reducible refine aS ?_);first|refine dU ?_|(refine bG ?_ ?_<;>intro hc))|fail)
    go_ret;exact ⟨by rw [show cW o l=1 by simp [cW,q3]];rfl,x1.trans x2⟩
  ·rw [decide_eq_false q2];simp only [Bool.not_false]
   (try ((with_reducible refine EW ?_);refine UH ?_))
   intro w2 x2
   (repeat' first|((with_reducible refine aZ ?_);go_step)|((with_reducible refine aS ?_);first|refine dU ?_|(refine bG ?_ ?_<;>intro hc))|fail)
   go_ret;exact ⟨by rw [show cW o l=1 by simp [cW,q2]];rfl,x1.trans x2⟩
 ·rw [decide_eq_false q1];simp only [Bool.not_false]
  (try ((with_reducible refine EW ?_);refine UH ?_))
  intro w2 x2
  (repeat' first|((with_reducible refine aZ ?_);go_step)|((with_reducible refine aS ?_);first|refine dU ?_|(refine bG ?_ ?_<;>intro hc))|fail)
  go_ret;exact ⟨by rw [show cW o l=1 by simp [cW,q1]];rfl,x1.trans x2⟩
theorem Cj (o:List UInt8) (v:Value) (l:List RSet) (n:List UInt8) (w:World) (hv:SetsAt w v l) (hb:∀ s∈l,s.data.length≤1000000):Calls Tryz.prog 102 #[.agg #[aE o,v],aE n] w (bC w (.tuple (if cW o l=0 then #[aE (FD o l n).1, .bool (FD o l n).2]else #[aE [], .bool false]))):=by
 go_enter Tryz.func102,Tryz.ntmps102
 repeat' (first|((with_reducible refine aZ ?_);go_step)|fail)
 refine mW (vs:=[aE o,v]) fun p w1 x1 hp=>?_;refine aB ?_;have hv1:=hv.ext x1
 (repeat' first|((with_reducible refine aZ ?_);go_step)|((with_reducible refine aS ?_);first|refine dU ?_|(refine bG ?_ ?_<;>intro hc))|fail)
 refine bK (enters_of Tryz.func32 rfl rfl) rfl rfl (uN o v l _ hv1 hb) ?_;intro w2 x2;refine aB ?_;have hx2:=x1.trans x2;have hp2:=hp.ext x2;have hv2:=hv1.ext x2
 (repeat' first|((with_reducible refine aZ ?_);go_step)|((with_reducible refine aS ?_);first|refine dU ?_|(refine bG ?_ ?_<;>intro hc))|fail)
 ·rename_i q;have q':¬ cW o l=0:=by simpa using q
  go_ret2;exact ⟨by rw [if_neg q'];rfl,hx2⟩
 ·have q':cW o l=0:=by simpa using (by assumption:(!decide (cW o l=0))=false)
  refine bK (enters_of Tryz.func123 rfl rfl) rfl rfl (XO o v l n _ hv2) ?_;intro w3 x3;refine aB ?_
  (repeat' first|((with_reducible refine aZ ?_);go_step)|((with_reducible refine aS ?_);first|refine dU ?_|(refine bG ?_ ?_<;>intro hc))|fail)
  go_ret2;exact ⟨by rw [if_pos q',AH (lT q').chk];rfl,hx2.trans x3⟩
theorem KJ {s:RSet} (h:lS s=true) (hi:i<s.data.length):bI ⟨s.name,s.kind,s.ttl,s.data[i]⟩=0:=by
 simp only [lS,Bool.and_eq_true,List.all_eq_true]at h;have:=h.2 i (by simpa using hi);simp only [qO,Bool.not_eq_true',Bool.or_eq_false_iff,decide_eq_false_iff_not,ne_eq,Decidable.not_not]at this;have e:s.data.getD i []=s.data[i]:=by simp [hi]
 rw [e]at this;exact this.1
theorem qR {r:Rec} (h:bI r=0):r.data.length≤4000∧fits r.kind r.data=true:=by
 unfold bI at h;split at h
 ·omega
 ·split at h
  ·omega
  ·rename_i h2;simp only [not_or,Bool.not_eq_false]at h2;exact ⟨aC,h2.2.2.2.2.2⟩
def zR:SoaR:=⟨[],[],0,0,0,0,0⟩
theorem QX:zR.cells=dE:=rfl
def qE (o:List UInt8) (l:List RSet):List UInt8:=((cK l o 6).getD fH).data.getD 0 []
def fO (o:List UInt8) (l:List RSet):SoaR:=if cW o l=0 then gA (qE o l)else zR
theorem KK (h:(dK d).isSome=true):dK d=some (gA d):=by
 unfold dK at *;simp only at *;split at h
 ·rename_i h1;rw [if_pos h1]
 ·cases h
theorem ZoneOk.soaSet {l:List RSet} (h:ZoneOk o l):∃ s,cK l o 6=some s∧s∈l∧s.name=o∧s.kind=6∧s.data=[qE o l]∧dK (qE o l)=some (gA (qE o l))∧(qE o l).length≤4000:=by
 obtain ⟨s,hs⟩:=Option.isSome_iff_exists.1 h.soa;obtain ⟨h1,h2,h3⟩:=oN hs;have hr:=h.right s h1;have hm:=h.may h1;have hl:s.data.length=1:=by
  simp only [jG,Bool.and_eq_true,Bool.not_eq_true',h3]at hr;have:=hr.1.1.2;simp only [decide_true,Bool.true_and,Bool.or_eq_false_iff,decide_eq_false_iff_not,ne_eq,Decidable.not_not]at this;exact this.2
 have hd:s.data=[qE o l]:=by
  have e:qE o l=s.data.getD 0 []:=by rw [qE,hs];rfl
  rw [e]
  match s.data,hl with
  | [d],_=>rfl
 have hc:=KJ hm (i:=0) aC;obtain ⟨c1,c2⟩:=qR hc;have e0:s.data[0]'(aC)=qE o l:=by simp [hd]
 simp only [e0,h3]at c1 c2;refine ⟨s,hs,h1,by rw [h2,h.fold],h3,hd,KK ?_,c1⟩
 simpa [fits]using c2
theorem AM (s:SoaR):(Value.agg s.cells.toArray).cells.all (·.oneCell')=true:=by
 simp [SoaR.cells,Value.cells,Value.oneCell',aE]
theorem Ck (o:List UInt8) (v:Value) (l:List RSet) (w:World) (hv:SetsAt w v l) (hb:∀ s∈l,s.data.length≤1000000) (hd:∀ s∈l,∀ d∈s.data,d.length≤4611686018427387904):Calls Tryz.prog 205 #[.agg #[aE o,v]] w (bC w (.tuple #[.agg (fO o l).cells.toArray, .int .i64 (cW o l)])):=by
 go_enter Tryz.func205,Tryz.ntmps205
 repeat' (first|((with_reducible refine aZ ?_);go_step)|fail)
 refine mW (vs:=[aE o,v]) fun p w1 x1 hp=>?_;refine aB ?_;refine dX (z:=dE) fun w2 x2 s2 h2=>?_;refine aB ?_;have hx2:=x1.trans x2;have hp2:=hp.ext x2;have hv2:=hv.ext hx2
 (repeat' first|((with_reducible refine aZ ?_);go_step)|((with_reducible refine aS ?_);first|refine dU ?_|(refine bG ?_ ?_<;>intro hc))|fail)
 refine bK (enters_of Tryz.func32 rfl rfl) rfl rfl (uN o v l _ hv2 hb) ?_;intro w3 x3;refine aB ?_;have hx3:=hx2.trans x3;have hp3:=hp2.ext x3;have hv3:=hv2.ext x3;have h3:=x3.at h2
 (repeat' first|((with_reducible refine aZ ?_);go_step)|((with_reducible refine aS ?_);first|refine dU ?_|(refine bG ?_ ?_<;>intro hc))|fail)
 ·have q:¬ cW o l=0:=by simpa using (by assumption:(!decide (cW o l=0))=true)
  refine cG (v:=.agg dE.toArray) rfl (Runs.build0 (by kernel_rfl)) ?_;refine aB ?_
  (repeat' first|((with_reducible refine aZ ?_);go_step)|((with_reducible refine aS ?_);first|refine dU ?_|(refine bG ?_ ?_<;>intro hc))|fail)
  refine dL (v:=.agg dE.toArray) h3 zDk fun w4 p4=>?_;have x4:=cJ hx3 p4
  (repeat' first|((with_reducible refine aZ ?_);go_step)|((with_reducible refine aS ?_);first|refine dU ?_|(refine bG ?_ ?_<;>intro hc))|fail)
  refine uC (cs:=dE) p4.this ⟨?_,x4⟩;rw [show fO o l=zR by rw [fO,if_neg q],QX];rfl
 ·have q:cW o l=0:=by simpa using (by assumption:(!decide (cW o l=0))=false)
  obtain ⟨s,hf,hs,hn,hk,hdat,hpar,hlen⟩:=(lT q).soaSet;have hZ:fO o l=gA (qE o l):=by rw [fO,if_pos q]
  have hP:∀ w',Calls Tryz.prog 135 #[aE (qE o l)] w' (bC w' (.tuple #[.agg (gA (qE o l)).cells.toArray, .int .i64 0])):=fun w'=>by
   have:=Em (qE o l) w' aC;rw [hpar]at this;exact this
  clear hpar;generalize qE o l=dd at *;generalize hgen:gA dd=ss at *;refine fV (enters_of Tryz.func59 rfl rfl) rfl rfl (Bs v l o 6 _ hv3 (fun s hs=>by have:=hb s hs;omega)) ?_;intro r4 w4 x4 hr4;rw [hf]at hr4;obtain ⟨y,rfl,oy⟩:=hr4;have hx4:=hx3.trans x4
  (repeat' first|((with_reducible refine aZ ?_);go_step)|((with_reducible refine aS ?_);first|refine dU ?_|(refine bG ?_ ?_<;>intro hc))|fail)
  refine dX (z:=gT) fun w5 x5 s5 h5=>?_;refine aB ?_;refine dL (v:=.agg #[aE s.name, .int .i64 s.kind, .int .i64 s.ttl,y]) h5 (gE rfl rfl rfl oy.one) fun w6 p6=>?_;have x6:=cJ x5 p6;have hp6:=aA (cs:=[aE s.name, .int .i64 s.kind, .int .i64 s.ttl,y]) p6.this;have hy6:=oy.sl.ext x6;rw [hdat]at hy6;have hx6:=hx4.trans x6;have h6:=(x4.trans x6).at h3;have hy0:=hy6.elem (i:=0) (e:=[aE dd]) rfl;clear p6 h5 x5;have hl1:(aH [dd]).length=1:=rfl
  (repeat' first|((with_reducible refine aZ ?_);go_step)|((with_reducible refine aS ?_);first|refine dU ?_|(refine bG ?_ ?_<;>intro hc))|fail)
  refine bK (enters_of Tryz.func135 rfl rfl) rfl rfl (hP _) ?_;intro w7 x7;refine aB ?_;have h7:=x7.at h6
  (repeat' first|((with_reducible refine aZ ?_);go_step)|((with_reducible refine aS ?_);first|refine dU ?_|(refine bG ?_ ?_<;>intro hc))|fail)
  refine dL (v:=.agg ss.cells.toArray) h7 (AM _) fun w8 p8=>?_;have x8:=cJ (hx6.trans x7) p8
  (repeat' first|((with_reducible refine aZ ?_);go_step)|((with_reducible refine aS ?_);first|refine dU ?_|(refine bG ?_ ?_<;>intro hc))|fail)
  refine uC (cs:=ss.cells) p8.this ⟨?_,x8⟩;rw [hZ,q];rfl
def lL (s:List UInt8):List (List UInt8)→List (List UInt8)
 | []=>[s]
 | x::l=>if Op.bytesLess x s=true then x::lL s l else if x=s then x::l else s::x::l
theorem DN (s:List UInt8):∀ l:List (List UInt8),(lL s l).length≤l.length+1
 | []=>by simp [lL]
 | x::l=>by
   rw [lL];split
   ·have:=DN s l;simp;omega
   ·split<;>simp
def dQ (r:Rec):RSet:=⟨fold r.name,r.kind,r.ttl,[r.data]⟩
def kV (r:Rec):List RSet→List RSet
 | []=>[dQ r]
 | g::gs=>if AF g (dQ r)=true then g::kV r gs else if AF (dQ r) g=true then dQ r::g::gs else ⟨fold r.name,r.kind,min r.ttl g.ttl,lL r.data g.data⟩::gs
def cA (l:List Rec):List RSet:=l.foldl (fun gs r=>kV r gs) []
theorem qS {l:List Rec} (h:k<l.length):cA (l.take (k+1))=kV l[k] (cA (l.take k)):=by
 rw [cA,List.take_add_one,List.getElem?_eq_getElem h,Option.toList_some,List.foldl_append];rfl
theorem IB (r:Rec):∀ gs:List RSet,(kV r gs).length≤gs.length+1
 | []=>by simp [kV]
 | g::gs=>by
   have:=IB r gs;rw [kV];split
   ·simp;omega
   ·split<;>simp
theorem DO (r:Rec) (n:Nat):∀ gs:List RSet,(∀ s∈gs,s.data.length≤n)→∀ s∈kV r gs,s.data.length≤n+1
 | [],_,s,h=>by
   have:s=dQ r:=by simpa [kV]using h
   subst this;simp [dQ]
 | g::gs,hn,s,h=>by
   have hg:=hn g aX;have hn':∀ s∈gs,s.data.length≤n:=fun s hs=>hn s (by simp [hs]);rw [kV]at h;split at h
   ·rcases List.mem_cons.1 h with rfl|h
    ·omega
    ·exact DO r n gs hn' s h
   ·split at h
    ·rcases List.mem_cons.1 h with rfl|h
     ·simp [dQ]
     ·have:=hn s h;omega
    ·rcases List.mem_cons.1 h with rfl|h
     ·have:=DN r.data g.data;show (lL r.data g.data).length≤n+1;omega
     ·have:=hn' s h;omega
theorem kR (l:List Rec):∀ k,k≤l.length→(cA (l.take k)).length≤k∧∀ s∈cA (l.take k),s.data.length≤k
 | 0,_=>by simp [cA]
 | k+1,h=>by
   obtain ⟨h1,h2⟩:=kR l k aC;rw [qS (show k<l.length by omega)];have:=IB (l[k]'(aC)) (cA (l.take k));exact ⟨aC,DO _ k _ h2⟩
def qT (l:List Rec):Int:=if l.all DD=false then 1 else if 200<(cA l).length then 4 else if (cA l).any QL=true then 4 else 0
def RefR (B:Nat) (l:List Rec) (r:Value) (w':World):Prop:=if qT l=0 then ∃ v,r=.tuple #[v, .int .i64 0]∧SetsO B w' v (cA l)else r=.tuple #[.slice none 0 0, .int .i64 (qT l)]
theorem DP:∀ {gs:List RSet} {r:Rec} {s:RSet},wX gs→s∈eD gs r→(s∈gs∧bJ s r=false)∨(∃ t∈gs,bJ t r=true∧s=lD t r)∨((∀ t∈gs,bJ t r=false)∧s=⟨fold r.name,r.kind,r.ttl,[r.data]⟩)
 | [],r,s,_,h=>by
   right;right;exact ⟨aX,by simpa [eD]using h⟩
 | a::l,r,s,hd,h=>by
   obtain ⟨p1,p2⟩:=List.pairwise_cons.1 (iC.1 hd);by_cases hm:bJ a r=true
   ·simp only [eD,hm,if_true,List.mem_cons]at h;rcases h with h|h
    ·exact .inr (.inl ⟨a,aX,hm,h⟩)
    ·refine .inl ⟨by simp [h],?_⟩;cases hs:bJ s r with
     | false=>rfl
     | true =>
      exfalso
      simp only [bJ,Bool.and_eq_true,decide_eq_true_eq]at hs hm;exact p1 s h ⟨by rw [hm.1,hs.1],by rw [hm.2,hs.2]⟩
   ·have hm':bJ a r=false:=by simpa using hm
    simp only [eD,hm',Bool.false_eq_true,if_false,List.mem_cons]at h;rcases h with rfl|h
    ·exact .inl ⟨aX,hm'⟩
    ·rcases DP (iC.2 p2) h with ⟨h1,h2⟩|⟨t,h1,h2,h3⟩|⟨h1,h2⟩
     ·exact .inl ⟨by simp [h1],h2⟩
     ·exact .inr (.inl ⟨t,by simp [h1],h2,h3⟩)
     ·refine .inr (.inr ⟨?_,h2⟩);intro t ht;rcases List.mem_cons.1 ht with rfl|ht
      ·exact hm'
      ·exact h1 t ht
structure Ch (L:List Rec) (s:RSet):Prop where
 dat:∀ d,d∈s.data↔∃ r∈L,bJ s r=true∧r.data=d
 ttl:∃ r∈L,bJ s r=true∧r.ttl=s.ttl
 low:∀ r∈L,bJ s r=true→s.ttl≤r.ttl
theorem Ch.miss {L:List Rec} {s:RSet} {r:Rec} (h:Ch L s) (hm:bJ s r=false):Ch (L ++ [r]) s where
 dat d:=by
  rw [h.dat];constructor
  ·rintro ⟨q,h1,h2⟩;exact ⟨q,by simp [h1],h2⟩
  ·rintro ⟨q,h1,h2,h3⟩;rcases List.mem_append.1 h1 with h1|h1
   ·exact ⟨q,h1,h2,h3⟩
   ·obtain rfl:=List.mem_singleton.1 h1;rw [hm]at h2;cases h2
 ttl:=let ⟨q,h1,h2⟩:=h.ttl;⟨q,by simp [h1],h2⟩
 low q h1 h2:=by
  rcases List.mem_append.1 h1 with h1|h1
  ·exact h.low q h1 h2
  ·obtain rfl:=List.mem_singleton.1 h1;rw [hm]at h2;cases h2
theorem Ch.bump {L:List Rec} {s:RSet} {r:Rec} (h:Ch L s) (hm:bJ s r=true):Ch (L ++ [r]) (X.lD s r) where
 dat d:=by
  show d∈s.data ++ [r.data]↔∃ q∈L ++ [r],bJ s q=true∧q.data=d;rw [List.mem_append,h.dat,List.mem_singleton];constructor
  ·rintro (⟨q,h1,h2⟩|rfl)
   ·exact ⟨q,by simp [h1],h2⟩
   ·exact ⟨r,aX,hm,rfl⟩
  ·rintro ⟨q,h1,h2,h3⟩;rcases List.mem_append.1 h1 with h1|h1
   ·exact .inl ⟨q,h1,h2,h3⟩
   ·obtain rfl:=List.mem_singleton.1 h1;exact .inr h3.symm
 ttl:=by
  show ∃ q∈L ++ [r],bJ s q=true∧q.ttl=min s.ttl r.ttl;obtain ⟨q,h1,h2,h3⟩:=h.ttl;rcases Int.le_total s.ttl r.ttl with hl|hl
  ·exact ⟨q,by simp [h1],h2,by rw [h3];omega⟩
  ·exact ⟨r,aX,hm,aC⟩
 low q h1 h2:=by
  show min s.ttl r.ttl≤q.ttl;rcases List.mem_append.1 h1 with h1|h1
  ·have:=h.low q h1 h2;omega
  ·obtain rfl:=List.mem_singleton.1 h1;omega
theorem Ch.new {L:List Rec} {r:Rec} (h:∀ q∈L,bJ ⟨fold r.name,r.kind,r.ttl,[r.data]⟩ q=false):Ch (L ++ [r]) ⟨fold r.name,r.kind,r.ttl,[r.data]⟩ where
 dat d:=by
  rw [List.mem_singleton];constructor
  ·rintro rfl;exact ⟨r,aX,by simp [bJ],rfl⟩
  ·rintro ⟨q,h1,h2,h3⟩;rcases List.mem_append.1 h1 with h1|h1
   ·rw [h q h1]at h2;cases h2
   ·obtain rfl:=List.mem_singleton.1 h1;exact h3.symm
 ttl:=⟨r,aX,by simp [bJ],rfl⟩
 low q h1 h2:=by
  rcases List.mem_append.1 h1 with h1|h1
  ·rw [h q h1]at h2;cases h2
  ·obtain rfl:=List.mem_singleton.1 h1;exact Int.le_refl _
theorem DQ (l:List Rec):∀ k,k≤l.length→∀ s∈dC (l.take k),Ch (l.take k) s
 | 0,_,s,h=>by simp [dC]at h
 | k+1,hk,s,h=>by
   have hlt:k<l.length:=aC;have e:l.take (k+1)=l.take k ++ [l[k]]:=aX;rw [qN hlt]at h;rw [e];have ih:=DQ l k aC;rcases DP (lR _) h with ⟨h1,h2⟩|⟨t,h1,h2,rfl⟩|⟨h1,rfl⟩
   ·exact (ih s h1).miss h2
   ·exact (ih t h1).bump h2
   ·refine Ch.new fun q hq=>?_;obtain ⟨t,ht,hm,_⟩:=AD hq;have:=h1 t ht;cases hx:bJ ⟨fold l[k].name,l[k].kind,l[k].ttl,[l[k].data]⟩ q with
    | false=>rfl
    | true =>
     exfalso
     simp only [bJ,Bool.and_eq_true,decide_eq_true_eq]at hx hm;have h5:bJ t l[k]=true:=by
      simp only [bJ,Bool.and_eq_true,decide_eq_true_eq];exact ⟨by rw [hm.1,hx.1],by rw [hm.2,hx.2]⟩
     rw [this]at h5;cases h5
theorem Ch.norm {L:List Rec} {s:RSet} (h:Ch L s):Ch L (X.oK s) where
 dat d:=by
  show d∈Cg s.data↔∃ r∈L,bJ s r=true∧r.data=d;rw [UY,h.dat]
 ttl:=h.ttl
 low:=h.low
theorem DR {l:List Rec} {s:RSet} (h:s∈fE l):Ch l s∧s.data.Pairwise (· < ·):=by
 obtain ⟨u,hu,rfl⟩:=List.mem_map.1 h;have:=DQ l l.length (Nat.le_refl _);rw [List.take_length]at this;exact ⟨(this u hu).norm,KG _⟩
theorem Ch.uniq {L:List Rec} {s t:RSet} (h:Ch L s) (k:Ch L t) (hs:s.data.Pairwise (· < ·)) (ht:t.data.Pairwise (· < ·)) (hn:s.name=t.name) (hk:s.kind=t.kind):s=t:=by
 have hm:∀ r,bJ s r=bJ t r:=fun r=>by rw [bJ,bJ,hn,hk]
 have hd:s.data=t.data:=NQ hs ht fun d=>by
  rw [h.dat,k.dat];simp only [hm]
 have ha:s.ttl=t.ttl:=by
  obtain ⟨q,h1,h2,h3⟩:=h.ttl;obtain ⟨q',k1,k2,k3⟩:=k.ttl;have e1:=k.low q h1 (by rw [← hm];exact h2);have e2:=h.low q' k1 (by rw [hm];exact k2);omega
 cases s;cases t
 simp_all
def pM (s t:RSet):Int:=eT s.name t.name s.kind t.kind
theorem AN:TPO pM:=mI.comap fun s:RSet=>(s.name,s.kind)
def SO (gs:List RSet):Prop:=gs.Pairwise fun s t=>pM s t<0
def Cl (r:Rec) (t:RSet):RSet:=⟨fold r.name,r.kind,min r.ttl t.ttl,lL r.data t.data⟩
theorem rS (a b:RSet):AF a b=decide (pM a b<0):=NW a b
theorem fI {s:RSet} {r:Rec}:bJ s r=true↔s.name=fold r.name∧s.kind=r.kind:=by simp [bJ]
theorem uO {s t u:RSet} (hn:s.name=t.name) (hk:s.kind=t.kind):pM u s=pM u t∧pM s u=pM t u:=by
 unfold pM;rw [hn,hk];exact ⟨rfl,rfl⟩
theorem uP {s:RSet} {r:Rec} (h:pM s (dQ r)≠0):bJ s r=false:=by
 cases hm:bJ s r with
 | false=>rfl
 | true =>
  obtain ⟨h1,h2⟩:=fI.1 hm;exact absurd (by rw [(uO (t:=dQ r) h1 h2).2];exact AN.refl _) h
theorem IC {r:Rec} (hr:Small (fold r.name)):∀ {gs:List RSet} {s:RSet},SO gs→(∀ g∈gs,Small g.name)→s∈kV r gs →
 (s∈gs∧bJ s r=false)∨(∃ t∈gs,bJ t r=true∧s=Cl r t)∨((∀ t∈gs,bJ t r=false)∧s=dQ r)
 | [],s,_,_,h=>by
   right;right;exact ⟨aX,by simpa [kV]using h⟩
 | g::gs,s,hso,hsm,h=>by
   obtain ⟨p1,p2⟩:=List.pairwise_cons.1 hso;have hg:=hsm g aX;rw [kV,rS,rS]at h;by_cases h1:pM g (dQ r)<0
   ·rw [if_pos (decide_eq_true h1)]at h;have m1:bJ g r=false:=uP aC;rcases List.mem_cons.1 h with rfl|h
    ·exact .inl ⟨aX,m1⟩
    ·rcases IC hr p2 (fun x hx=>hsm x (by simp [hx])) h with ⟨a,b⟩|⟨t,a,b,c⟩|⟨a,b⟩
     ·exact .inl ⟨by simp [a],b⟩
     ·exact .inr (.inl ⟨t,by simp [a],b,c⟩)
     ·refine .inr (.inr ⟨fun t ht=>?_,b⟩);rcases List.mem_cons.1 ht with rfl|ht
      ·exact m1
      ·exact a t ht
   ·rw [if_neg (by simpa using h1)]at h;by_cases h2:pM (dQ r) g<0
    ·rw [if_pos (decide_eq_true h2)]at h;have m1:bJ g r=false:=uP (by have:=AN.anti g (dQ r);omega);have m2:∀ t∈gs,bJ t r=false:=fun t ht=>uP (by
      have:=AN.ltt h2 (p1 t ht);have:=AN.anti t (dQ r);omega)
     rcases List.mem_cons.1 h with rfl|h
     ·refine .inr (.inr ⟨fun t ht=>?_,rfl⟩);rcases List.mem_cons.1 ht with rfl|ht
      ·exact m1
      ·exact m2 t ht
     ·rcases List.mem_cons.1 h with rfl|h
      ·exact .inl ⟨aX,m1⟩
      ·exact .inl ⟨by simp [h],m2 s h⟩
    ·rw [if_neg (by simpa using h2)]at h;have h0:pM g (dQ r)=0:=by have:=AN.anti g (dQ r);omega
     obtain ⟨e1,e2⟩:=nE hg hr h0;have mg:bJ g r=true:=fI.2 ⟨e1,e2⟩;rcases List.mem_cons.1 h with rfl|h
     ·exact .inr (.inl ⟨g,aX,mg,rfl⟩)
     ·refine .inl ⟨by simp [h],uP ?_⟩;have:=p1 s h;rw [(uO (t:=dQ r) e1 e2).2]at this;have:=AN.anti s (dQ r);omega
theorem ID {r:Rec}:∀ {gs:List RSet} {s:RSet},s∈kV r gs→s∈gs∨(s.name=fold r.name∧s.kind=r.kind)
 | [],s,h=>by
   right;have:s=dQ r:=by simpa [kV]using h
   subst this;exact ⟨rfl,rfl⟩
 | g::gs,s,h=>by
   rw [kV]at h;split at h
   ·rcases List.mem_cons.1 h with rfl|h
    ·exact .inl aX
    ·rcases ID h with h|h
     ·exact .inl (by simp [h])
     ·exact .inr h
   ·split at h
    ·rcases List.mem_cons.1 h with rfl|h
     ·exact .inr ⟨rfl,rfl⟩
     ·exact .inl h
    ·rcases List.mem_cons.1 h with rfl|h
     ·exact .inr ⟨rfl,rfl⟩
     ·exact .inl (by simp [h])
theorem ME {r:Rec} (hr:Small (fold r.name)):∀ {gs:List RSet},SO gs→(∀ g∈gs,Small g.name)→SO (kV r gs)
 | [],_,_=>by simp [kV,SO]
 | g::gs,hso,hsm=>by
   obtain ⟨p1,p2⟩:=List.pairwise_cons.1 hso;have hg:=hsm g aX;rw [kV,rS,rS];by_cases h1:pM g (dQ r)<0
   ·rw [if_pos (decide_eq_true h1)];refine List.pairwise_cons.2 ⟨fun s hs=>?_,ME hr p2 fun x hx=>hsm x (by simp [hx])⟩;rcases ID hs with h|⟨a,b⟩
    ·exact p1 s h
    ·rw [(uO (t:=dQ r) a b).1];exact h1
   ·rw [if_neg (by simpa using h1)];by_cases h2:pM (dQ r) g<0
    ·rw [if_pos (decide_eq_true h2)];refine List.pairwise_cons.2 ⟨fun s hs=>?_,hso⟩;rcases List.mem_cons.1 hs with rfl|hs
     ·exact h2
     ·exact AN.ltt h2 (p1 s hs)
    ·rw [if_neg (by simpa using h2)];have h0:pM g (dQ r)=0:=by have:=AN.anti g (dQ r);omega
     obtain ⟨e1,e2⟩:=nE hg hr h0;refine List.pairwise_cons.2 ⟨fun s hs=>?_,p2⟩;have:=p1 s hs;rw [(uO (s:=g) (t:=⟨fold r.name,r.kind,min r.ttl g.ttl,lL r.data g.data⟩) e1 e2).2]at this;exact this
theorem pN {s:List UInt8}:∀ {l:List (List UInt8)},l.Pairwise (· < ·)→(lL s l).Pairwise (· < ·)∧∀ x,x∈lL s l↔x=s∨x∈l
 | [],_=>by simp [lL]
 | y::l,h=>by
   obtain ⟨p1,p2⟩:=List.pairwise_cons.1 h;obtain ⟨i1,i2⟩:=pN (s:=s) p2;rw [lL];by_cases h1:y<s
   ·rw [if_pos (LY.2 h1)];refine ⟨List.pairwise_cons.2 ⟨fun x hx=>?_,i1⟩,fun x=>?_⟩
    ·rcases (i2 x).1 hx with rfl|hx
     ·exact h1
     ·exact p1 x hx
    ·simp only [List.mem_cons,i2];exact or_left_comm
   ·rw [if_neg (fun hb=>h1 (LY.1 hb))];by_cases h2:y=s
    ·rw [if_pos h2];subst h2;exact ⟨h,fun x=>by simp⟩
    ·rw [if_neg h2];have h3:s<y:=xD (List.not_lt.1 h1) (fun e=>h2 e.symm);refine ⟨List.pairwise_cons.2 ⟨fun x hx=>?_,h⟩,fun x=>by simp⟩;rcases List.mem_cons.1 hx with rfl|hx
     ·exact h3
     ·exact List.lt_trans h3 (p1 x hx)
theorem DS {r:Rec} (hr:Small (fold r.name)):∀ {gs:List RSet},(∀ g∈gs,Small g.name)→∀ t∈gs,∃ s∈kV r gs,s.name=t.name∧s.kind=t.kind
 | [],_,t,h=>by simp at h
 | g::gs,hsm,t,h=>by
   have hg:=hsm g aX;rw [kV,rS,rS];by_cases h1:pM g (dQ r)<0
   ·rw [if_pos (decide_eq_true h1)];rcases List.mem_cons.1 h with rfl|h
    ·exact ⟨t,aX,rfl,rfl⟩
    ·obtain ⟨s,a,b⟩:=DS hr (fun x hx=>hsm x (by simp [hx])) t h;exact ⟨s,by simp [a],b⟩
   ·rw [if_neg (by simpa using h1)];by_cases h2:pM (dQ r) g<0
    ·rw [if_pos (decide_eq_true h2)];exact ⟨t,List.mem_cons_of_mem _ h,rfl,rfl⟩
    ·rw [if_neg (by simpa using h2)];have h0:pM g (dQ r)=0:=by have:=AN.anti g (dQ r);omega
     obtain ⟨e1,e2⟩:=nE hg hr h0;rcases List.mem_cons.1 h with rfl|h
     ·exact ⟨_,List.mem_cons_self,e1.symm,e2.symm⟩
     ·exact ⟨t,by simp [h],rfl,rfl⟩
theorem IE (r:Rec):∀ gs:List RSet,∃ s∈kV r gs,s.name=fold r.name∧s.kind=r.kind
 | []=>⟨dQ r,by simp [kV],rfl,rfl⟩
 | g::gs=>by
   obtain ⟨s,a,b⟩:=IE r gs;rw [kV];split
   ·exact ⟨s,by simp [a],b⟩
   ·split
    ·exact ⟨dQ r,aX,rfl,rfl⟩
    ·exact ⟨_,List.mem_cons_self,rfl,rfl⟩
theorem Ch.newS {L:List Rec} {t:RSet} {r:Rec} (h:Ch L t) (hm:bJ t r=true) (ht:t.data.Pairwise (· < ·)):Ch (L ++ [r]) (X.Cl r t):=by
 have hb:=h.bump hm;obtain ⟨e1,e2⟩:=fI.1 hm;have hk:∀ q,bJ (X.Cl r t) q=bJ (X.lD t r) q:=fun q=>by simp only [bJ,X.Cl,X.lD,e1,e2];rfl
 refine ⟨fun d=>?_,?_,fun q hq hmq=>?_⟩
 ·show d∈lL r.data t.data↔_;rw [(pN ht).2];have:=hb.dat d;simp only [hk];rw [← this];show _↔d∈t.data ++ [r.data];simp [or_comm]
 ·obtain ⟨q,a,b,c⟩:=hb.ttl;exact ⟨q,a,by rw [hk];exact b,by rw [c];show min t.ttl r.ttl=min r.ttl t.ttl;omega⟩
 ·have:=hb.low q hq (by rw [← hk];exact hmq);show min r.ttl t.ttl≤q.ttl;have h2:min t.ttl r.ttl≤q.ttl:=this;omega
theorem QY {r:Rec} (h:DD r=true):Small (fold r.name):=by
 obtain ⟨ls,hl⟩:=Option.isSome_iff_exists.1 (jD (r:=r) (n:=[]) (by simpa [DD]using h)).1;exact ⟨r.name,ls,hl,rfl⟩
theorem AO {l:List Rec} (hok:l.all DD=true):∀ k,k≤l.length→SO (cA (l.take k))∧(∀ s∈cA (l.take k),Ch (l.take k) s∧s.data.Pairwise (· < ·)∧Small s.name)∧∀ q∈l.take k,∃ s∈cA (l.take k),bJ s q=true
 | 0,_=>by simp [cA,SO]
 | k+1,h=>by
   have hlt:k<l.length:=aC;obtain ⟨i1,i2,i3⟩:=AO hok k aC;have hr:=QY (List.all_eq_true.1 hok _ (List.getElem_mem hlt));have hsm:∀ g∈cA (l.take k),Small g.name:=fun g hg=>(i2 g hg).2.2;have e:l.take (k+1)=l.take k ++ [l[k]]:=aX;rw [qS hlt,e];refine ⟨ME hr i1 hsm,fun s hs=>?_,fun q hq=>?_⟩
   ·rcases IC hr i1 hsm hs with ⟨a,b⟩|⟨t,a,b,rfl⟩|⟨a,rfl⟩
    ·exact ⟨(i2 s a).1.miss b,(i2 s a).2⟩
    ·exact ⟨(i2 t a).1.newS b (i2 t a).2.1,(pN (i2 t a).2.1).1,hr⟩
    ·refine ⟨Ch.new fun q hq=>?_,by simp [dQ],hr⟩;obtain ⟨t,ht,hm⟩:=i3 q hq;cases hx:bJ ⟨fold l[k].name,l[k].kind,l[k].ttl,[l[k].data]⟩ q with
     | false=>rfl
     | true =>
      exfalso
      obtain ⟨x1,x2⟩:=fI.1 hx;obtain ⟨y1,y2⟩:=fI.1 hm;have h5:bJ t l[k]=true:=fI.2 ⟨y1.trans x1.symm,y2.trans x2.symm⟩;rw [a t ht]at h5;cases h5
   ·rcases List.mem_append.1 hq with hq|hq
    ·obtain ⟨t,ht,hm⟩:=i3 q hq;obtain ⟨s,a,b,c⟩:=DS hr hsm t ht;obtain ⟨y1,y2⟩:=fI.1 hm;exact ⟨s,a,fI.2 ⟨b.trans y1,c.trans y2⟩⟩
    ·obtain rfl:=List.mem_singleton.1 hq;obtain ⟨s,a,b,c⟩:=IE l[k] (cA (l.take k));exact ⟨s,a,fI.2 ⟨b,c⟩⟩
theorem AP {l:List Rec} (hok:l.all DD=true):SO (cA l)∧(∀ s∈cA l,Ch l s∧s.data.Pairwise (· < ·)∧Small s.name)∧∀ q∈l,∃ s∈cA l,bJ s q=true:=by
 have:=AO hok l.length (Nat.le_refl _)
 rwa [List.take_length]at this
theorem xJ {l:List Rec} (hok:l.all DD=true):(cA l).Perm (fE l):=by
 obtain ⟨i1,i2,i3⟩:=AP hok;have n1:(fE l).Nodup:=(uJ _).imp fun h e=>by subst e;exact h ⟨rfl,rfl⟩
 have n0:(cA l).Nodup:=i1.imp fun h e=>by subst e;have:=AN.refl ‹RSet›;omega
 refine (List.perm_ext_iff_of_nodup n0 n1).2 fun s=>⟨fun hs=>?_,fun hs=>?_⟩
 ·obtain ⟨hc,hst,_⟩:=i2 s hs;obtain ⟨q,h1,h2,_⟩:=hc.ttl;obtain ⟨t,ht,hm,_⟩:=AD h1;have hg:oK t∈fE l:=List.mem_map_of_mem ht;obtain ⟨hc',hst'⟩:=DR hg;obtain ⟨x1,x2⟩:=fI.1 h2;obtain ⟨y1,y2⟩:=fI.1 hm;have e:=hc.uniq hc' hst hst' (x1.trans y1.symm) (x2.trans y2.symm);rw [e];exact hg
 ·obtain ⟨hc,hst⟩:=DR hs;obtain ⟨q,h1,h2,_⟩:=hc.ttl;obtain ⟨t,ht,hm⟩:=i3 q h1;obtain ⟨hc',hst',_⟩:=i2 t ht;obtain ⟨x1,x2⟩:=fI.1 h2;obtain ⟨y1,y2⟩:=fI.1 hm;have e:=hc.uniq hc' hst hst' (x1.trans y1.symm) (x2.trans y2.symm);rw [e];exact ht
theorem BZ {l:List Rec} (hok:l.all DD=true):sY (cA l):=by
 obtain ⟨i1,_,_⟩:=AP hok;intro i j s t hij hi hj;obtain ⟨a,rfl⟩:=List.getElem?_eq_some_iff.1 hi;obtain ⟨b,rfl⟩:=List.getElem?_eq_some_iff.1 hj;have h:=List.pairwise_iff_getElem.1 i1 i j a b hij;have:=AN.anti (cA l)[j] (cA l)[i];show 0≤pM (cA l)[j] (cA l)[i];omega
theorem VD {l:List Rec} (hok:l.all DD=true) {out:List RSet} (hp:out.Perm (fE l)) (hs:sY out):out=cA l :=
 KH hok hp (xJ hok) hs (BZ hok)
theorem XP (l:List Rec):qT l=jF l:=by
 unfold qT jF;cases hok:l.all DD with
 | false=>simp
 | true =>
  have hp:=xJ hok;have hl:=hp.length_eq;have ha:(cA l).any QL=(fE l).any QL:=by
   cases h:(fE l).any QL with
   | true =>
    obtain ⟨s,h1,h2⟩:=List.any_eq_true.1 h;exact List.any_eq_true.2 ⟨s,hp.mem_iff.2 h1,h2⟩
   | false =>
    cases h':(cA l).any QL with
    | false=>rfl
    | true =>
     obtain ⟨s,h1,h2⟩:=List.any_eq_true.1 h';rw [List.any_eq_true.2 ⟨s,hp.mem_iff.1 h1,h2⟩]at h;cases h
  rw [ha,hl];simp only [Bool.true_eq_false,if_false];split<;>split<;>rfl
def iQ:List Value:=[aE [], .slice none 0 0]
theorem DT:∀ {l:List (List UInt8)},x∈lL s l→x=s∨x∈l
 | [],h=>by simp [lL]at h;exact .inl h
 | y::l,h=>by
   unfold lL at h;split at h
   ·rcases List.mem_cons.1 h with rfl|h
    ·exact .inr aX
    ·rcases DT h with h|h
     ·exact .inl h
     ·exact .inr (by simp [h])
   ·split at h
    ·exact .inr h
    ·rcases List.mem_cons.1 h with rfl|h
     ·exact .inl rfl
     ·exact .inr h
theorem IF {r:Rec}:∀ {gs:List RSet} {s:RSet} {d:List UInt8},s∈kV r gs→d∈s.data→d=r.data∨∃ t∈gs,d∈t.data
 | [],s,d,h,hd=>by
   have:s=dQ r:=by simpa [kV]using h
   subst this;exact .inl (by simpa [dQ]using hd)
 | g::gs,s,d,h,hd=>by
   rw [kV]at h;split at h
   ·rcases List.mem_cons.1 h with rfl|h
    ·exact .inr ⟨s,aX,hd⟩
    ·rcases IF h hd with h|⟨t,ht,h⟩
     ·exact .inl h
     ·exact .inr ⟨t,by simp [ht],h⟩
   ·split at h
    ·rcases List.mem_cons.1 h with rfl|h
     ·exact .inl (by simpa [dQ]using hd)
     ·exact .inr ⟨s,h,hd⟩
    ·rcases List.mem_cons.1 h with rfl|h
     ·rcases DT hd with h|h
      ·exact .inl h
      ·exact .inr ⟨g,aX,h⟩
     ·exact .inr ⟨s,by simp [h],hd⟩
theorem AQ {l:List Rec}:∀ k,k≤l.length→∀ s∈cA (l.take k),∀ d∈s.data,∃ r∈l,d=r.data
 | 0,_,s,hs,_,_=>by simp [cA]at hs
 | k+1,h,s,hs,d,hd=>by
   rw [qS (show k<l.length by omega)]at hs;rcases IF hs hd with h1|⟨t,ht,h1⟩
   ·exact ⟨_,List.getElem_mem _,h1⟩
   ·exact AQ k aC t ht d h1
theorem IG {l:List Rec} {s:RSet} (hs:s∈cA l) (hd:d∈s.data):∃ r∈l,d=r.data :=
 AQ l.length (Nat.le_refl _) s (by rw [List.take_length];exact hs) d hd
theorem KM (l:List Rec):∀ s∈cA l,s.data.length≤l.length:=by
 have:=(kR l l.length (Nat.le_refl _)).2
 rwa [List.take_length]at this
def jT (o:List UInt8) (l:List Rec):Int:=if qT l=0 then cW (fold o) (cA l)else qT l
def gC (o:List UInt8) (l:List Rec):List UInt8:=if jT o l=0 then fold o else []
def pX (o:List UInt8) (l:List Rec):List RSet:=if jT o l=0 then cA l else []
def LoadU (B:Nat) (o:List UInt8) (l:List Rec) (r:Value) (w':World):Prop :=
 ∃ v,r=.tuple #[.agg #[aE (gC o l),v], .int .i64 (jT o l)]∧SetsO B w' v (pX o l)
theorem LoadU.bad {l:List Rec} {e:Int} (h:jT o l=e) (he:e≠0):LoadU B o l (.tuple #[.agg iQ.toArray, .int .i64 e]) w':=by
 refine ⟨.slice none 0 0,?_,?_⟩
 ·rw [h,gC,if_neg (by rw [h];exact he)];rfl
 ·rw [pX,if_neg (by rw [h];exact he)];exact SetsO.nil _ _
theorem LoadU.good {l:List Rec} (h:jT o l=0) (hv:SetsO B w' v (cA l)):LoadU B o l (.tuple #[.agg #[aE (fold o),v], .int .i64 0]) w':=by
 refine ⟨v,?_,?_⟩
 ·rw [gC,if_pos h,h]
 ·rw [pX,if_pos h];exact hv
def QZ (B:Nat) (l:List Rec) (r:Value) (w':World):Prop:=∃ v,r=.tuple #[v, .int .i64 (qT l)]∧(qT l=0→SetsO B w' v (cA l))
theorem RefR.uni {l:List Rec} (h:RefR B l r w'):QZ B l r w':=by
 unfold RefR at h;split at h
 ·rename_i h0;obtain ⟨v,rfl,hv⟩:=h;exact ⟨v,by rw [h0],fun _=>hv⟩
 ·rename_i h0;exact ⟨_,h,fun h1=>absurd h1 h0⟩
theorem GroupO.uni {l:List Rec} (h:GroupO B l r w'):QZ B l r w':=by
 unfold GroupO at h;rw [← XP]at h;split at h
 ·rename_i h0;obtain ⟨out,v,rfl,hp,hs,hv⟩:=h;have hok:l.all DD=true:=by
   cases hok:l.all DD with
   | true=>rfl
   | false=>rw [qT,if_pos hok]at h0;cases h0
  have e:=VD hok hp hs;exact ⟨v,by rw [h0],fun _=>by rw [← e];exact hv⟩
 ·rename_i h0;exact ⟨_,h,fun h1=>absurd h1 h0⟩
theorem AR (h:v.oneCell'=true):(Value.agg #[aE o,v]).cells.all (·.oneCell')=true:=by
 simp [Value.cells,h,show (aE o).oneCell'=true from rfl]
theorem RA (o:List UInt8) (v:Value) (l:List Rec) (w:World) (hv:Sl 4 w v (aF l)) (hl:l.length≤10000) (hd:∀ r∈l,r.data.length≤4611686018427387904):Calls Tryz.prog 31 #[aE o,v] w (kZ w (LoadU w.heap.size o l)):=by
 have hb:∀ s∈cA l,s.data.length≤1000000:=fun s hs=>by have:=KM l s hs;omega
 have hd2:∀ s∈cA l,∀ d∈s.data,d.length≤4611686018427387904:=fun s hs d hd3=>by
  obtain ⟨r,hr,rfl⟩:=IG hs hd3;exact hd r hr
 go_enter Tryz.func31,Tryz.ntmps31
 repeat' (first|((with_reducible refine aZ ?_);go_step)|fail)
 refine dX (z:=iQ) fun w1 x1 s1 h1=>?_;refine aB ?_;have hv1:=hv.ext x1
 (repeat' first|((with_reducible refine aZ ?_);go_step)|((with_reducible refine aS ?_);first|refine dU ?_|(refine bG ?_ ?_<;>intro hc))|fail)
 refine fV (enters_of Tryz.func57 rfl rfl) rfl rfl (En v l _ hv1 hl) ?_;intro r w2 x2 hr;obtain ⟨y,rfl,hy⟩:=hr.uni;clear hr;have h2:=x2.at h1;have hx2:=x1.trans x2;by_cases hE:qT l=0
 ·have hy:=hy hE;have hLE:jT o l=cW (fold o) (cA l):=by rw [jT,if_pos hE]
  rw [hE];obtain ⟨ya,yn,yc,hys⟩:∃ a n c,y=.slice a n c:=by obtain ⟨css,h,_⟩:=hy;exact h.slf
  (repeat' first|((with_reducible refine aZ ?_);go_step)|((with_reducible refine aS ?_);first|refine dU ?_|(refine bG ?_ ?_<;>intro hc))|fail)
  refine bK (enters_of Tryz.func53 rfl rfl) rfl rfl (vQ o _) ?_;intro w3 x3;refine aB ?_;have h3:=x3.at h2;have hx3:=hx2.trans x3;have hy3:=hy.ext x3
  (repeat' first|((with_reducible refine aZ ?_);go_step)|((with_reducible refine aS ?_);first|refine dU ?_|(refine bG ?_ ?_<;>intro hc))|fail)
  refine cG (v:=.agg #[aE (fold o),y]) rfl (Runs.build (vals:=[(0,aE (fold o)),(1,y)]) rfl (by rw [hys];kernel_rfl)) ?_;refine aB ?_;refine dX (z:=iQ) fun w4 x4 s4 h4=>?_;refine aB ?_;have hy1:y.oneCell'=true:=by rw [hys];rfl
  refine dL (v:=.agg #[aE (fold o),y]) h4 (AR hy1) fun w5 p5=>?_;have x5:=cJ x4 p5;have h5:=aA (cs:=[aE (fold o),y]) p5.this;have hx5:=hx3.trans x5;have hy5:=hy3.ext x5;have hz5:=x5.at h3;clear p5 h4 x4
  (repeat' first|((with_reducible refine aZ ?_);go_step)|((with_reducible refine aS ?_);first|refine dU ?_|(refine bG ?_ ?_<;>intro hc))|fail)
  refine bK (enters_of Tryz.func32 rfl rfl) rfl rfl (uN (fold o) y (cA l) _ hy5.sets hb) ?_;intro w6 x6;refine aB ?_;have h6:=h5.ext x6;have hx6:=hx5.trans x6;have hy6:=hy5.ext x6;have hz6:=x6.at hz5
  (repeat' first|((with_reducible refine aZ ?_);go_step)|((with_reducible refine aS ?_);first|refine dU ?_|(refine bG ?_ ?_<;>intro hc))|fail)
  ·have q:¬ cW (fold o) (cA l)=0:=by simpa using (by assumption:(!decide (cW (fold o) (cA l)=0))=true)
   refine cG (v:=.agg iQ.toArray) rfl (Runs.build0 (by kernel_rfl)) ?_;refine aB ?_
   (repeat' first|((with_reducible refine aZ ?_);go_step)|((with_reducible refine aS ?_);first|refine dU ?_|(refine bG ?_ ?_<;>intro hc))|fail)
   refine dL (v:=.agg iQ.toArray) hz6 zDk fun w7 p7=>?_;have x7:=cJ hx6 p7
   (repeat' first|((with_reducible refine aZ ?_);go_step)|((with_reducible refine aS ?_);first|refine dU ?_|(refine bG ?_ ?_<;>intro hc))|fail)
   refine uC (cs:=iQ) p7.this ⟨_,rfl,x7,?_⟩;exact LoadU.bad hLE q
  ·have q:cW (fold o) (cA l)=0:=by simpa using (by assumption:(!decide (cW (fold o) (cA l)=0))=false)
   refine dL (v:=.agg #[aE (fold o),y]) hz6 (AR hy1) fun w7 p7=>?_;have x7:=cJ hx6 p7;have hy7:=hy6.put p7 (by have:=s1;omega)
   (repeat' first|((with_reducible refine aZ ?_);go_step)|((with_reducible refine aS ?_);first|refine dU ?_|(refine bG ?_ ?_<;>intro hc))|fail)
   refine uC (cs:=[aE (fold o),y]) p7.this ⟨_,rfl,x7,?_⟩;exact LoadU.good (by rw [hLE,q]) (hy7.weaken x1.size)
 ·have hLE:jT o l=qT l:=by rw [jT,if_neg hE]
  (repeat' first|((with_reducible refine aZ ?_);go_step)|((with_reducible refine aS ?_);first|refine dU ?_|(refine bG ?_ ?_<;>intro hc))|fail)
  ·refine cG (v:=.agg iQ.toArray) rfl (Runs.build0 (by kernel_rfl)) ?_;refine aB ?_
   (repeat' first|((with_reducible refine aZ ?_);go_step)|((with_reducible refine aS ?_);first|refine dU ?_|(refine bG ?_ ?_<;>intro hc))|fail)
   refine dL (v:=.agg iQ.toArray) h2 zDk fun w3 p3=>?_;have x3:=cJ hx2 p3
   (repeat' first|((with_reducible refine aZ ?_);go_step)|((with_reducible refine aS ?_);first|refine dU ?_|(refine bG ?_ ?_<;>intro hc))|fail)
   refine uC (cs:=iQ) p3.this ⟨_,rfl,x3,?_⟩;exact LoadU.bad hLE hE
  ·exact absurd (by assumption:(!decide (qT l=0))=false) (by simp [hE])
theorem uQ {c:Value}:∀ (es:List (List Value)) (i j:Nat) (e:List Value),(∀ x∈es,x.length=k)→es[i]? = some e→j<k→(es.set i (e.set j c)).flatten=es.flatten.set (i*k+j) c
 | [],i,_,_,_,hi,_=>by simp at hi
 | x::es,0,j,e,hall,hi,hj=>by
   have hx:=hall x aX;cases hi
   simp only [List.set_cons_zero,List.flatten_cons,Nat.zero_mul,Nat.zero_add];rw [List.set_append_left _ _ aC]
 | x::es,i+1,j,e,hall,hi,hj=>by
   have hx:=hall x aX;simp only [List.set_cons_succ,List.flatten_cons];rw [uQ es i j e (fun y hy=>hall y (by simp [hy])) (by simpa using hi) hj];rw [List.set_append_right _ _ (by rw [Nat.add_mul];omega),show (i+1)*k+j - x.length=i*k+j by rw [hx,Nat.add_mul];omega]
theorem Own.storeF {P:Program} {t:TypeId} {ce:List Value} {c:Value} (h:Own B k e w v es) (hi:es[i]? = some ce) (hj:j<k) (hs:dG P t 1=true) (h1:c.oneCell'=true) :
 ∃ w' b o,aV (cC v (i*k)) j=.pointer (some ⟨b,o,none⟩)∧(storeVar t ⟨b,o,none⟩ c).run P w=.ok () w'∧Own B k e w' v (es.set i (ce.set j c))∧Mv v.ownBlock w w':=by
 have hil:=(List.getElem?_eq_some_iff.1 hi).1;have hce:ce.length=k:=h.each ce (List.mem_of_getElem? hi);have hcc:c.cells=#[c]:=by cases c<;>first|rfl|cases h1
 rcases h.row.2 with ⟨rfl,h0⟩|⟨g,cap,cur,fz,rfl,hb,hg,hfz,hnc,hcm,hcs,htake⟩
 ·omega
 ·have hl:=aY h.each;have hik:i*k+k≤es.length*k:=by
   have:(i+1)*k≤es.length*k:=Nat.mul_le_mul_right k hil
   rwa [Nat.add_mul,Nat.one_mul]at this
  have hck:es.length*k≤cap*k:=Nat.mul_le_mul_right k hnc;have hst:=eC P g (i*k+j) e fz [c] 0 cur w hg hfz (by simp;omega) (by simpa using h1);simp only [Nat.add_zero,List.length_cons,List.length_nil,Nat.zero_add]at hst;have hset:cur.toList.take (i*k+j) ++ [c]++cur.toList.drop (i*k+j+1)=cur.toList.set (i*k+j) c:=by
   rw [List.set_eq_take_append_cons_drop,if_pos (by simp;omega)];simp
  rw [hset]at hst;obtain ⟨ti,hq,hsz⟩:=rN (iO hs);have hall:∀ x∈es.set i (ce.set j c),x.length=k:=by
   intro x hx;rcases List.mem_or_eq_of_mem_set hx with hx|rfl
   ·exact h.each x hx
   ·simpa using hce
  refine ⟨w.setRow g (cur.toList.set (i*k+j) c).toArray,g,i*k+j,by simp [cC,aV,cY],?_,⟨⟨?_, .inr ⟨g,cap,(cur.toList.set (i*k+j) c).toArray,fz,?_,hb,setRow_heap w g cur _ e _ hg,?_,?_,hcm,?_,?_⟩⟩,hall⟩,⟨rfl,rfl,rfl,aX,fun k _ hk=>setRow_other w g k _ (fun e=>hk (by simp [Value.ownBlock,e])),Nat.le_refl _⟩⟩
  ·simpa [storeVar,sizeOf,typeInfo,hq,hsz,hcc]using hst
  ·rw [aY hall]
  ·simp
  ·simpa using hfz
  ·simpa using hnc
  ·simpa using hcs
  ·rw [uQ es i j ce h.each hi hj,← htake];simp only [List.length_set,List.take_set]
section
variable {P:Program} {ops:Array Oper} {Q:Exit→Act→World→Prop} {w:World} {rest:List Oper} {ts:List Value} {df:List Deferred} {ty:TypeId} {ps:String} {af:Array Edge} {g:Option (Nat×Bool)}
theorem kW {c:Value} {ce:List Value} {t ty2:TypeId} {x y:Operand} (hw:Region.wanted (Oper.mk none (.store t x y) ty2 ps af g) (yielded ops ts.toArray)=true)
 (hx:(Act.mk ts.toArray df).eval x=aV (cC v (i*k)) j) (hy:(Act.mk ts.toArray df).eval y=c) (h:Own B k e w v es) (hi:es[i]? = some ce) (hj:j<k) (hs:dG P t 1=true) (h1:c.oneCell'=true)
 (hk:∀ w',Own B k e w' v (es.set i (ce.set j c))→Mv v.ownBlock w w'→wpList P ops Q rest (Act.mk ts.toArray df) w'):wpList P ops Q (Oper.mk none (.store t x y) ty2 ps af g::rest) (Act.mk ts.toArray df) w:=by
 obtain ⟨w',b,o,he,hr,ho,hm⟩:=h.storeF (P:=P) hi hj hs h1;refine iP hw (w':=w') ?_ (hk w' ho hm);simp [execOp,hx,hy,he,Instr.storeAt,Instr.sureAddr,hr]
end
structure SetsW (B:Nat) (w:World) (css:List (List Value)) (l:List RSet):Prop where
 len:css.length=l.length
 at':∀ (i:Nat) (s:RSet),l[i]? = some s→∃ x,css[i]? = some [aE s.name, .int .i64 s.kind, .int .i64 s.ttl,x]∧Own B 1 9 w x (aH s.data)
theorem SetsW.sets {l:List RSet} (h:SetsW B w css l):SetsC w css l :=
 ⟨h.len,fun i s hi=>let ⟨x,a,b⟩:=h.at' i s hi;⟨x,a,b.sl⟩⟩
theorem SetsW.ext {l:List RSet} (h:SetsW B w css l) (hx:Ext w w'):SetsW B w' css l :=
 ⟨h.len,fun i s hi=>let ⟨x,a,b⟩:=h.at' i s hi;⟨x,a,b.ext hx⟩⟩
theorem SetsW.mv {B' k' e':Nat} {l:List RSet} (h:SetsW B w css l) (ho:Own B' k' e' w v es) (he:9≠e') (hm:Mv v.ownBlock w w'):SetsW B w' css l :=
 ⟨h.len,fun i s hi=>let ⟨x,a,b⟩:=h.at' i s hi;⟨x,a,b.mv hm (b.ne ho he)⟩⟩
theorem SetsW.put {t:Nat} {l:List RSet} {o:Obj} (h:SetsW B w css l) (hb:w.heap[b]? = some (.cells cs t fz)) (ht:t≠9) (hp:Put w w' b o):SetsW B w' css l :=
 ⟨h.len,fun i s hi=>let ⟨x,a,c⟩:=h.at' i s hi;⟨x,a,c.mv hp.mv (.inr (c.neBlock hb ht))⟩⟩
theorem SetsW.weaken {C:Nat} {l:List RSet} (h:SetsW B w css l) (hc:C≤B):SetsW C w css l :=
 ⟨h.len,fun i s hi=>let ⟨x,a,b⟩:=h.at' i s hi;⟨x,a,b.weaken hc⟩⟩
theorem SetsW.append {l m:List RSet} {c d:List (List Value)} (h:SetsW B w c l) (k:SetsW B w d m):SetsW B w (c++d) (l++m):=by
 refine ⟨by rw [List.length_append,List.length_append,h.len,k.len],fun i s hi=>?_⟩;rw [List.getElem?_append]at hi ⊢;rw [h.len];split at hi
 ·rw [if_pos ‹_›];exact h.at' i s hi
 ·rw [if_neg ‹_›];exact k.at' _ s hi
theorem SetsW.one {s:RSet} {x:Value} (h:Own B 1 9 w x (aH s.data)):SetsW B w [[aE s.name, .int .i64 s.kind, .int .i64 s.ttl,x]] [s] :=
 ⟨rfl,fun i t hi=>by
  match i,hi with
  | 0,hi=>cases hi;exact ⟨x,rfl,h⟩⟩
theorem SetsW.nil (B:Nat) (w:World):SetsW B w [] []:=⟨rfl,aX⟩
theorem SetsW.from' {C:Nat} {l:List RSet} (h:SetsW B w css l) (hc:C≤B):FromC C css:=by
 intro f hf u hu;obtain ⟨i,hi,rfl⟩:=List.mem_iff_getElem.1 hf;obtain ⟨x,h1,h2⟩:=h.at' i _ (List.getElem?_eq_getElem (by rw [← h.len];exact hi));rw [List.getElem?_eq_getElem hi]at h1;rw [Option.some.inj h1]at hu;exact (FromC.one (h2.from' hc)) _ (List.mem_singleton.2 rfl) u hu
structure SetsV (B:Nat) (w:World) (v:Value) (l:List RSet):Prop where
 out:∃ css,Own B 4 136 w v css∧SetsW B w css l
theorem SetsV.toO {C:Nat} {l:List RSet} (h:SetsV B w v l) (hc:C≤B):SetsO C w v l:=by
 obtain ⟨css,h1,h2⟩:=h;exact ⟨css,h1.sl,h1.from' hc,h2.sets,h2.from' hc⟩
theorem SetsV.ext {l:List RSet} (h:SetsV B w v l) (hx:Ext w w'):SetsV B w' v l:=by
 obtain ⟨css,h1,h2⟩:=h;exact ⟨css,h1.ext hx,h2.ext hx⟩
theorem SetsV.weaken {C:Nat} {l:List RSet} (h:SetsV B w v l) (hc:C≤B):SetsV C w v l:=by
 obtain ⟨css,h1,h2⟩:=h;exact ⟨css,h1.weaken hc,h2.weaken hc⟩
theorem SetsV.put {t:Nat} {l:List RSet} {o:Obj} (h:SetsV B w v l) (hb:w.heap[b]? = some (.cells cs t fz)) (ht:t≠9) (ht2:t≠136) (hp:Put w w' b o):SetsV B w' v l:=by
 obtain ⟨css,h1,h2⟩:=h;exact ⟨css,h1.mv hp.mv (.inr (h1.neBlock hb ht2)),h2.put hb ht hp⟩
theorem SetsV.slf {l:List RSet} (h:SetsV B w v l):∃ a n c,v=.slice a n c:=by
 obtain ⟨css,h1,h2⟩:=h;exact h1.sl.slf
theorem RB (v:Value) (css:List (List Value)) (w:World) (hv:Sl 4 w v css) (h1:∀ f∈css,∀ u∈f,u.oneCell'=true) (hl:css.length≤1000000):Calls Tryz.prog 63 #[v] w (kZ w fun v' w'=>Own w.heap.size 4 136 w' v' css):=by
 go_enter Tryz.func63,Tryz.ntmps63
 (repeat' first|((with_reducible refine aZ ?_);go_step)|((with_reducible refine aS ?_);first|refine dU ?_|(refine bG ?_ ?_<;>intro hc))|fail)
 ·have hn:=‹wS v=true›;go_ret;have:css=[]:=hv.isNil hn;refine ⟨_,rfl,Ext.refl _,?_⟩;rw [this];exact Own.nil _ _ _ _
 ·refine kE (t:=68) (e:=136) (k:=4) (bytes:=56) zDk rfl ?_;intro v2 w2 x2 s2 o2;refine aB ?_
  (repeat' first|((with_reducible refine aZ ?_);go_step)|((with_reducible refine aS ?_);first|refine dU ?_|(refine bG ?_ ?_<;>intro hc))|fail)
  refine bV (B:=w.heap.size) (e:=136) rfl o2 rfl (hv.ext x2) h1 x2.size (by simp;omega) ?_;intro v3 w3 o3 m3 _;have x3:=o2.mvx m3 x2 (Nat.le_refl _);refine aB ?_
  (repeat' first|((with_reducible refine aZ ?_);go_step)|((with_reducible refine aS ?_);first|refine dU ?_|(refine bG ?_ ?_<;>intro hc))|fail)
  go_ret;exact ⟨_,rfl,x3,by simpa using o3⟩
def XQ (s:SoaR) (n:Int):SoaR:={ s with serial:=n }
def RC (o:List UInt8) (l:List RSet) (n:Int):Int:=if cW o l=0 then (if (XQ (fO o l) n).ok=true then 0 else 1)else cW o l
def Cm (o:List UInt8) (l:List RSet) (n:Int):List UInt8:=(XQ (fO o l) n).data
def tB (d:List UInt8) (s:RSet):RSet:=if s.kind=6 then ⟨s.name,s.kind,s.ttl,[d]⟩else s
def ZN (o:List UInt8) (l:List RSet) (n:Int):List RSet:=if RC o l n=0 then l.map (tB (Cm o l n))else []
def ZO (o:List UInt8) (l:List RSet) (n:Int):List UInt8:=if RC o l n=0 then o else []
def RenU (B:Nat) (o:List UInt8) (l:List RSet) (n:Int) (r:Value) (w':World):Prop :=
 ∃ v,r=.tuple #[.agg #[aE (ZO o l n),v], .int .i64 (RC o l n)]∧SetsO B w' v (ZN o l n)
theorem RenU.bad {l:List RSet} {n e:Int} (h:RC o l n=e) (he:e≠0):RenU B o l n (.tuple #[.agg iQ.toArray, .int .i64 e]) w':=by
 refine ⟨.slice none 0 0,?_,?_⟩
 ·rw [h,ZO,if_neg (by rw [h];exact he)];rfl
 ·rw [ZN,if_neg (by rw [h];exact he)];exact SetsO.nil _ _
theorem RenU.good {l:List RSet} {n:Int} (h:RC o l n=0) (hv:SetsO B w' v (l.map (tB (Cm o l n)))):RenU B o l n (.tuple #[.agg #[aE o,v], .int .i64 0]) w':=by
 refine ⟨v,?_,?_⟩
 ·rw [ZO,if_pos h,h]
 ·rw [ZN,if_pos h];exact hv
theorem ZoneOk.one6 {l:List RSet} (h:ZoneOk o l) {s:RSet} (hs:s∈l) (h6:s.kind=6):s.name=o∧s.data.length=1:=by
 have hr:=h.right s hs;simp only [jG,Bool.and_eq_true,Bool.not_eq_true',h6]at hr;have:=hr.1.1.2;simp only [decide_true,Bool.true_and,Bool.or_eq_false_iff,decide_eq_false_iff_not,ne_eq,Decidable.not_not]at this;exact this
theorem MF {s:RSet} (h:¬ s.kind=6):tB d s=s:=by rw [tB,if_neg h]
theorem IH {s:RSet} (h:s.kind=6):tB d s=⟨s.name,s.kind,s.ttl,[d]⟩:=by rw [tB,if_pos h]
theorem SetsW.set {l:List RSet} (h:SetsW B w css l) {s:RSet} {x:Value} (hx:Own B 1 9 w x (aH s.data)):SetsW B w (css.set i [aE s.name, .int .i64 s.kind, .int .i64 s.ttl,x]) (l.set i s):=by
 refine ⟨by rw [List.length_set,List.length_set,h.len],fun j t hj=>?_⟩;by_cases e:i=j
 ·subst e;have hlt:i<l.length:=by have:=(List.getElem?_eq_some_iff.1 hj).1;simpa using this
  rw [List.getElem?_set_self hlt]at hj;cases hj
  exact ⟨x,List.getElem?_set_self (by rw [h.len];exact hlt),hx⟩
 ·rw [List.getElem?_set_ne e]at hj;rw [List.getElem?_set_ne e];exact h.at' j t hj
structure SetsM (B:Nat) (w0 w:World) (css0 css:List (List Value)) (l:List RSet) (d:List UInt8) (k:Nat):Prop where
 len:css.length=l.length
 new:∀ (i:Nat) (s:RSet),l[i]? = some s→i<k→∃ x,css[i]? = some [aE s.name, .int .i64 s.kind, .int .i64 s.ttl,x]∧Own B 1 9 w x (aH (tB d s).data)
 old:∀ i,k≤i→css[i]? = css0[i]?
theorem SetsM.ext {l:List RSet} (h:SetsM B w0 w css0 css l d k) (hx:Ext w w'):SetsM B w0 w' css0 css l d k :=
 ⟨h.len,fun i s hi hk=>let ⟨x,a,b⟩:=h.new i s hi hk;⟨x,a,b.ext hx⟩,h.old⟩
theorem SetsM.mv {l:List RSet} (h:SetsM B w0 w css0 css l d k) (hm:Mv row w w') (hne:∀ x es,Own B 1 9 w x es→x.ownBlock=none∨x.ownBlock≠row):SetsM B w0 w' css0 css l d k :=
 ⟨h.len,fun i s hi hk=>let ⟨x,a,b⟩:=h.new i s hi hk;⟨x,a,b.mv hm (hne x _ b)⟩,h.old⟩
theorem SetsM.step {l:List RSet} (h:SetsM B w0 w css0 css l d k) (hk:k<l.length) {y:Value} (hy:Own B 1 9 w y (aH (tB d l[k]).data)) :
 SetsM B w0 w css0 (css.set k [aE l[k].name, .int .i64 l[k].kind, .int .i64 l[k].ttl,y]) l d (k+1):=by
 refine ⟨by rw [List.length_set,h.len],fun i s hi hik=>?_,fun i hi=>?_⟩
 ·by_cases e:k=i
  ·subst e;rw [List.getElem?_eq_getElem hk]at hi;cases hi
   exact ⟨y,List.getElem?_set_self (by rw [h.len];exact hk),hy⟩
  ·obtain ⟨x,a,b⟩:=h.new i s hi aC;exact ⟨x,by rw [List.getElem?_set_ne e];exact a,b⟩
 ·rw [List.getElem?_set_ne aC];exact h.old i aC
theorem OB {s:RSet}:(tB d s).name=s.name∧(tB d s).kind=s.kind∧(tB d s).ttl=s.ttl:=by
 unfold tB;split<;>exact ⟨rfl,rfl,rfl⟩
theorem SetsM.done {l:List RSet} (h:SetsM B w0 w css0 css l d l.length):SetsW B w css (l.map (tB d)):=by
 refine ⟨by rw [List.length_map,h.len],fun i s hi=>?_⟩;rw [List.getElem?_map]at hi;cases hq:l[i]? with
 | none=>rw [hq]at hi;cases hi
 | some t =>
  rw [hq]at hi;cases hi
  obtain ⟨x,a,b⟩:=h.new i t hq (List.getElem?_eq_some_iff.1 hq).1;obtain ⟨e1,e2,e3⟩:=OB (d:=d) (s:=t);exact ⟨x,by rw [e1,e2,e3];exact a,b⟩
theorem RD {s:SoaR} (h:dK d=some s):s.ok=true:=by
 unfold dK at h;simp only at h;split at h
 ·rename_i hh;cases h;exact hh.2.2.2
 ·cases h
theorem ZoneOk.only {l:List RSet} (h:ZoneOk o l) {s:RSet} (hs:s∈l) (h6:s.kind=6):s.data=[qE o l]:=by
 obtain ⟨t,ht,_,_,_,hd,_⟩:=h.soaSet;obtain ⟨i,hi,rfl⟩:=List.mem_iff_getElem.1 hs;have hf:=NX h.chk hi;rw [h6,(h.one6 hs h6).1,ht]at hf;rw [← Option.some.inj hf];exact hd
theorem ZoneOk.back {l:List RSet} (h:ZoneOk o l):(l.map (tB d)).map (tB (qE o l))=l:=by
 rw [List.map_map]
 conv=>rhs;rw [← List.map_id l]
 apply List.map_congr_left;intro s hs;simp only [Function.comp,id];by_cases h6:s.kind=6
 ·rw [IH (d:=d) h6,IH (by exact h6)];have:=h.only hs h6;cases s
  simp only at this;rw [this]
 ·rw [MF (d:=d) h6,MF h6]
theorem xK {l:List RSet} {r:Rec} (h:r∈bD l):∃ s∈l,∃ d∈s.data,r=uH s d:=by
 simp only [bD,List.mem_flatten,List.mem_map]at h;obtain ⟨rs,⟨s,hs,rfl⟩,hr⟩:=h;simp only [eK,List.mem_map]at hr;obtain ⟨d,hd,rfl⟩:=hr;exact ⟨s,hs,d,hd,rfl⟩
def DU (a b:List Rec):List Rec:=a.filter fun r => !decide (r∈b)
structure DeltaR where
 fr:Int
 to:Int
 gone:List Rec
 new:List Rec
 deriving DecidableEq,Inhabited
def XR:DeltaR:=⟨0,0,[],[]⟩
def Cn (oa:List UInt8) (la:List RSet) (ob:List UInt8) (lb:List RSet):Int :=
 if cW oa la=0 then (if cW ob lb=0 then (if oa=ob then 0 else 1)else cW ob lb)else cW oa la
def Co (oa:List UInt8) (la:List RSet) (ob:List UInt8) (lb:List RSet):DeltaR :=
 if Cn oa la ob lb=0 then ⟨(fO oa la).serial,(fO ob lb).serial,DU (bD la) (bD lb),DU (bD lb) (bD la)⟩else XR
def XS:List Rec→List Rec→Option (List Rec)
 | l,[]=>some l
 | l,r::g=>if r∈l then XS (l.erase r) g else none
def Cp:List Rec→List Rec→Option (List Rec)
 | l,[]=>some l
 | l,r::g=>if r∈l then none else Cp (l ++ [r]) g
def MG (l:List Rec) (d:DeltaR):Option (List Rec):=(XS l d.gone).bind fun m=>Cp m d.new
def Cq (o:List UInt8) (m:List Rec) (to:Int):Int :=
 if jT o m=0 then (if (fO (gC o m) (pX o m)).serial=to∧(bD (pX o m)).length=m.length∧DU m (bD (pX o m))=[]then 0 else 2)else jT o m
def tC (o:List UInt8) (l:List RSet) (d:DeltaR):Int :=
 if cW o l=0 then (if (fO o l).serial=d.fr then (match MG (bD l) d with
  | none=>5
  | some m=>Cq o m d.to)else 7)else cW o l
def KN (o:List UInt8) (l:List RSet) (d:DeltaR):List RSet:=if tC o l d=0 then pX o ((MG (bD l) d).getD [])else []
def II (o:List UInt8) (l:List RSet) (d:DeltaR):List UInt8:=if tC o l d=0 then gC o ((MG (bD l) d).getD [])else []
theorem Ch.same {L M:List Rec} {s:RSet} (h:Ch L s) (hm:∀ r,r∈L↔r∈M):Ch M s where
 dat d:=by
  rw [h.dat];constructor
  ·rintro ⟨r,h1,h2⟩;exact ⟨r,(hm r).1 h1,h2⟩
  ·rintro ⟨r,h1,h2⟩;exact ⟨r,(hm r).2 h1,h2⟩
 ttl:=let ⟨r,h1,h2⟩:=h.ttl;⟨r,(hm r).1 h1,h2⟩
 low r h1 h2:=h.low r ((hm r).2 h1) h2
theorem Cr {oa ob:List UInt8} {la lb:List RSet} (h:Cn oa la ob lb=0):ZoneOk oa la∧ZoneOk oa lb∧oa=ob∧Co oa la ob lb=⟨(fO oa la).serial,(fO oa lb).serial,DU (bD la) (bD lb),DU (bD lb) (bD la)⟩:=by
 have h0:=h;unfold Cn at h;split at h
 ·rename_i q1;split at h
  ·rename_i q2;split at h
   ·rename_i q3;subst q3;exact ⟨lT q1,lT q2,rfl,by rw [Co,if_pos h0]⟩
   ·cases h
  ·rename_i q2;exact absurd h q2
 ·rename_i q1;exact absurd h q1
def qU:List Value:=[aE [], .int .i64 0, .int .i64 0,aE []]
theorem jJ (v:Value) (l:List Rec) (w:World) (hv:Sl 4 w v (aF l)) (hl:l.length≤1000000):Calls Tryz.prog 45 #[v] w (kZ w fun v' w'=>Own w.heap.size 4 37 w' v' (aF l)):=by
 have hlen:=aJ l;go_enter Tryz.func45,Tryz.ntmps45
 (repeat' first|((with_reducible refine aZ ?_);go_step)|((with_reducible refine aS ?_);first|refine dU ?_|(refine bG ?_ ?_<;>intro hc))|fail)
 ·have hn:=‹wS v=true›;go_ret;have:aF l=[]:=hv.isNil hn;refine ⟨_,rfl,Ext.refl _,?_⟩;rw [this];exact Own.nil _ _ _ _
 ·refine kE (t:=28) (e:=37) (k:=4) (bytes:=48) zDk rfl ?_;intro v2 w2 x2 s2 o2;refine aB ?_;refine_lift cL ?_;refine bV (B:=w.heap.size) (e:=37) rfl o2 rfl (hv.ext x2) (by intro f hf u hu;obtain ⟨r,_,rfl⟩:=List.mem_map.1 hf;simp only [Rec.cells,List.mem_cons,List.not_mem_nil,or_false]at hu;rcases hu with rfl|rfl|rfl|rfl<;>rfl) x2.size (by simp;omega) ?_;intro v3 w3 o3 m3 _;have x3:=o2.mvx m3 x2 (Nat.le_refl _);refine aB ?_;refine_lift cL ?_;go_ret;exact ⟨_,rfl,x3,by simpa using o3⟩
end Go.Proofs.X
namespace Go.Proofs.X
open Go.RowKit
def Ep:List Value:=[.int .i64 0, .int .i64 0, .slice none 0 0, .slice none 0 0]
def DelA (d:DeltaR) (r:Value) (w:World):Prop:=∃ g n,r=.agg #[.int .i64 d.fr, .int .i64 d.to,g,n]∧Sl 4 w g (aF d.gone)∧Sl 4 w n (aF d.new)
def DelO (B:Nat) (d:DeltaR) (r:Value) (w:World):Prop:=∃ g n,r=.agg #[.int .i64 d.fr, .int .i64 d.to,g,n]∧Own B 4 37 w g (aF d.gone)∧Own B 4 37 w n (aF d.new)
theorem DelO.a {B:Nat} {d:DeltaR} {r:Value} {w:World} (h:DelO B d r w):DelA d r w:=let ⟨g,n,e,a,b⟩:=h;⟨g,n,e,a.sl,b.sl⟩
def DelU (B:Nat) (d:DeltaR) (e:Int) (r:Value) (w:World):Prop:=∃ y,r=.tuple #[y, .int .i64 e]∧DelO B d y w
theorem DelU.bad {B:Nat} {d:DeltaR} {e:Int} {w:World} (h:d=XR):DelU B d e (.tuple #[.agg Ep.toArray, .int .i64 e]) w:=by
 subst h;exact ⟨_,rfl,_,_,rfl,Own.nil _ _ _ _,Own.nil _ _ _ _⟩
end Go.Proofs.X
