/- Laws and walks that the proof of the statement is made of (part 5). -/
import Derived.Test.YtjabkigdeoopiaaGreatP4
set_option linter.unusedSimpArgs false
set_option linter.unusedVariables false
set_option maxRecDepth 100000
set_option maxHeartbeats 20000000
namespace Go.Proofs.X
open Go.RowKit
variable {cs:Array Value} {held:Bool} {qt:Int} {ps rs:List (List UInt8 × Nat)} {ls:List (List UInt8)} {css css0 es:List (List Value)} {d l m n o qn s t x y z:List UInt8} {B a b base c e fuel i j k p q:Nat} {fz:Nat × Nat} {row:Option Nat} {r u v:Value} {w w' w0 w1 w2:World}
theorem PC (u v:Value) (a b:List (List UInt8)) (w:World) (hu:Sl 1 w u (aI a)) (hv:Sl 1 w v (aI b)):Calls Tryz.prog 140 #[u,v] w (bG w (.bool (decide (a=b)))):=by
 have hal:=hu.le;have ha:=bQ a;have hb:=bQ b;go_enter Tryz.func140,Tryz.ntmps140
 (repeat' first | ((with_reducible refine eN ?_);go_step) | ((with_reducible refine cB ?_);first | refine qO ?_ | (refine fA ?_ ?_ <;> intro hc)) | fail)
 ·have hne:=‹(!decide (((aI a).length:Int)=((aI b).length:Int)))=true›;go_ret;refine ⟨?_,Ext.refl _⟩;have:a≠b:=by rintro rfl;simp at hne
  simp [this]
 ·have hne:=‹(!decide (((aI a).length:Int)=((aI b).length:Int)))=false›;have hlen:a.length=b.length:=by simp at hne;omega
  go_loopw [5,13] (fun _ i wr=>∃ k:Nat,k≤a.length∧i=.int .i64 k∧Ext w wr∧a.take k=b.take k) (fun _ i _=>a.length - (intOf i).toNat)
  case atStart=>exact ⟨0,Nat.zero_le _,rfl,Ext.refl _,rfl⟩
  case round =>
   obtain ⟨k,hk,rfl,hx,hall⟩:=hrel;by_cases hlt:k < a.length
   ·have hlt2:k < b.length:=aC;have h1:=(hu.ext hx).elem (lU hlt);have h2:=(hv.ext hx).elem (lU hlt2);have hu2:=hu.ext hx;have hv2:=hv.ext hx;refine_lift OT ?_;intro _ _ _ _ _ _;refine cZ (S:=Ext wr) zDk ?_;intro w2 x2 _;refine tk 0 ?_;refine aB ?_;refine tk 1 ?_;refine aB ?_;refine tk 2 ?_;refine aB ?_;refine tk 3 ?_;refine aB ?_;refine tk 4 ?_;refine aB ?_;refine tk 5 ?_;refine aB ?_;refine tk 6 ?_;refine aB ?_;refine tk 7 ?_;refine aB ?_;refine tk 8 ?_;refine aB ?_;refine cJ zDk ?_;by_cases he:a[k]=b[k]
    ·have e1:decide (a[k]=b[k])=true:=decide_eq_true he;simp only [e1,Bool.not_true];refine_lift eA ?_;exact ⟨⟨k + 1,aC,by go_num,by exact fW,BJ hall hlt hlt2 he⟩,by simp [intOf];omega⟩
    ·have e1:decide (a[k]=b[k])=false:=decide_eq_false he;simp only [e1,Bool.not_false];refine_lift eA ?_;go_ret;refine ⟨?_,by exact fW⟩;simp [LR hlt hlt2 he]
   ·have hk2:k=a.length:=aC;subst hk2;refine_lift HU fun _ => ?_;go_ret;refine ⟨?_,by exact fW⟩;rw [List.take_length,hlen,List.take_length] at hall;simp [hall]
theorem vP (n t:List UInt8) (w:World):Calls Tryz.prog 108 #[aE n,aE t] w (bG w (.bool (dC n t))):=by
 go_enter Tryz.func108,Tryz.ntmps108
 refine_lift jJ fun _ _ => ?_;refine pZ (UD n _) fun r1 w1 x1 h1 => ?_;cases ha:dK n with
 | none =>
  rw [ha] at h1;obtain ⟨s1,rfl⟩:=h1;refine_lift jJ fun _ _ => ?_;refine pZ (UD t _) fun r2 w2 x2 h2 => ?_;obtain ⟨s2,b2,rfl⟩:∃ s b,r2=.tuple #[s, .bool b]:=by
   cases hb:dK t with
   | none=>rw [hb] at h2;obtain ⟨s,rfl⟩:=h2;exact ⟨s,_,rfl⟩
   | some y=>rw [hb] at h2;obtain ⟨s,rfl,_⟩:=h2;exact ⟨s,_,rfl⟩
  refine_lift eA ?_;go_ret;exact ⟨by simp [dC,ha],x1.trans x2⟩
 | some a =>
  rw [ha] at h1;obtain ⟨s1,rfl,hs1,hl1⟩:=h1;refine_lift jJ fun _ _ => ?_;refine pZ (UD t _) fun r2 w2 x2 h2 => ?_;cases hb:dK t with
  | none =>
   rw [hb] at h2;obtain ⟨s2,rfl⟩:=h2;refine_lift eA ?_;go_ret;exact ⟨by simp [dC,ha,hb],x1.trans x2⟩
  | some b =>
   rw [hb] at h2;obtain ⟨s2,rfl,hs2,hl2⟩:=h2;have hs1:=hs1.ext x2;have tl1:=bQ a;have tl2:=bQ b;refine_lift WM (fun hc => ?_) (fun _ _ hc => ?_)
   ·have hle:b.length≤a.length:=aC;have hcut:=hs1.cut (m:=0) (n:=(aI b).length) (Nat.zero_le _) aC;rw [List.drop_zero] at hcut;have hcut:Sl 1 w2 (dL s1 1 0 (aI b).length) (aI (a.take b.length)):=by
     rw [tl2] at hcut ⊢
     simpa [aI,List.map_take] using hcut
    refine bX (PC _ _ _ _ _ hcut hs2) fun w3 x3 => ?_;refine_lift eA ?_;go_ret;exact ⟨by rw [pK ha hb];rfl,(x1.trans x2).trans x3⟩
   ·go_ret;refine ⟨?_,x1.trans x2⟩;have hlt:a.length < b.length:=aC;rw [pK ha hb,decide_eq_false (fun h=>by have:=uO h;omega)];rfl
def vG {α:Type} (p:α→Bool) (l:List α):Int:=match l.findIdx? p with
 | some i=>(i:Int)
 | none=>-1
theorem AF {α:Type} (p:α→Bool) (l:List α):(∃ (k:Nat) (hk:k < l.length),vG p l=k∧p l[k]=true∧l.find? p=some l[k])∨(vG p l=-1∧l.any p=false∧l.find? p=none):=by
 unfold vG;cases h:l.findIdx? p with
 | none =>
  rw [List.findIdx?_eq_none_iff] at h;refine .inr ⟨rfl,?_,?_⟩
  ·rw [List.any_eq_false];intro x hx;simp [h x hx]
  ·rw [List.find?_eq_none];intro x hx;simp [h x hx]
 | some k =>
  rw [List.findIdx?_eq_some_iff_getElem] at h;obtain ⟨hk,hp,hj⟩:=h;refine .inl ⟨k,hk,rfl,hp,?_⟩;rw [List.find?_eq_some_iff_getElem];exact ⟨hp,k,hk,rfl,fun j hjk=>by simpa using hj j hjk⟩
theorem BN {α:Type} {p:α→Bool} {l:List α} (hk:k < l.length) (ha:(l.take k).any p=false) (hp:p l[k]=true):vG p l=k:=by
 have:l.findIdx? p=some k:=by
  rw [List.findIdx?_eq_some_iff_getElem];refine ⟨hk,hp,fun j hj => ?_⟩;rw [List.any_eq_false] at ha;exact ha l[j] (by rw [List.mem_take_iff_getElem];exact ⟨j,aC,rfl⟩)
 rw [vG,this]
theorem BO {α:Type} {p:α→Bool} {l:List α} (ha:l.any p=false):vG p l=-1:=by
 have:l.findIdx? p=none:=by
  rw [List.findIdx?_eq_none_iff];intro x hx;rw [List.any_eq_false] at ha
  simpa using ha x hx
 rw [vG,this]
theorem BP {α:Type} (p:α→Bool) (l:List α):decide (0≤vG p l)=l.any p:=by
 rcases AF p l with ⟨k,hk,e,hp,_⟩ | ⟨e,h,_⟩
 ·rw [e,SQ hk hp];simp
 ·rw [e,h];rfl
def SetFn (w:World) (f:FuncId) (caps:Array Value) (l:List RSet) (p:RSet→Bool):Prop :=
 ∀ s ∈ l,∀ x w',Ext w w'→Sl 1 w' x (aI s.data)→Calls Tryz.prog f ([Value.agg #[aE s.name, .int .i64 s.kind, .int .i64 s.ttl,x]].toArray ++ caps) w' (bG w' (.bool (p s)))
theorem SetFn.ext {f:FuncId} {caps:Array Value} {l:List RSet} {p:RSet→Bool} (h:SetFn w f caps l p) (hx:Ext w w1):SetFn w1 f caps l p :=
 fun s hs x w' hx' hd=>h s hs x w' (hx.trans hx') hd
def Rule (w:World) (f:Value) (b:Bool):Prop:=∃ (g:FuncId) (caps:Array Value),f=.func (.func g) #[] caps∧Enters Tryz.prog g∧∀ w',Ext w w'→Calls Tryz.prog g (([]:List Value).toArray ++ caps) w' (bG w' (.bool b))
theorem Rule.ext {f:Value} {b:Bool} (h:Rule w f b) (hx:Ext w w'):Rule w' f b:=by
 obtain ⟨g,caps,h1,h2,h3⟩:=h;exact ⟨g,caps,h1,h2,fun w2 hx2=>h3 w2 (hx.trans hx2)⟩
def UQ:RSet:=⟨[],0,0,[]⟩
theorem MD {s:RSet} (h:lV s=true) (hi:i < s.data.length):aW ⟨s.name,s.kind,s.ttl,s.data[i]⟩=0:=by
 simp only [lV,Bool.and_eq_true,List.all_eq_true] at h;have:=h.2 i (by simpa using hi);simp only [rU,Bool.not_eq_true',Bool.or_eq_false_iff,decide_eq_false_iff_not,ne_eq,Decidable.not_not] at this;have e:s.data.getD i []=s.data[i]:=by simp [hi]
 rw [e] at this;exact this.1
theorem uP {r:Rec} (h:aW r=0):r.data.length≤4000∧fits r.kind r.data=true:=by
 unfold aW at h;split at h
 ·omega
 ·split at h
  ·omega
  ·rename_i h2;simp only [not_or,Bool.not_eq_false] at h2;exact ⟨aC,h2.2.2.2.2.2⟩
def zR:SoaR:=⟨[],[],0,0,0,0,0⟩
def xO (o:List UInt8) (l:List RSet):List UInt8:=((rV l o 6).getD UQ).data.getD 0 []
def gK (o:List UInt8) (l:List RSet):SoaR:=if jR o l=0 then gA (xO o l) else zR
theorem GI (h:(cA d).isSome=true):cA d=some (gA d):=by
 unfold cA at *;simp only at *;split at h
 ·rename_i h1;rw [if_pos h1]
 ·cases h
theorem ZoneOk.soaSet {l:List RSet} (h:ZoneOk o l):∃ s,rV l o 6=some s∧s ∈ l∧s.name=o∧s.kind=6∧s.data=[xO o l]∧cA (xO o l)=some (gA (xO o l))∧(xO o l).length≤4000:=by
 obtain ⟨s,hs⟩:=Option.isSome_iff_exists.1 h.soa;obtain ⟨h1,h2,h3⟩:=JQ hs;have hr:=h.right s h1;have hm:=h.may h1;have hl:s.data.length=1:=by
  simp only [oU,Bool.and_eq_true,Bool.not_eq_true',h3] at hr;have:=hr.1.1.2;simp only [decide_true,Bool.true_and,Bool.or_eq_false_iff,decide_eq_false_iff_not,ne_eq,Decidable.not_not] at this;exact this.2
 have hd:s.data=[xO o l]:=by
  have e:xO o l=s.data.getD 0 []:=by rw [xO,hs];rfl
  rw [e]
  match s.data,hl with
  | [d],_=>rfl
 have hc:=MD hm (i:=0) aC;obtain ⟨c1,c2⟩:=uP hc;have e0:s.data[0]'(aC)=xO o l:=by simp [hd]
 simp only [e0,h3] at c1 c2;refine ⟨s,hs,h1,by rw [h2,h.fold],h3,hd,GI ?_,c1⟩
 simpa [fits] using c2
theorem ME (s:SoaR):(Value.agg s.cells.toArray).cells.all (·.oneCell')=true:=by
 simp [SoaR.cells,Value.cells,Value.oneCell',aE]
def mA (s:List UInt8):List (List UInt8)→List (List UInt8)
 | []=>[s]
 | x :: l=>if Op.bytesLess x s=true then x :: mA s l else if x=s then x :: l else s :: x :: l
theorem AG (s:List UInt8):∀ l:List (List UInt8),(mA s l).length≤l.length + 1
 | []=>by simp [mA]
 | x :: l=>by
   rw [mA];split
   ·have:=AG s l;simp;omega
   ·split <;> simp
def dF (r:Rec):RSet:=⟨fold r.name,r.kind,r.ttl,[r.data]⟩
def kH (r:Rec):List RSet→List RSet
 | []=>[dF r]
 | g :: gs=>if xI g (dF r)=true then g :: kH r gs else if xI (dF r) g=true then dF r :: g :: gs else ⟨fold r.name,r.kind,min r.ttl g.ttl,mA r.data g.data⟩ :: gs
def cU (l:List Rec):List RSet:=l.foldl (fun gs r=>kH r gs) []
theorem uQ {l:List Rec} (h:k < l.length):cU (l.take (k + 1))=kH l[k] (cU (l.take k)):=by
 rw [cU,List.take_add_one,List.getElem?_eq_getElem h,Option.toList_some,List.foldl_append];rfl
theorem DV (r:Rec):∀ gs:List RSet,(kH r gs).length≤gs.length + 1
 | []=>by simp [kH]
 | g :: gs=>by
   have:=DV r gs;rw [kH];split
   ·simp;omega
   ·split <;> simp
theorem AH (r:Rec) (n:Nat):∀ gs:List RSet,(∀ s ∈ gs,s.data.length≤n)→∀ s ∈ kH r gs,s.data.length≤n + 1
 | [],_,s,h=>by
   have:s=dF r:=by simpa [kH] using h
   subst this;simp [dF]
 | g :: gs,hn,s,h=>by
   have hg:=hn g bE;have hn':∀ s ∈ gs,s.data.length≤n:=fun s hs=>hn s (by simp [hs]);rw [kH] at h;split at h
   ·rcases List.mem_cons.1 h with rfl | h
    ·omega
    ·exact AH r n gs hn' s h
   ·split at h
    ·rcases List.mem_cons.1 h with rfl | h
     ·simp [dF]
     ·have:=hn s h;omega
    ·rcases List.mem_cons.1 h with rfl | h
     ·have:=AG r.data g.data;show (mA r.data g.data).length≤n + 1;omega
     ·have:=hn' s h;omega
theorem lG (l:List Rec):∀ k,k≤l.length→(cU (l.take k)).length≤k∧∀ s ∈ cU (l.take k),s.data.length≤k
 | 0,_=>by simp [cU]
 | k + 1,h=>by
   obtain ⟨h1,h2⟩:=lG l k aC;rw [uQ (show k < l.length by omega)];have:=DV (l[k]'(aC)) (cU (l.take k));exact ⟨aC,AH _ k _ h2⟩
def sD (l:List Rec):Int:=if l.all zV=false then 1 else if 200 < (cU l).length then 4 else if (cU l).any LX=true then 4 else 0
def RefR (B:Nat) (l:List Rec) (r:Value) (w':World):Prop:=if sD l=0 then ∃ v,r=.tuple #[v, .int .i64 0]∧SetsO B w' v (cU l) else r=.tuple #[.slice none 0 0, .int .i64 (sD l)]
theorem AI:∀ {gs:List RSet} {r:Rec} {s:RSet},uG gs→s ∈ dG gs r→(s ∈ gs∧bC s r=false)∨(∃ t ∈ gs,bC t r=true∧s=jK t r)∨((∀ t ∈ gs,bC t r=false)∧s=⟨fold r.name,r.kind,r.ttl,[r.data]⟩)
 | [],r,s,_,h=>by
   right;right;exact ⟨bE,by simpa [dG] using h⟩
 | a :: l,r,s,hd,h=>by
   obtain ⟨p1,p2⟩:=List.pairwise_cons.1 (gI.1 hd);by_cases hm:bC a r=true
   ·simp only [dG,hm,if_true,List.mem_cons] at h;rcases h with h | h
    ·exact .inr (.inl ⟨a,bE,hm,h⟩)
    ·refine .inl ⟨by simp [h],?_⟩;cases hs:bC s r with
     | false=>rfl
     | true =>
      exfalso
      simp only [bC,Bool.and_eq_true,decide_eq_true_eq] at hs hm;exact p1 s h ⟨by rw [hm.1,hs.1],by rw [hm.2,hs.2]⟩
   ·have hm':bC a r=false:=by simpa using hm
    simp only [dG,hm',Bool.false_eq_true,if_false,List.mem_cons] at h;rcases h with rfl | h
    ·exact .inl ⟨bE,hm'⟩
    ·rcases AI (gI.2 p2) h with ⟨h1,h2⟩ | ⟨t,h1,h2,h3⟩ | ⟨h1,h2⟩
     ·exact .inl ⟨by simp [h1],h2⟩
     ·exact .inr (.inl ⟨t,by simp [h1],h2,h3⟩)
     ·refine .inr (.inr ⟨?_,h2⟩);intro t ht;rcases List.mem_cons.1 ht with rfl | ht
      ·exact hm'
      ·exact h1 t ht
structure Ch (L:List Rec) (s:RSet):Prop where
 dat:∀ d,d ∈ s.data↔∃ r ∈ L,bC s r=true∧r.data=d
 ttl:∃ r ∈ L,bC s r=true∧r.ttl=s.ttl
 low:∀ r ∈ L,bC s r=true→s.ttl≤r.ttl
theorem Ch.miss {L:List Rec} {s:RSet} {r:Rec} (h:Ch L s) (hm:bC s r=false):Ch (L ++ [r]) s where
 dat d:=by
  rw [h.dat];constructor
  ·rintro ⟨q,h1,h2⟩;exact ⟨q,by simp [h1],h2⟩
  ·rintro ⟨q,h1,h2,h3⟩;rcases List.mem_append.1 h1 with h1 | h1
   ·exact ⟨q,h1,h2,h3⟩
   ·obtain rfl:=List.mem_singleton.1 h1;rw [hm] at h2;cases h2
 ttl:=let ⟨q,h1,h2⟩:=h.ttl;⟨q,by simp [h1],h2⟩
 low q h1 h2:=by
  rcases List.mem_append.1 h1 with h1 | h1
  ·exact h.low q h1 h2
  ·obtain rfl:=List.mem_singleton.1 h1;rw [hm] at h2;cases h2
theorem Ch.bump {L:List Rec} {s:RSet} {r:Rec} (h:Ch L s) (hm:bC s r=true):Ch (L ++ [r]) (X.jK s r) where
 dat d:=by
  show d ∈ s.data ++ [r.data]↔∃ q ∈ L ++ [r],bC s q=true∧q.data=d;rw [List.mem_append,h.dat,List.mem_singleton];constructor
  ·rintro (⟨q,h1,h2⟩ | rfl)
   ·exact ⟨q,by simp [h1],h2⟩
   ·exact ⟨r,bE,hm,rfl⟩
  ·rintro ⟨q,h1,h2,h3⟩;rcases List.mem_append.1 h1 with h1 | h1
   ·exact .inl ⟨q,h1,h2,h3⟩
   ·obtain rfl:=List.mem_singleton.1 h1;exact .inr h3.symm
 ttl:=by
  show ∃ q ∈ L ++ [r],bC s q=true∧q.ttl=min s.ttl r.ttl;obtain ⟨q,h1,h2,h3⟩:=h.ttl;rcases Int.le_total s.ttl r.ttl with hl | hl
  ·exact ⟨q,by simp [h1],h2,by rw [h3];omega⟩
  ·exact ⟨r,bE,hm,aC⟩
 low q h1 h2:=by
  show min s.ttl r.ttl≤q.ttl;rcases List.mem_append.1 h1 with h1 | h1
  ·have:=h.low q h1 h2;omega
  ·obtain rfl:=List.mem_singleton.1 h1;omega
theorem Ch.new {L:List Rec} {r:Rec} (h:∀ q ∈ L,bC ⟨fold r.name,r.kind,r.ttl,[r.data]⟩ q=false):Ch (L ++ [r]) ⟨fold r.name,r.kind,r.ttl,[r.data]⟩ where
 dat d:=by
  rw [List.mem_singleton];constructor
  ·rintro rfl;exact ⟨r,bE,by simp [bC],rfl⟩
  ·rintro ⟨q,h1,h2,h3⟩;rcases List.mem_append.1 h1 with h1 | h1
   ·rw [h q h1] at h2;cases h2
   ·obtain rfl:=List.mem_singleton.1 h1;exact h3.symm
 ttl:=⟨r,bE,by simp [bC],rfl⟩
 low q h1 h2:=by
  rcases List.mem_append.1 h1 with h1 | h1
  ·rw [h q h1] at h2;cases h2
  ·obtain rfl:=List.mem_singleton.1 h1;exact Int.le_refl _
theorem AJ (l:List Rec):∀ k,k≤l.length→∀ s ∈ cC (l.take k),Ch (l.take k) s
 | 0,_,s,h=>by simp [cC] at h
 | k + 1,hk,s,h=>by
   have hlt:k < l.length:=aC;have e:l.take (k + 1)=l.take k ++ [l[k]]:=bE;rw [oQ hlt] at h;rw [e];have ih:=AJ l k aC;rcases AI (jU _) h with ⟨h1,h2⟩ | ⟨t,h1,h2,rfl⟩ | ⟨h1,rfl⟩
   ·exact (ih s h1).miss h2
   ·exact (ih t h1).bump h2
   ·refine Ch.new fun q hq => ?_;obtain ⟨t,ht,hm,_⟩:=xH hq;have:=h1 t ht;cases hx:bC ⟨fold l[k].name,l[k].kind,l[k].ttl,[l[k].data]⟩ q with
    | false=>rfl
    | true =>
     exfalso
     simp only [bC,Bool.and_eq_true,decide_eq_true_eq] at hx hm;have h5:bC t l[k]=true:=by
      simp only [bC,Bool.and_eq_true,decide_eq_true_eq];exact ⟨by rw [hm.1,hx.1],by rw [hm.2,hx.2]⟩
     rw [this] at h5;cases h5
theorem Ch.norm {L:List Rec} {s:RSet} (h:Ch L s):Ch L (X.lW s) where
 dat d:=by
  show d ∈ UM s.data↔∃ r ∈ L,bC s r=true∧r.data=d;rw [PA,h.dat]
 ttl:=h.ttl
 low:=h.low
theorem AK {l:List Rec} {s:RSet} (h:s ∈ eI l):Ch l s∧s.data.Pairwise (· < ·):=by
 obtain ⟨u,hu,rfl⟩:=List.mem_map.1 h;have:=AJ l l.length (Nat.le_refl _);rw [List.take_length] at this;exact ⟨(this u hu).norm,GD _⟩
theorem Ch.uniq {L:List Rec} {s t:RSet} (h:Ch L s) (k:Ch L t) (hs:s.data.Pairwise (· < ·)) (ht:t.data.Pairwise (· < ·)) (hn:s.name=t.name) (hk:s.kind=t.kind):s=t:=by
 have hm:∀ r,bC s r=bC t r:=fun r=>by rw [bC,bC,hn,hk]
 have hd:s.data=t.data:=JJ hs ht fun d=>by
  rw [h.dat,k.dat];simp only [hm]
 have ha:s.ttl=t.ttl:=by
  obtain ⟨q,h1,h2,h3⟩:=h.ttl;obtain ⟨q',k1,k2,k3⟩:=k.ttl;have e1:=k.low q h1 (by rw [← hm];exact h2);have e2:=h.low q' k1 (by rw [hm];exact k2);omega
 cases s;cases t
 simp_all
def nM (s t:RSet):Int:=dS s.name t.name s.kind t.kind
theorem xP:TPO nM:=kD.comap fun s:RSet=>(s.name,s.kind)
def SO (gs:List RSet):Prop:=gs.Pairwise fun s t=>nM s t < 0
def UR (r:Rec) (t:RSet):RSet:=⟨fold r.name,r.kind,min r.ttl t.ttl,mA r.data t.data⟩
theorem pL (a b:RSet):xI a b=decide (nM a b < 0):=JO a b
theorem eM {s:RSet} {r:Rec}:bC s r=true↔s.name=fold r.name∧s.kind=r.kind:=by simp [bC]
theorem sE {s t u:RSet} (hn:s.name=t.name) (hk:s.kind=t.kind):nM u s=nM u t∧nM s u=nM t u:=by
 unfold nM;rw [hn,hk];exact ⟨rfl,rfl⟩
theorem sF {s:RSet} {r:Rec} (h:nM s (dF r)≠0):bC s r=false:=by
 cases hm:bC s r with
 | false=>rfl
 | true =>
  obtain ⟨h1,h2⟩:=eM.1 hm;exact absurd (by rw [(sE (t:=dF r) h1 h2).2];exact xP.refl _) h
theorem DW {r:Rec} (hr:Small (fold r.name)):∀ {gs:List RSet} {s:RSet},SO gs→(∀ g ∈ gs,Small g.name)→s ∈ kH r gs →
 (s ∈ gs∧bC s r=false)∨(∃ t ∈ gs,bC t r=true∧s=UR r t)∨((∀ t ∈ gs,bC t r=false)∧s=dF r)
 | [],s,_,_,h=>by
   right;right;exact ⟨bE,by simpa [kH] using h⟩
 | g :: gs,s,hso,hsm,h=>by
   obtain ⟨p1,p2⟩:=List.pairwise_cons.1 hso;have hg:=hsm g bE;rw [kH,pL,pL] at h;by_cases h1:nM g (dF r) < 0
   ·rw [if_pos (decide_eq_true h1)] at h;have m1:bC g r=false:=sF aC;rcases List.mem_cons.1 h with rfl | h
    ·exact .inl ⟨bE,m1⟩
    ·rcases DW hr p2 (fun x hx=>hsm x (by simp [hx])) h with ⟨a,b⟩ | ⟨t,a,b,c⟩ | ⟨a,b⟩
     ·exact .inl ⟨by simp [a],b⟩
     ·exact .inr (.inl ⟨t,by simp [a],b,c⟩)
     ·refine .inr (.inr ⟨fun t ht => ?_,b⟩);rcases List.mem_cons.1 ht with rfl | ht
      ·exact m1
      ·exact a t ht
   ·rw [if_neg (by simpa using h1)] at h;by_cases h2:nM (dF r) g < 0
    ·rw [if_pos (decide_eq_true h2)] at h;have m1:bC g r=false:=sF (by have:=xP.anti g (dF r);omega);have m2:∀ t ∈ gs,bC t r=false:=fun t ht=>sF (by
      have:=xP.ltt h2 (p1 t ht);have:=xP.anti t (dF r);omega)
     rcases List.mem_cons.1 h with rfl | h
     ·refine .inr (.inr ⟨fun t ht => ?_,rfl⟩);rcases List.mem_cons.1 ht with rfl | ht
      ·exact m1
      ·exact m2 t ht
     ·rcases List.mem_cons.1 h with rfl | h
      ·exact .inl ⟨bE,m1⟩
      ·exact .inl ⟨by simp [h],m2 s h⟩
    ·rw [if_neg (by simpa using h2)] at h;have h0:nM g (dF r)=0:=by have:=xP.anti g (dF r);omega
     obtain ⟨e1,e2⟩:=kS hg hr h0;have mg:bC g r=true:=eM.2 ⟨e1,e2⟩;rcases List.mem_cons.1 h with rfl | h
     ·exact .inr (.inl ⟨g,bE,mg,rfl⟩)
     ·refine .inl ⟨by simp [h],sF ?_⟩;have:=p1 s h;rw [(sE (t:=dF r) e1 e2).2] at this;have:=xP.anti s (dF r);omega
theorem DX {r:Rec}:∀ {gs:List RSet} {s:RSet},s ∈ kH r gs→s ∈ gs∨(s.name=fold r.name∧s.kind=r.kind)
 | [],s,h=>by
   right;have:s=dF r:=by simpa [kH] using h
   subst this;exact ⟨rfl,rfl⟩
 | g :: gs,s,h=>by
   rw [kH] at h;split at h
   ·rcases List.mem_cons.1 h with rfl | h
    ·exact .inl bE
    ·rcases DX h with h | h
     ·exact .inl (by simp [h])
     ·exact .inr h
   ·split at h
    ·rcases List.mem_cons.1 h with rfl | h
     ·exact .inr ⟨rfl,rfl⟩
     ·exact .inl h
    ·rcases List.mem_cons.1 h with rfl | h
     ·exact .inr ⟨rfl,rfl⟩
     ·exact .inl (by simp [h])
theorem HY {r:Rec} (hr:Small (fold r.name)):∀ {gs:List RSet},SO gs→(∀ g ∈ gs,Small g.name)→SO (kH r gs)
 | [],_,_=>by simp [kH,SO]
 | g :: gs,hso,hsm=>by
   obtain ⟨p1,p2⟩:=List.pairwise_cons.1 hso;have hg:=hsm g bE;rw [kH,pL,pL];by_cases h1:nM g (dF r) < 0
   ·rw [if_pos (decide_eq_true h1)];refine List.pairwise_cons.2 ⟨fun s hs => ?_,HY hr p2 fun x hx=>hsm x (by simp [hx])⟩;rcases DX hs with h | ⟨a,b⟩
    ·exact p1 s h
    ·rw [(sE (t:=dF r) a b).1];exact h1
   ·rw [if_neg (by simpa using h1)];by_cases h2:nM (dF r) g < 0
    ·rw [if_pos (decide_eq_true h2)];refine List.pairwise_cons.2 ⟨fun s hs => ?_,hso⟩;rcases List.mem_cons.1 hs with rfl | hs
     ·exact h2
     ·exact xP.ltt h2 (p1 s hs)
    ·rw [if_neg (by simpa using h2)];have h0:nM g (dF r)=0:=by have:=xP.anti g (dF r);omega
     obtain ⟨e1,e2⟩:=kS hg hr h0;refine List.pairwise_cons.2 ⟨fun s hs => ?_,p2⟩;have:=p1 s hs;rw [(sE (s:=g) (t:=⟨fold r.name,r.kind,min r.ttl g.ttl,mA r.data g.data⟩) e1 e2).2] at this;exact this
theorem nN {s:List UInt8}:∀ {l:List (List UInt8)},l.Pairwise (· < ·)→(mA s l).Pairwise (· < ·)∧∀ x,x ∈ mA s l↔x=s∨x ∈ l
 | [],_=>by simp [mA]
 | y :: l,h=>by
   obtain ⟨p1,p2⟩:=List.pairwise_cons.1 h;obtain ⟨i1,i2⟩:=nN (s:=s) p2;rw [mA];by_cases h1:y < s
   ·rw [if_pos (HT.2 h1)];refine ⟨List.pairwise_cons.2 ⟨fun x hx => ?_,i1⟩,fun x => ?_⟩
    ·rcases (i2 x).1 hx with rfl | hx
     ·exact h1
     ·exact p1 x hx
    ·simp only [List.mem_cons,i2];exact or_left_comm
   ·rw [if_neg (fun hb=>h1 (HT.1 hb))];by_cases h2:y=s
    ·rw [if_pos h2];subst h2;exact ⟨h,fun x=>by simp⟩
    ·rw [if_neg h2];have h3:s < y:=uK (List.not_lt.1 h1) (fun e=>h2 e.symm);refine ⟨List.pairwise_cons.2 ⟨fun x hx => ?_,h⟩,fun x=>by simp⟩;rcases List.mem_cons.1 hx with rfl | hx
     ·exact h3
     ·exact List.lt_trans h3 (p1 x hx)
theorem AL {r:Rec} (hr:Small (fold r.name)):∀ {gs:List RSet},(∀ g ∈ gs,Small g.name)→∀ t ∈ gs,∃ s ∈ kH r gs,s.name=t.name∧s.kind=t.kind
 | [],_,t,h=>by simp at h
 | g :: gs,hsm,t,h=>by
   have hg:=hsm g bE;rw [kH,pL,pL];by_cases h1:nM g (dF r) < 0
   ·rw [if_pos (decide_eq_true h1)];rcases List.mem_cons.1 h with rfl | h
    ·exact ⟨t,bE,rfl,rfl⟩
    ·obtain ⟨s,a,b⟩:=AL hr (fun x hx=>hsm x (by simp [hx])) t h;exact ⟨s,by simp [a],b⟩
   ·rw [if_neg (by simpa using h1)];by_cases h2:nM (dF r) g < 0
    ·rw [if_pos (decide_eq_true h2)];exact ⟨t,List.mem_cons_of_mem _ h,rfl,rfl⟩
    ·rw [if_neg (by simpa using h2)];have h0:nM g (dF r)=0:=by have:=xP.anti g (dF r);omega
     obtain ⟨e1,e2⟩:=kS hg hr h0;rcases List.mem_cons.1 h with rfl | h
     ·exact ⟨_,List.mem_cons_self,e1.symm,e2.symm⟩
     ·exact ⟨t,by simp [h],rfl,rfl⟩
theorem DY (r:Rec):∀ gs:List RSet,∃ s ∈ kH r gs,s.name=fold r.name∧s.kind=r.kind
 | []=>⟨dF r,by simp [kH],rfl,rfl⟩
 | g :: gs=>by
   obtain ⟨s,a,b⟩:=DY r gs;rw [kH];split
   ·exact ⟨s,by simp [a],b⟩
   ·split
    ·exact ⟨dF r,bE,rfl,rfl⟩
    ·exact ⟨_,List.mem_cons_self,rfl,rfl⟩
theorem Ch.newS {L:List Rec} {t:RSet} {r:Rec} (h:Ch L t) (hm:bC t r=true) (ht:t.data.Pairwise (· < ·)):Ch (L ++ [r]) (X.UR r t):=by
 have hb:=h.bump hm;obtain ⟨e1,e2⟩:=eM.1 hm;have hk:∀ q,bC (X.UR r t) q=bC (X.jK t r) q:=fun q=>by simp only [bC,X.UR,X.jK,e1,e2];rfl
 refine ⟨fun d => ?_,?_,fun q hq hmq => ?_⟩
 ·show d ∈ mA r.data t.data↔_;rw [(nN ht).2];have:=hb.dat d;simp only [hk];rw [← this];show _↔d ∈ t.data ++ [r.data];simp [or_comm]
 ·obtain ⟨q,a,b,c⟩:=hb.ttl;exact ⟨q,a,by rw [hk];exact b,by rw [c];show min t.ttl r.ttl=min r.ttl t.ttl;omega⟩
 ·have:=hb.low q hq (by rw [← hk];exact hmq);show min r.ttl t.ttl≤q.ttl;have h2:min t.ttl r.ttl≤q.ttl:=this;omega
theorem MF {r:Rec} (h:zV r=true):Small (fold r.name):=by
 obtain ⟨ls,hl⟩:=Option.isSome_iff_exists.1 (iH (r:=r) (n:=[]) (by simpa [zV] using h)).1;exact ⟨r.name,ls,hl,rfl⟩
theorem xQ {l:List Rec} (hok:l.all zV=true):∀ k,k≤l.length→SO (cU (l.take k))∧(∀ s ∈ cU (l.take k),Ch (l.take k) s∧s.data.Pairwise (· < ·)∧Small s.name)∧∀ q ∈ l.take k,∃ s ∈ cU (l.take k),bC s q=true
 | 0,_=>by simp [cU,SO]
 | k + 1,h=>by
   have hlt:k < l.length:=aC;obtain ⟨i1,i2,i3⟩:=xQ hok k aC;have hr:=MF (List.all_eq_true.1 hok _ (List.getElem_mem hlt));have hsm:∀ g ∈ cU (l.take k),Small g.name:=fun g hg=>(i2 g hg).2.2;have e:l.take (k + 1)=l.take k ++ [l[k]]:=bE;rw [uQ hlt,e];refine ⟨HY hr i1 hsm,fun s hs => ?_,fun q hq => ?_⟩
   ·rcases DW hr i1 hsm hs with ⟨a,b⟩ | ⟨t,a,b,rfl⟩ | ⟨a,rfl⟩
    ·exact ⟨(i2 s a).1.miss b,(i2 s a).2⟩
    ·exact ⟨(i2 t a).1.newS b (i2 t a).2.1,(nN (i2 t a).2.1).1,hr⟩
    ·refine ⟨Ch.new fun q hq => ?_,by simp [dF],hr⟩;obtain ⟨t,ht,hm⟩:=i3 q hq;cases hx:bC ⟨fold l[k].name,l[k].kind,l[k].ttl,[l[k].data]⟩ q with
     | false=>rfl
     | true =>
      exfalso
      obtain ⟨x1,x2⟩:=eM.1 hx;obtain ⟨y1,y2⟩:=eM.1 hm;have h5:bC t l[k]=true:=eM.2 ⟨y1.trans x1.symm,y2.trans x2.symm⟩;rw [a t ht] at h5;cases h5
   ·rcases List.mem_append.1 hq with hq | hq
    ·obtain ⟨t,ht,hm⟩:=i3 q hq;obtain ⟨s,a,b,c⟩:=AL hr hsm t ht;obtain ⟨y1,y2⟩:=eM.1 hm;exact ⟨s,a,eM.2 ⟨b.trans y1,c.trans y2⟩⟩
    ·obtain rfl:=List.mem_singleton.1 hq;obtain ⟨s,a,b,c⟩:=DY l[k] (cU (l.take k));exact ⟨s,a,eM.2 ⟨b,c⟩⟩
theorem xR {l:List Rec} (hok:l.all zV=true):SO (cU l)∧(∀ s ∈ cU l,Ch l s∧s.data.Pairwise (· < ·)∧Small s.name)∧∀ q ∈ l,∃ s ∈ cU l,bC s q=true:=by
 have:=xQ hok l.length (Nat.le_refl _)
 rwa [List.take_length] at this
theorem uR {l:List Rec} (hok:l.all zV=true):(cU l).Perm (eI l):=by
 obtain ⟨i1,i2,i3⟩:=xR hok;have n1:(eI l).Nodup:=(rX _).imp fun h e=>by subst e;exact h ⟨rfl,rfl⟩
 have n0:(cU l).Nodup:=i1.imp fun h e=>by subst e;have:=xP.refl ‹RSet›;omega
 refine (List.perm_ext_iff_of_nodup n0 n1).2 fun s=>⟨fun hs => ?_,fun hs => ?_⟩
 ·obtain ⟨hc,hst,_⟩:=i2 s hs;obtain ⟨q,h1,h2,_⟩:=hc.ttl;obtain ⟨t,ht,hm,_⟩:=xH h1;have hg:lW t ∈ eI l:=List.mem_map_of_mem ht;obtain ⟨hc',hst'⟩:=AK hg;obtain ⟨x1,x2⟩:=eM.1 h2;obtain ⟨y1,y2⟩:=eM.1 hm;have e:=hc.uniq hc' hst hst' (x1.trans y1.symm) (x2.trans y2.symm);rw [e];exact hg
 ·obtain ⟨hc,hst⟩:=AK hs;obtain ⟨q,h1,h2,_⟩:=hc.ttl;obtain ⟨t,ht,hm⟩:=i3 q h1;obtain ⟨hc',hst',_⟩:=i2 t ht;obtain ⟨x1,x2⟩:=eM.1 h2;obtain ⟨y1,y2⟩:=eM.1 hm;have e:=hc.uniq hc' hst hst' (x1.trans y1.symm) (x2.trans y2.symm);rw [e];exact ht
theorem yS {l:List Rec} (hok:l.all zV=true):qX (cU l):=by
 obtain ⟨i1,_,_⟩:=xR hok;intro i j s t hij hi hj;obtain ⟨a,rfl⟩:=List.getElem?_eq_some_iff.1 hi;obtain ⟨b,rfl⟩:=List.getElem?_eq_some_iff.1 hj;have h:=List.pairwise_iff_getElem.1 i1 i j a b hij;have:=xP.anti (cU l)[j] (cU l)[i];show 0≤nM (cU l)[j] (cU l)[i];omega
theorem PD {l:List Rec} (hok:l.all zV=true) {out:List RSet} (hp:out.Perm (eI l)) (hs:qX out):out=cU l :=
 GF hok hp (uR hok) hs (yS hok)
theorem RK (l:List Rec):sD l=iI l:=by
 unfold sD iI;cases hok:l.all zV with
 | false=>simp
 | true =>
  have hp:=uR hok;have hl:=hp.length_eq;have ha:(cU l).any LX=(eI l).any LX:=by
   cases h:(eI l).any LX with
   | true =>
    obtain ⟨s,h1,h2⟩:=List.any_eq_true.1 h;exact List.any_eq_true.2 ⟨s,hp.mem_iff.2 h1,h2⟩
   | false =>
    cases h':(cU l).any LX with
    | false=>rfl
    | true =>
     obtain ⟨s,h1,h2⟩:=List.any_eq_true.1 h';rw [List.any_eq_true.2 ⟨s,hp.mem_iff.1 h1,h2⟩] at h;cases h
  rw [ha,hl];simp only [Bool.true_eq_false,if_false];split <;> split <;> rfl
def HZ:List Value:=[aE [], .slice none 0 0]
def qD (o:List UInt8) (l:List Rec):Int:=if sD l=0 then jR (fold o) (cU l) else sD l
def sG (o:List UInt8) (l:List Rec):List UInt8:=if qD o l=0 then fold o else []
def sH (o:List UInt8) (l:List Rec):List RSet:=if qD o l=0 then cU l else []
def LoadU (B:Nat) (o:List UInt8) (l:List Rec) (r:Value) (w':World):Prop :=
 ∃ v,r=.tuple #[.agg #[aE (sG o l),v], .int .i64 (qD o l)]∧SetsO B w' v (sH o l)
theorem LoadU.bad {l:List Rec} {e:Int} (h:qD o l=e) (he:e≠0):LoadU B o l (.tuple #[.agg HZ.toArray, .int .i64 e]) w':=by
 refine ⟨.slice none 0 0,?_,?_⟩
 ·rw [h,sG,if_neg (by rw [h];exact he)];rfl
 ·rw [sH,if_neg (by rw [h];exact he)];exact SetsO.nil _ _
def MG (B:Nat) (l:List Rec) (r:Value) (w':World):Prop:=∃ v,r=.tuple #[v, .int .i64 (sD l)]∧(sD l=0→SetsO B w' v (cU l))
theorem RefR.uni {l:List Rec} (h:RefR B l r w'):MG B l r w':=by
 unfold RefR at h;split at h
 ·rename_i h0;obtain ⟨v,rfl,hv⟩:=h;exact ⟨v,by rw [h0],fun _=>hv⟩
 ·rename_i h0;exact ⟨_,h,fun h1=>absurd h1 h0⟩
theorem GroupO.uni {l:List Rec} (h:GroupO B l r w'):MG B l r w':=by
 unfold GroupO at h;rw [← RK] at h;split at h
 ·rename_i h0;obtain ⟨out,v,rfl,hp,hs,hv⟩:=h;have hok:l.all zV=true:=by
   cases hok:l.all zV with
   | true=>rfl
   | false=>rw [sD,if_pos hok] at h0;cases h0
  have e:=PD hok hp hs;exact ⟨v,by rw [h0],fun _=>by rw [← e];exact hv⟩
 ·rename_i h0;exact ⟨_,h,fun h1=>absurd h1 h0⟩
section
variable {P:Program} {ops:Array Oper} {Q:Exit→Act→World→Prop} {w:World} {rest:List Oper} {ts:List Value} {df:List Deferred} {ty:TypeId} {ps:String} {af:Array Edge} {g:Option (Nat × Bool)}
end
structure SetsW (B:Nat) (w:World) (css:List (List Value)) (l:List RSet):Prop where
 len:css.length=l.length
 at':∀ (i:Nat) (s:RSet),l[i]? = some s→∃ x,css[i]? = some [aE s.name, .int .i64 s.kind, .int .i64 s.ttl,x]∧Own B 1 9 w x (aI s.data)
theorem SetsW.sets {l:List RSet} (h:SetsW B w css l):SetsC w css l :=
 ⟨h.len,fun i s hi=>let ⟨x,a,b⟩:=h.at' i s hi;⟨x,a,b.sl⟩⟩
theorem SetsW.ext {l:List RSet} (h:SetsW B w css l) (hx:Ext w w'):SetsW B w' css l :=
 ⟨h.len,fun i s hi=>let ⟨x,a,b⟩:=h.at' i s hi;⟨x,a,b.ext hx⟩⟩
theorem SetsW.mv {B' k' e':Nat} {l:List RSet} (h:SetsW B w css l) (ho:Own B' k' e' w v es) (he:9≠e') (hm:Mv v.ownBlock w w'):SetsW B w' css l :=
 ⟨h.len,fun i s hi=>let ⟨x,a,b⟩:=h.at' i s hi;⟨x,a,b.mv hm (b.ne ho he)⟩⟩
theorem SetsW.put {t:Nat} {l:List RSet} {o:Obj} (h:SetsW B w css l) (hb:w.heap[b]? = some (.cells cs t fz)) (ht:t≠9) (hp:Put w w' b o):SetsW B w' css l :=
 ⟨h.len,fun i s hi=>let ⟨x,a,c⟩:=h.at' i s hi;⟨x,a,c.mv hp.mv (.inr (c.neBlock hb ht))⟩⟩
theorem SetsW.weaken {C:Nat} {l:List RSet} (h:SetsW B w css l) (hc:C≤B):SetsW C w css l :=
 ⟨h.len,fun i s hi=>let ⟨x,a,b⟩:=h.at' i s hi;⟨x,a,b.weaken hc⟩⟩
theorem SetsW.append {l m:List RSet} {c d:List (List Value)} (h:SetsW B w c l) (k:SetsW B w d m):SetsW B w (c ++ d) (l ++ m):=by
 refine ⟨by rw [List.length_append,List.length_append,h.len,k.len],fun i s hi => ?_⟩;rw [List.getElem?_append] at hi ⊢;rw [h.len];split at hi
 ·rw [if_pos ‹_›];exact h.at' i s hi
 ·rw [if_neg ‹_›];exact k.at' _ s hi
theorem SetsW.one {s:RSet} {x:Value} (h:Own B 1 9 w x (aI s.data)):SetsW B w [[aE s.name, .int .i64 s.kind, .int .i64 s.ttl,x]] [s] :=
 ⟨rfl,fun i t hi=>by
  match i,hi with
  | 0,hi=>cases hi;exact ⟨x,rfl,h⟩⟩
theorem SetsW.nil (B:Nat) (w:World):SetsW B w [] []:=⟨rfl,bE⟩
theorem SetsW.from' {C:Nat} {l:List RSet} (h:SetsW B w css l) (hc:C≤B):FromC C css:=by
 intro f hf u hu;obtain ⟨i,hi,rfl⟩:=List.mem_iff_getElem.1 hf;obtain ⟨x,h1,h2⟩:=h.at' i _ (List.getElem?_eq_getElem (by rw [← h.len];exact hi));rw [List.getElem?_eq_getElem hi] at h1;rw [Option.some.inj h1] at hu;exact (FromC.one (h2.from' hc)) _ (List.mem_singleton.2 rfl) u hu
structure SetsV (B:Nat) (w:World) (v:Value) (l:List RSet):Prop where
 out:∃ css,Own B 4 137 w v css∧SetsW B w css l
theorem SetsV.ext {l:List RSet} (h:SetsV B w v l) (hx:Ext w w'):SetsV B w' v l:=by
 obtain ⟨css,h1,h2⟩:=h;exact ⟨css,h1.ext hx,h2.ext hx⟩
theorem SetsV.weaken {C:Nat} {l:List RSet} (h:SetsV B w v l) (hc:C≤B):SetsV C w v l:=by
 obtain ⟨css,h1,h2⟩:=h;exact ⟨css,h1.weaken hc,h2.weaken hc⟩
theorem SetsV.put {t:Nat} {l:List RSet} {o:Obj} (h:SetsV B w v l) (hb:w.heap[b]? = some (.cells cs t fz)) (ht:t≠9) (ht2:t≠137) (hp:Put w w' b o):SetsV B w' v l:=by
 obtain ⟨css,h1,h2⟩:=h;exact ⟨css,h1.mv hp.mv (.inr (h1.neBlock hb ht2)),h2.put hb ht hp⟩
theorem SetsV.slf {l:List RSet} (h:SetsV B w v l):∃ a n c,v=.slice a n c:=by
 obtain ⟨css,h1,h2⟩:=h;exact h1.sl.slf
def RL (s:SoaR) (n:Int):SoaR:={ s with serial:=n }
def PE (o:List UInt8) (l:List RSet) (n:Int):Int:=if jR o l=0 then (if (RL (gK o l) n).ok=true then 0 else 1) else jR o l
def WT (o:List UInt8) (l:List RSet) (n:Int):List UInt8:=(RL (gK o l) n).data
def sI (d:List UInt8) (s:RSet):RSet:=if s.kind=6 then ⟨s.name,s.kind,s.ttl,[d]⟩ else s
def US (o:List UInt8) (l:List RSet) (n:Int):List RSet:=if PE o l n=0 then l.map (sI (WT o l n)) else []
def UT (o:List UInt8) (l:List RSet) (n:Int):List UInt8:=if PE o l n=0 then o else []
def RenU (B:Nat) (o:List UInt8) (l:List RSet) (n:Int) (r:Value) (w':World):Prop :=
 ∃ v,r=.tuple #[.agg #[aE (UT o l n),v], .int .i64 (PE o l n)]∧SetsO B w' v (US o l n)
theorem RenU.bad {l:List RSet} {n e:Int} (h:PE o l n=e) (he:e≠0):RenU B o l n (.tuple #[.agg HZ.toArray, .int .i64 e]) w':=by
 refine ⟨.slice none 0 0,?_,?_⟩
 ·rw [h,UT,if_neg (by rw [h];exact he)];rfl
 ·rw [US,if_neg (by rw [h];exact he)];exact SetsO.nil _ _
theorem ZoneOk.one6 {l:List RSet} (h:ZoneOk o l) {s:RSet} (hs:s ∈ l) (h6:s.kind=6):s.name=o∧s.data.length=1:=by
 have hr:=h.right s hs;simp only [oU,Bool.and_eq_true,Bool.not_eq_true',h6] at hr;have:=hr.1.1.2;simp only [decide_true,Bool.true_and,Bool.or_eq_false_iff,decide_eq_false_iff_not,ne_eq,Decidable.not_not] at this;exact this
theorem IA {s:RSet} (h:¬ s.kind=6):sI d s=s:=by rw [sI,if_neg h]
theorem DZ {s:RSet} (h:s.kind=6):sI d s=⟨s.name,s.kind,s.ttl,[d]⟩:=by rw [sI,if_pos h]
theorem SetsW.set {l:List RSet} (h:SetsW B w css l) {s:RSet} {x:Value} (hx:Own B 1 9 w x (aI s.data)):SetsW B w (css.set i [aE s.name, .int .i64 s.kind, .int .i64 s.ttl,x]) (l.set i s):=by
 refine ⟨by rw [List.length_set,List.length_set,h.len],fun j t hj => ?_⟩;by_cases e:i=j
 ·subst e;have hlt:i < l.length:=by have:=(List.getElem?_eq_some_iff.1 hj).1;simpa using this
  rw [List.getElem?_set_self hlt] at hj;cases hj
  exact ⟨x,List.getElem?_set_self (by rw [h.len];exact hlt),hx⟩
 ·rw [List.getElem?_set_ne e] at hj;rw [List.getElem?_set_ne e];exact h.at' j t hj
structure SetsM (B:Nat) (w0 w:World) (css0 css:List (List Value)) (l:List RSet) (d:List UInt8) (k:Nat):Prop where
 len:css.length=l.length
 new:∀ (i:Nat) (s:RSet),l[i]? = some s→i < k→∃ x,css[i]? = some [aE s.name, .int .i64 s.kind, .int .i64 s.ttl,x]∧Own B 1 9 w x (aI (sI d s).data)
 old:∀ i,k≤i→css[i]? = css0[i]?
theorem SetsM.ext {l:List RSet} (h:SetsM B w0 w css0 css l d k) (hx:Ext w w'):SetsM B w0 w' css0 css l d k :=
 ⟨h.len,fun i s hi hk=>let ⟨x,a,b⟩:=h.new i s hi hk;⟨x,a,b.ext hx⟩,h.old⟩
theorem SetsM.mv {l:List RSet} (h:SetsM B w0 w css0 css l d k) (hm:Mv row w w') (hne:∀ x es,Own B 1 9 w x es→x.ownBlock=none∨x.ownBlock≠row):SetsM B w0 w' css0 css l d k :=
 ⟨h.len,fun i s hi hk=>let ⟨x,a,b⟩:=h.new i s hi hk;⟨x,a,b.mv hm (hne x _ b)⟩,h.old⟩
theorem SetsM.step {l:List RSet} (h:SetsM B w0 w css0 css l d k) (hk:k < l.length) {y:Value} (hy:Own B 1 9 w y (aI (sI d l[k]).data)) :
 SetsM B w0 w css0 (css.set k [aE l[k].name, .int .i64 l[k].kind, .int .i64 l[k].ttl,y]) l d (k + 1):=by
 refine ⟨by rw [List.length_set,h.len],fun i s hi hik => ?_,fun i hi => ?_⟩
 ·by_cases e:k=i
  ·subst e;rw [List.getElem?_eq_getElem hk] at hi;cases hi
   exact ⟨y,List.getElem?_set_self (by rw [h.len];exact hk),hy⟩
  ·obtain ⟨x,a,b⟩:=h.new i s hi aC;exact ⟨x,by rw [List.getElem?_set_ne e];exact a,b⟩
 ·rw [List.getElem?_set_ne aC];exact h.old i aC
theorem JR {s:RSet}:(sI d s).name=s.name∧(sI d s).kind=s.kind∧(sI d s).ttl=s.ttl:=by
 unfold sI;split <;> exact ⟨rfl,rfl,rfl⟩
theorem SetsM.done {l:List RSet} (h:SetsM B w0 w css0 css l d l.length):SetsW B w css (l.map (sI d)):=by
 refine ⟨by rw [List.length_map,h.len],fun i s hi => ?_⟩;rw [List.getElem?_map] at hi;cases hq:l[i]? with
 | none=>rw [hq] at hi;cases hi
 | some t =>
  rw [hq] at hi;cases hi
  obtain ⟨x,a,b⟩:=h.new i t hq (List.getElem?_eq_some_iff.1 hq).1;obtain ⟨e1,e2,e3⟩:=JR (d:=d) (s:=t);exact ⟨x,by rw [e1,e2,e3];exact a,b⟩
theorem MH {s:SoaR} (h:cA d=some s):s.ok=true:=by
 unfold cA at h;simp only at h;split at h
 ·rename_i hh;cases h;exact hh.2.2.2
 ·cases h
theorem ZoneOk.only {l:List RSet} (h:ZoneOk o l) {s:RSet} (hs:s ∈ l) (h6:s.kind=6):s.data=[xO o l]:=by
 obtain ⟨t,ht,_,_,_,hd,_⟩:=h.soaSet;obtain ⟨i,hi,rfl⟩:=List.mem_iff_getElem.1 hs;have hf:=JP h.chk hi;rw [h6,(h.one6 hs h6).1,ht] at hf;rw [← Option.some.inj hf];exact hd
theorem ZoneOk.back {l:List RSet} (h:ZoneOk o l):(l.map (sI d)).map (sI (xO o l))=l:=by
 rw [List.map_map]
 conv=>rhs;rw [← List.map_id l]
 apply List.map_congr_left;intro s hs;simp only [Function.comp,id];by_cases h6:s.kind=6
 ·rw [DZ (d:=d) h6,DZ (by exact h6)];have:=h.only hs h6;cases s
  simp only at this;rw [this]
 ·rw [IA (d:=d) h6,IA h6]
def AM (a b:List Rec):List Rec:=a.filter fun r => !decide (r ∈ b)
structure DeltaR where
 fr:Int
 to:Int
 gone:List Rec
 new:List Rec
 deriving DecidableEq,Inhabited
def RM:DeltaR:=⟨0,0,[],[]⟩
def UU (oa:List UInt8) (la:List RSet) (ob:List UInt8) (lb:List RSet):Int :=
 if jR oa la=0 then (if jR ob lb=0 then (if oa=ob then 0 else 1) else jR ob lb) else jR oa la
def UV (oa:List UInt8) (la:List RSet) (ob:List UInt8) (lb:List RSet):DeltaR :=
 if UU oa la ob lb=0 then ⟨(gK oa la).serial,(gK ob lb).serial,AM (bT la) (bT lb),AM (bT lb) (bT la)⟩ else RM
def RN:List Rec→List Rec→Option (List Rec)
 | l,[]=>some l
 | l,r :: g=>if r ∈ l then RN (l.erase r) g else none
def UW:List Rec→List Rec→Option (List Rec)
 | l,[]=>some l
 | l,r :: g=>if r ∈ l then none else UW (l ++ [r]) g
def IB (l:List Rec) (d:DeltaR):Option (List Rec):=(RN l d.gone).bind fun m=>UW m d.new
def UX (o:List UInt8) (m:List Rec) (to:Int):Int :=
 if qD o m=0 then (if (gK (sG o m) (sH o m)).serial=to∧(bT (sH o m)).length=m.length∧AM m (bT (sH o m))=[] then 0 else 2) else qD o m
def qY (o:List UInt8) (l:List RSet) (d:DeltaR):Int :=
 if jR o l=0 then (if (gK o l).serial=d.fr then (match IB (bT l) d with
  | none=>5
  | some m=>UX o m d.to) else 7) else jR o l
def GJ (o:List UInt8) (l:List RSet) (d:DeltaR):List RSet:=if qY o l d=0 then sH o ((IB (bT l) d).getD []) else []
def EA (o:List UInt8) (l:List RSet) (d:DeltaR):List UInt8:=if qY o l d=0 then sG o ((IB (bT l) d).getD []) else []
theorem Ch.same {L M:List Rec} {s:RSet} (h:Ch L s) (hm:∀ r,r ∈ L↔r ∈ M):Ch M s where
 dat d:=by
  rw [h.dat];constructor
  ·rintro ⟨r,h1,h2⟩;exact ⟨r,(hm r).1 h1,h2⟩
  ·rintro ⟨r,h1,h2⟩;exact ⟨r,(hm r).2 h1,h2⟩
 ttl:=let ⟨r,h1,h2⟩:=h.ttl;⟨r,(hm r).1 h1,h2⟩
 low r h1 h2:=h.low r ((hm r).2 h1) h2
theorem UY {oa ob:List UInt8} {la lb:List RSet} (h:UU oa la ob lb=0):ZoneOk oa la∧ZoneOk oa lb∧oa=ob∧UV oa la ob lb=⟨(gK oa la).serial,(gK oa lb).serial,AM (bT la) (bT lb),AM (bT lb) (bT la)⟩:=by
 have h0:=h;unfold UU at h;split at h
 ·rename_i q1;split at h
  ·rename_i q2;split at h
   ·rename_i q3;subst q3;exact ⟨sC q1,sC q2,rfl,by rw [UV,if_pos h0]⟩
   ·cases h
  ·rename_i q2;exact absurd h q2
 ·rename_i q1;exact absurd h q1
def tE:List Value:=[aE [], .int .i64 0, .int .i64 0,aE []]
theorem oW (v:Value) (l:List Rec) (w:World) (hv:Sl 4 w v (aF l)) (hl:l.length≤1000000):Calls Tryz.prog 111 #[v] w (pX w fun v' w'=>Own w.heap.size 4 61 w' v' (aF l)):=by
 have hlen:=aN l;go_enter Tryz.func111,Tryz.ntmps111
 (repeat' first | ((with_reducible refine eN ?_);go_step) | ((with_reducible refine cB ?_);first | refine qO ?_ | (refine fA ?_ ?_ <;> intro hc)) | fail)
 ·have hn:=‹zI v=true›;go_ret;have:aF l=[]:=hv.isNil hn;refine ⟨_,rfl,Ext.refl _,?_⟩;rw [this];exact Own.nil _ _ _ _
 ·refine nA (t:=23) (e:=61) (k:=4) (bytes:=48) zDk rfl ?_;intro v2 w2 x2 s2 o2;refine aB ?_;refine_lift eA ?_;refine dA (B:=w.heap.size) (e:=61) rfl o2 rfl (hv.ext x2) (by intro f hf u hu;obtain ⟨r,_,rfl⟩:=List.mem_map.1 hf;simp only [Rec.cells,List.mem_cons,List.not_mem_nil,or_false] at hu;rcases hu with rfl | rfl | rfl | rfl <;> rfl) x2.size (by simp;omega) ?_;intro v3 w3 o3 m3 _;have x3:=o2.mvx m3 x2 (Nat.le_refl _);refine aB ?_;refine_lift eA ?_;go_ret;exact ⟨_,rfl,x3,by simpa using o3⟩
end Go.Proofs.X
namespace Go.Proofs.X
open Go.RowKit
def WU:List Value:=[.int .i64 0, .int .i64 0, .slice none 0 0, .slice none 0 0]
def DelA (d:DeltaR) (r:Value) (w:World):Prop:=∃ g n,r=.agg #[.int .i64 d.fr, .int .i64 d.to,g,n]∧Sl 4 w g (aF d.gone)∧Sl 4 w n (aF d.new)
def DelO (B:Nat) (d:DeltaR) (r:Value) (w:World):Prop:=∃ g n,r=.agg #[.int .i64 d.fr, .int .i64 d.to,g,n]∧Own B 4 61 w g (aF d.gone)∧Own B 4 61 w n (aF d.new)
theorem DelO.a {B:Nat} {d:DeltaR} {r:Value} {w:World} (h:DelO B d r w):DelA d r w:=let ⟨g,n,e,a,b⟩:=h;⟨g,n,e,a.sl,b.sl⟩
def DelU (B:Nat) (d:DeltaR) (e:Int) (r:Value) (w:World):Prop:=∃ y,r=.tuple #[y, .int .i64 e]∧DelO B d y w
theorem DelU.bad {B:Nat} {d:DeltaR} {e:Int} {w:World} (h:d=RM):DelU B d e (.tuple #[.agg WU.toArray, .int .i64 e]) w:=by
 subst h;exact ⟨_,rfl,_,_,rfl,Own.nil _ _ _ _,Own.nil _ _ _ _⟩
variable {cs:Array Value} {held:Bool} {qt:Int} {ps rs:List (List UInt8 × Nat)} {ls:List (List UInt8)} {css css0 es:List (List Value)} {d l m n o qn s t x y z:List UInt8} {B a b base c e fuel i j k p q:Nat} {fz:Nat × Nat} {row:Option Nat} {r u v:Value} {w w' w0 w1 w2:World}
structure OwnOff (B k:Nat) (e:TypeId) (w:World) (v:Value) (es:List (List Value)):Prop where
 row:(v=.slice none 0 0∧es=[])∨∃ g o cap cur fz,v=.slice (some ⟨g,o * k,none⟩) es.length cap∧B≤g∧w.heap[g]? = some (.cells cur e fz)∧(fz.2≤fz.1∨cur.size≤fz.1)∧es.length≤cap∧cap≤maxLen∧(o + cap) * k≤cur.size∧(cur.toList.drop (o * k)).take (es.length * k)=es.flatten
 each:∀ x ∈ es,x.length=k
theorem Own.off (h:Own B k e w v es):OwnOff B k e w v es:=by
 refine ⟨?_,h.each⟩;rcases h.row.2 with ⟨rfl,h0⟩ | ⟨g,cap,cur,fz,rfl,hb,hg,hfz,hnc,hcm,hcs,htake⟩
 ·exact .inl ⟨rfl,List.eq_nil_of_length_eq_zero h0⟩
 ·exact .inr ⟨g,0,cap,cur,fz,bE,hb,hg,hfz,hnc,hcm,by rw [Nat.zero_add];exact Nat.le_of_eq hcs.symm,by simpa using htake⟩
theorem OwnOff.nil (B k:Nat) (e:TypeId) (w:World):OwnOff B k e w (.slice none 0 0) []:=(Own.nil B k e w).off
theorem OwnOff.type (h:OwnOff B k e w v es) {r:Nat} (hr:v.ownBlock=some r):B≤r∧r < w.heap.size∧∃ cur fz,w.heap[r]? = some (.cells cur e fz):=by
 rcases h.row with ⟨rfl,_⟩ | ⟨g,o,cap,cur,fz,rfl,hb,hg,_⟩
 ·simp [Value.ownBlock] at hr
 ·simp [Value.ownBlock] at hr;subst hr;exact ⟨hb,(Array.getElem?_eq_some_iff.1 hg).1,cur,fz,hg⟩
theorem OwnOff.neBlock {t:Nat} (h:OwnOff B k e w v es) (hb:w.heap[b]? = some (.cells cs t fz)) (ht:t≠e):v.ownBlock≠some b:=fun e'=>by
 obtain ⟨_,_,cur,fz',h'⟩:=h.type e';rw [hb] at h';simp only [Option.some.injEq,Obj.cells.injEq] at h';exact ht h'.2.1
theorem OwnOff.neOwn {B' k' e':Nat} {v':Value} {es':List (List Value)} (h:OwnOff B k e w v es) (h':Own B' k' e' w v' es') (he:e≠e'):v'.ownBlock=none∨v'.ownBlock≠v.ownBlock:=by
 cases hv:v'.ownBlock with
 | none=>exact .inl rfl
 | some r =>
  obtain ⟨cur,fz,h1⟩:=h'.type hv;exact .inr fun e2=>h.neBlock h1 (fun e3=>he e3.symm) e2.symm
theorem OwnOff.mv (h:OwnOff B k e w v es) (hm:Mv row w w') (hne:v.ownBlock=none∨v.ownBlock≠row):OwnOff B k e w' v es:=by
 refine ⟨h.row.imp id ?_,h.each⟩;rintro ⟨g,o,cap,cur,fz,rfl,hb,hg,r⟩;refine ⟨g,o,cap,cur,fz,rfl,hb,hm.at hg ?_,r⟩;rcases hne with hne | hne
 ·simp [Value.ownBlock] at hne
 ·simpa [Value.ownBlock] using hne
theorem OwnOff.ext (h:OwnOff B k e w v es) (hx:Ext w w'):OwnOff B k e w' v es:=by
 refine ⟨h.row.imp id ?_,h.each⟩;rintro ⟨g,o,cap,cur,fz,rfl,hb,hg,r⟩;exact ⟨g,o,cap,cur,fz,rfl,hb,hx.at hg,r⟩
theorem OwnOff.weaken {C:Nat} (h:OwnOff B k e w v es) (hc:C≤B):OwnOff C k e w v es :=
 ⟨h.row.imp id fun ⟨g,o,cap,cur,fz,a,b,r⟩=>⟨g,o,cap,cur,fz,a,Nat.le_trans hc b,r⟩,h.each⟩
theorem OwnOff.sl (h:OwnOff B k e w v es):Sl k w v es:=by
 rcases h.row with ⟨rfl,rfl⟩ | ⟨g,o,cap,cur,fz,rfl,hb,hg,hfz,hnc,hcm,hcs,htake⟩
 ·exact Sl.nil _ _
 ·refine ⟨_,cap,rfl,hnc,by unfold maxLen at hcm;omega,h.each,(fun e=>by cases e),fun _=>⟨g,o * k,rfl,?_⟩⟩;intro i ce j x hi hj;have hfl:=iQ h.each hi hj;rw [← htake,List.getElem?_take] at hfl;split at hfl
  ·rw [List.getElem?_drop] at hfl;have hlt:o * k + (i * k + j) < cur.size:=by
    have:=(List.getElem?_eq_some_iff.1 hfl).1
    simpa using this
   simp only [World.cell?,hg];rw [← Nat.add_assoc] at hfl
   simpa [Array.getElem?_toList] using hfl
  ·cases hfl
theorem OwnOff.drop (h:OwnOff B k e w v es) {m:Nat} (hm:m≤es.length):OwnOff B k e w (dL v k m es.length) (es.drop m):=by
 refine ⟨?_,fun x hx=>h.each x (List.mem_of_mem_drop hx)⟩;rcases h.row with ⟨rfl,rfl⟩ | ⟨g,o,cap,cur,fz,rfl,hb,hg,hfz,hnc,hcm,hcs,htake⟩
 ·have:m=0:=by simpa using hm
  subst this;exact .inl ⟨by simp [dL],rfl⟩
 ·have hfl:=bD h.each;by_cases hc:cap=m
  ·have hlm:es.length=m:=aC;refine .inr ⟨g,o,0,cur,fz,?_,hb,hg,hfz,?_,by unfold maxLen;omega,?_,?_⟩
   ·simp [dL,hc,hlm]
   ·simp [hlm]
   ·have:(o + 0) * k≤(o + cap) * k:=Nat.mul_le_mul_right k aC;omega
   ·have h0:es.drop m=[]:=by rw [← hlm,List.drop_length]
    rw [h0];simp
  ·refine .inr ⟨g,o + m,cap - m,cur,fz,?_,hb,hg,hfz,?_,aC,?_,?_⟩
   ·simp [dL,hc,dB,Nat.add_mul]
   ·simp;omega
   ·rw [show o + m + (cap - m)=o + cap by omega];exact hcs
   ·have hd:=nG es m h.each;rw [hd,← htake,List.drop_take,List.drop_drop,List.length_drop,Nat.add_mul,← Nat.sub_mul]
section
variable {P:Program} {ops:Array Oper} {Q:Exit→Act→World→Prop} {w:World} {rest:List Oper} {ts:List Value} {df:List Deferred} {ty:TypeId} {ps:String} {af:Array Edge}
end
theorem Pts.front {p:Value} {vs:List Value} (h:Pts w p vs) (n:Nat):Pts w p (vs.take n):=by
 obtain ⟨b,o,e,hc⟩:=h;refine ⟨b,o,e,fun j x hx=>hc j x ?_⟩;rw [List.getElem?_take] at hx;split at hx
 ·exact hx
 ·cases hx
section
variable {P:Program} {w:World} {ts:List Value} {df:List Deferred} {d:Option Nat} {ty:TypeId} {ps:String} {af:Array Edge} {g:Option (Nat × Bool)}
end
structure SetsN (B:Nat) (w:World) (css0 css:List (List Value)) (l:List RSet) (k:Nat):Prop where
 len:css.length=l.length
 new:∀ (i:Nat) (s:RSet),l[i]? = some s→i < k→∃ x,css[i]? = some [aE s.name, .int .i64 s.kind, .int .i64 s.ttl,x]∧Own B 1 9 w x (aI s.data)
 old:∀ i,k≤i→css[i]? = css0[i]?
theorem SetsN.ext {l:List RSet} (h:SetsN B w css0 css l k) (hx:Ext w w'):SetsN B w' css0 css l k :=
 ⟨h.len,fun i s hi hk=>let ⟨x,a,b⟩:=h.new i s hi hk;⟨x,a,b.ext hx⟩,h.old⟩
theorem SetsN.mv {l:List RSet} (h:SetsN B w css0 css l k) (hm:Mv row w w') (hne:∀ x es,Own B 1 9 w x es→x.ownBlock=none∨x.ownBlock≠row):SetsN B w' css0 css l k :=
 ⟨h.len,fun i s hi hk=>let ⟨x,a,b⟩:=h.new i s hi hk;⟨x,a,b.mv hm (hne x _ b)⟩,h.old⟩
theorem SetsN.step {l:List RSet} (h:SetsN B w css0 css l k) (hk:k < l.length) {y:Value} (hy:Own B 1 9 w y (aI l[k].data)) :
 SetsN B w css0 (css.set k [aE l[k].name, .int .i64 l[k].kind, .int .i64 l[k].ttl,y]) l (k + 1):=by
 refine ⟨by rw [List.length_set,h.len],fun i s hi hik => ?_,fun i hi => ?_⟩
 ·by_cases e:k=i
  ·subst e;rw [List.getElem?_eq_getElem hk] at hi;cases hi
   exact ⟨y,List.getElem?_set_self (by rw [h.len];exact hk),hy⟩
  ·obtain ⟨x,a,b⟩:=h.new i s hi aC;exact ⟨x,by rw [List.getElem?_set_ne e];exact a,b⟩
 ·rw [List.getElem?_set_ne aC];exact h.old i aC
theorem SetsN.done {l:List RSet} (h:SetsN B w css0 css l l.length):SetsW B w css l :=
 ⟨h.len,fun i s hi=>h.new i s hi (List.getElem?_eq_some_iff.1 hi).1⟩
section
variable {P:Program} {a:Act} {w:World} {d:Option Nat} {ty:TypeId} {ps:String} {af:Array Edge} {g:Option (Nat × Bool)}
theorem Runs.isNil {t u:TypeId} {x y:Operand} {p:Option Addr} (hx:a.eval x=.pointer p) (hy:a.eval y=.pointer none) (ht:P.underlying t=some (.pointer (P.pointee t))) :
 Runs P (Oper.mk d (.binOp .eql t x y u) ty ps af g) a w (.bool p.isNone):=by
 constructor;simp [execOp,hx,hy,eqGuard,run_eql_pointer_nil w t p ht]
end
theorem SetsV.sets {l:List RSet} (h:SetsV B w v l):SetsAt w v l:=by
 obtain ⟨css,h1,h2⟩:=h;exact h2.sets.sets h1.sl
section
variable {P:Program} {a:Act} {w:World} {d:Option Nat} {ty:TypeId} {ps:String} {af:Array Edge} {g:Option (Nat × Bool)}
end
def MI (n:Int):Bool:=decide (0≤n) && decide (n≤4294967295)
def qZ (a b:Int):Bool:=MI a && MI b && decide (2147483648 < (b - a) % 4294967296)
theorem yT {P:Program} {t ty:TypeId} {n:Nat} {cs vs:List Value} (hb:w.heap[b]? = some (.cells cs.toArray t (0,0))) (hv:v.cells=vs.toArray) (hn:n + vs.length≤cs.length) (hs:dE P ty vs.length=true) (h1:∀ u ∈ vs,u.oneCell'=true) :
 ∃ w',(storeVar ty ⟨b,n,none⟩ v).run P w=.ok () w'∧Put w w' b (.cells (cs.take n ++ vs ++ cs.drop (n + vs.length)).toArray t (0,0)):=by
 obtain ⟨i,hq,hsz⟩:=rH (jB hs);have hr:=eK P b n t (0,0) vs 0 cs.toArray w hb (.inl (Nat.le_refl _)) (by simpa using hn) h1;simp only [Nat.add_zero] at hr;refine ⟨w.setRow b (cs.take n ++ vs ++ cs.drop (n + vs.length)).toArray,?_,rfl,rfl,rfl,bE,setRow_heap w b _ _ t _ hb,fun k hk=>setRow_other w b k _ hk,rfl⟩;simp [storeVar,sizeOf,typeInfo,hq,hsz,hv,hr]
section
variable {P:Program} {ops:Array Oper} {Q:Exit→Act→World→Prop} {w:World} {rest:List Oper} {ts:List Value} {df:List Deferred} {d:Option Nat} {ty:TypeId} {ps:String} {af:Array Edge} {g:Option (Nat × Bool)}
theorem xS {t ty:TypeId} {x y:Operand} {n:Nat} {cs vs:List Value} {ty2:TypeId} (hb:w.heap[b]? = some (.cells cs.toArray t (0,0))) (hw:Region.wanted (Oper.mk none (.store ty x y) ty2 ps af g) (yielded ops ts.toArray)=true)
 (hx:(Act.mk ts.toArray df).eval x=aP (.pointer (some ⟨b,0,none⟩)) n) (hy:(Act.mk ts.toArray df).eval y=v) (hv:v.cells=vs.toArray) (hn:n + vs.length≤cs.length) (hs:dE P ty vs.length=true) (h1:∀ u ∈ vs,u.oneCell'=true)
 (h:∀ w',Put w w' b (.cells (cs.take n ++ vs ++ cs.drop (n + vs.length)).toArray t (0,0))→wpList P ops Q rest (Act.mk ts.toArray df) w'):wpList P ops Q (Oper.mk none (.store ty x y) ty2 ps af g :: rest) (Act.mk ts.toArray df) w:=by
 obtain ⟨w',hr,hp⟩:=yT (P:=P) hb hv hn hs h1;refine jC hw (w':=w') ?_ (h w' hp);have e:aP (.pointer (some ⟨b,0,none⟩)) n=.pointer (some ⟨b,n,none⟩):=by simp [aP,dB]
 simp [execOp,hx,hy,e,Instr.storeAt,Instr.sureAddr,hr]
end
theorem MJ {l:List RSet} (h:ZoneOk o l):l.length≤200∧(∀ s ∈ l,s.data.length≤20)∧(∀ s ∈ l,∀ d ∈ s.data,d.length≤4000)∧(bT l).length≤4000:=by
 have h1:l.length≤200:=by
  have:=h.chk;unfold dT at this;split at this
  ·cases this
  ·omega
 have h2:∀ s ∈ l,s.data.length≤20:=fun s hs=>by
  have hm:=h.may hs;simp only [lV,Bool.and_eq_true,decide_eq_true_eq] at hm;exact hm.1.2
 refine ⟨h1,h2,fun s hs d hd => ?_,?_⟩
 ·obtain ⟨i,hi,rfl⟩:=List.mem_iff_getElem.1 hd;exact (uP (MD (h.may hs) hi)).1
 ·have:∀ {L:List RSet},(∀ s ∈ L,s.data.length≤20)→(bT L).length≤20 * L.length:=by
   intro L;induction L with
   | nil=>intro _;simp [bT]
   | cons s L ih =>
    intro hL;have e:bT (s :: L)=oS s ++ bT L:=by simp [bT]
    have i1:=ih fun t ht=>hL t (by simp [ht]);have i2:=hL s bE;rw [e,List.length_append,oS,List.length_map,List.length_cons];omega
  have:=this h2;omega
def PF (o:List UInt8) (l:List RSet) (o':List UInt8) (l':List RSet):Int :=
 if jR o' l'≠0 then jR o' l' else if o'≠o then 1 else if qZ (gK o' l').serial (gK o l).serial=false then 7 else 0
def MK (room:Int) (ds:List DeltaR):List DeltaR:=ds.drop (ds.length - room.toNat)
theorem UZ {α β γ:Type} {F:α→β→γ→World→Prop} {G:α→β→γ→World→Prop} {goal:Prop} (h1:(∀ x y z w',F x y z w'→G x y z w')→goal) (h2:∀ x y z w',F x y z w'→G x y z w'):goal:=h1 h2
section
variable {P:Program} {n:Nat} {r:Option Nat} {ops:Array Oper} {Q:Exit→Act→World→Prop} {md:Region.Mode}
end
section
variable {P:Program} {w w':World} {ts:List Value} {df:List Deferred} {d:Option Nat} {ty:TypeId} {ps:String} {af:Array Edge} {g:Option (Nat × Bool)}
end
structure DelN (B:Nat) (w:World) (css0 css:List (List Value)) (ds:List DeltaR) (k:Nat):Prop where
 len:css.length=ds.length
 new:∀ (i:Nat) (d:DeltaR),ds[i]? = some d→i < k→∃ g n,css[i]? = some [.int .i64 d.fr, .int .i64 d.to,g,n]∧Own B 4 61 w g (aF d.gone)∧Own B 4 61 w n (aF d.new)
 old:∀ i,k≤i→css[i]? = css0[i]?
theorem DelN.ext {ds:List DeltaR} (h:DelN B w css0 css ds k) (hx:Ext w w'):DelN B w' css0 css ds k :=
 ⟨h.len,fun i s hi hk=>let ⟨x,y,a,b,c⟩:=h.new i s hi hk;⟨x,y,a,b.ext hx,c.ext hx⟩,h.old⟩
theorem DelN.mv {ds:List DeltaR} (h:DelN B w css0 css ds k) (hm:Mv row w w') (hne:∀ x es,Own B 4 61 w x es→x.ownBlock=none∨x.ownBlock≠row):DelN B w' css0 css ds k :=
 ⟨h.len,fun i s hi hk=>let ⟨x,y,a,b,c⟩:=h.new i s hi hk;⟨x,y,a,b.mv hm (hne x _ b),c.mv hm (hne y _ c)⟩,h.old⟩
theorem DelN.step {ds:List DeltaR} (h:DelN B w css0 css ds k) (hk:k < ds.length) {x y:Value} (hx:Own B 4 61 w x (aF ds[k].gone)) (hy:Own B 4 61 w y (aF ds[k].new)) :
 DelN B w css0 (css.set k [.int .i64 ds[k].fr, .int .i64 ds[k].to,x,y]) ds (k + 1):=by
 refine ⟨by rw [List.length_set,h.len],fun i s hi hik => ?_,fun i hi => ?_⟩
 ·by_cases e:k=i
  ·subst e;rw [List.getElem?_eq_getElem hk] at hi;cases hi
   exact ⟨x,y,List.getElem?_set_self (by rw [h.len];exact hk),hx,hy⟩
  ·obtain ⟨x,y,a,b⟩:=h.new i s hi aC;exact ⟨x,y,by rw [List.getElem?_set_ne e];exact a,b⟩
 ·rw [List.getElem?_set_ne aC];exact h.old i aC
def Keep (T:List TypeId) (w w':World):Prop:=∀ (c:Nat) (cs:Array Value) (t:TypeId) (fz:Nat × Nat),w.heap[c]? = some (.cells cs t fz)→t ∉ T→w'.heap[c]? = some (.cells cs t fz)
theorem Ext.keep (h:Ext w w') (T:List TypeId):Keep T w w':=fun c cs t fz hc _=>h.at hc
theorem Keep.trans {T:List TypeId} {a b c:World} (h:Keep T a b) (k:Keep T b c):Keep T a c:=fun i cs t fz hc ht=>k i cs t fz (h i cs t fz hc ht) ht
theorem Own.keep {T:List TypeId} (h:Own B k e w v es) (hk:Keep T w w') (he:e ∉ T):Own B k e w' v es:=by
 refine ⟨⟨h.row.1,?_⟩,h.2⟩;rcases h.row.2 with h1 | ⟨gg,cap,cur,fz,rfl,hb,hg,r⟩
 ·exact .inl h1
 ·exact .inr ⟨gg,cap,cur,fz,rfl,hb,hk _ _ _ _ hg he,r⟩
theorem OwnOff.keep {T:List TypeId} (h:OwnOff B k e w v es) (hk:Keep T w w') (he:e ∉ T):OwnOff B k e w' v es:=by
 refine ⟨h.row.imp id ?_,h.each⟩;rintro ⟨g,o,cap,cur,fz,rfl,hb,hg,r⟩;exact ⟨g,o,cap,cur,fz,rfl,hb,hk _ _ _ _ hg he,r⟩
theorem SetsV.keep {T:List TypeId} {l:List RSet} (h:SetsV B w v l) (hk:Keep T w w') (h1:137 ∉ T) (h2:9 ∉ T):SetsV B w' v l:=by
 obtain ⟨css,a,b⟩:=h;exact ⟨css,a.keep hk h1,b.len,fun i s hi=>let ⟨x,c,d⟩:=b.at' i s hi;⟨x,c,d.keep hk h2⟩⟩
theorem xT {l:List Rec}:∀ f ∈ aF l,∀ u ∈ f,u.oneCell'=true:=by
 intro f hf u hu;obtain ⟨r,_,rfl⟩:=List.mem_map.1 hf;simp only [Rec.cells,List.mem_cons,List.not_mem_nil,or_false] at hu;rcases hu with rfl | rfl | rfl | rfl <;> rfl
theorem DelA.ext {d:DeltaR} (h:DelA d r w) (hx:Ext w w'):DelA d r w':=by
 obtain ⟨g,n,e,a,b⟩:=h;exact ⟨g,n,e,a.ext hx,b.ext hx⟩
def WG (l:List RSet) (n a:List UInt8):List RSet:=(l.filter fun s=>decide (s.name=n)).map fun s=>⟨a,s.kind,s.ttl,s.data⟩
def SS (l:List RSet) (n:List UInt8):Bool:=l.any fun s=>dC s.name n
def ML (l:List RSet):List (List UInt8)→List (List UInt8)
 | []=>[]
 | x :: t=>if SS l (enc (x :: t))=true then x :: t else ML l t
def VA (l:List RSet) (n:List UInt8):List UInt8:=(rP ([42] :: ML l ((aM n).getD []))).getD []
def EB (l:List RSet) (n:List UInt8):List RSet:=if SS l n=true then WG l n n else WG l (VA l n) n
structure AnsR where
 kind:Int
 ans:List Rec
 auth:List Rec
 extra:List Rec
 deriving DecidableEq,Inhabited
def VB:AnsR:=⟨0,[],[],[]⟩
theorem JS (n:List UInt8):fold (fold n)=fold n:=by
 cases h:aM n with
 | none =>
  have:fold n=n:=by unfold fold;rw [h]
  rw [this,this]
 | some ls=>exact (nJ h).2.2
theorem EC (n:List UInt8):(aM (fold n)).isSome=(aM n).isSome:=by
 cases h:aM n with
 | none =>
  have:fold n=n:=by unfold fold;rw [h]
  rw [this,h]
 | some ls=>rw [(nJ h).2.1];rfl
theorem GK (n:List UInt8):fN (fold n)=fN n:=by unfold fN;rw [EC]
def InZ (l:List RSet) (r:Rec):Prop:=(∃ s ∈ l,∃ d ∈ s.data,r=uJ s d)∨SS l r.name=false
theorem GL {l:List RSet} {s:RSet} (h:s ∈ WG l m n):∃ t ∈ l,t.name=m∧s=⟨n,t.kind,t.ttl,t.data⟩:=by
 unfold WG at h;obtain ⟨t,ht,rfl⟩:=List.mem_map.1 h;obtain ⟨h1,h2⟩:=List.mem_filter.1 ht;exact ⟨t,h1,by simpa using h2,rfl⟩
theorem InZ.at {l:List RSet} {s:RSet} (h:s ∈ EB l n):∀ d ∈ s.data,InZ l (uJ s d):=by
 intro d hd;unfold EB at h;split at h
 ·obtain ⟨t,ht,h1,rfl⟩:=GL h;exact .inl ⟨t,ht,d,hd,by simp [uJ,h1]⟩
 ·rename_i hn;obtain ⟨t,ht,h1,rfl⟩:=GL h;exact .inr (by simpa [uJ] using hn)
theorem GM {l:List RSet} (h:dT l=0) {s:RSet} (hs:s ∈ EB l n):∃ t ∈ l,s.kind=t.kind∧s.ttl=t.ttl∧s.data=t.data∧s.name=n:=by
 unfold EB at hs;split at hs <;> (obtain ⟨t,ht,h1,rfl⟩:=GL hs;exact ⟨t,ht,rfl,rfl,rfl,rfl⟩)
section
variable {P:Program} {a:Act} {w:World} {d:Option Nat} {ty:TypeId} {ps:String} {af:Array Edge} {g:Option (Nat × Bool)}
end
theorem MM (nm:List UInt8) (w:World):Calls Tryz.prog 147 #[aE nm] w (pX w fun v w'=>Own w.heap.size 1 9 w' v (aI ((aM nm).getD []))):=by
 go_enter Tryz.func147,Tryz.ntmps147
 refine_lift SJ ?_;intro _ _ _;refine pZ (WE nm _) fun v w1 x1 hv => ?_;cases hl:aM nm with
 | none =>
  rw [hl] at hv;subst hv;refine_lift eA ?_;go_ret;exact ⟨_,rfl,x1,by rw [hl];exact Own.nil _ _ _ _⟩
 | some ls =>
  rw [hl] at hv;obtain ⟨s,rfl,hs⟩:=hv;refine_lift eA ?_;go_ret;exact ⟨_,rfl,x1,by rw [hl];exact hs⟩
def ST (r:Rec):Value:=.agg #[aE r.name, .int .i64 r.kind, .int .i64 r.ttl,aE r.data]
theorem Pts.take {p:Value} {vs:List Value} (h:Pts w p vs) (n:Nat):Pts w p (vs.take n):=by
 obtain ⟨b,o,e,hc⟩:=h;refine ⟨b,o,e,fun j x hx=>hc j x ?_⟩;rw [List.getElem?_take] at hx;split at hx
 ·exact hx
 ·cases hx
section
variable {P:Program} {w:World} {ts:List Value} {df:List Deferred} {d:Option Nat} {ty:TypeId} {ps:String} {af:Array Edge} {g:Option (Nat × Bool)}
end
end Go.Proofs.X
namespace Go.Proofs.X
open Go.RowKit
theorem SetsC.row {w:World} {css:List (List Value)} {l:List RSet} (h:SetsC w css l) {i:Nat} (hi:i < l.length):∃ x,css[i]? = some [aE l[i].name, .int .i64 l[i].kind, .int .i64 l[i].ttl,x]∧Sl 1 w x (aI l[i].data):=h.at' i _ (List.getElem?_eq_getElem hi)
variable {cs:Array Value} {held:Bool} {qt:Int} {ps rs:List (List UInt8 × Nat)} {ls:List (List UInt8)} {css css0 es:List (List Value)} {d l m n o qn s t x y z:List UInt8} {B a b base c e fuel i j k p q:Nat} {fz:Nat × Nat} {row:Option Nat} {r u v:Value} {w w' w0 w1 w2:World}
def FromL (l:List RSet) (r:Rec):Prop:=∃ t ∈ l,r.data ∈ t.data
theorem FromL.sets {l:List RSet} (h:dT l=0) {s:RSet} (hs:s ∈ EB l n):∀ r ∈ oS s,FromL l r:=by
 intro r hr;obtain ⟨d,hd,rfl⟩:=List.mem_map.1 hr;obtain ⟨t,ht,_,_,e,_⟩:=GM h hs;exact ⟨t,ht,by rw [← e];exact hd⟩
end Go.Proofs.X
namespace Go.Proofs.X
open Go.RowKit
def WV:List Value:=[.int .i64 0, .slice none 0 0, .slice none 0 0, .slice none 0 0]
def AnsO (B:Nat) (a:AnsR) (y:Value) (w:World):Prop :=
 ∃ u1 u2 u3,y=.agg #[.int .i64 a.kind,u1,u2,u3]∧Own B 4 61 w u1 (aF a.ans)∧Own B 4 61 w u2 (aF a.auth)∧Own B 4 61 w u3 (aF a.extra)
def AnsA (a:AnsR) (y:Value) (w:World):Prop :=
 ∃ u1 u2 u3,y=.agg #[.int .i64 a.kind,u1,u2,u3]∧Sl 4 w u1 (aF a.ans)∧Sl 4 w u2 (aF a.auth)∧Sl 4 w u3 (aF a.extra)
theorem AnsO.a {B:Nat} {a:AnsR} {y:Value} {w:World} (h:AnsO B a y w):AnsA a y w:=let ⟨u1,u2,u3,e,a,b,c⟩:=h;⟨u1,u2,u3,e,a.sl,b.sl,c.sl⟩
theorem AnsA.ext {a:AnsR} {y:Value} {w w':World} (h:AnsA a y w) (hx:Ext w w'):AnsA a y w':=let ⟨u1,u2,u3,e,a,b,c⟩:=h;⟨u1,u2,u3,e,a.ext hx,b.ext hx,c.ext hx⟩
theorem AnsO.zero (B:Nat) (w:World):AnsO B VB (.agg WV.toArray) w:=⟨_,_,_,rfl,Own.nil _ _ _ _,Own.nil _ _ _ _,Own.nil _ _ _ _⟩
variable {cs:Array Value} {held:Bool} {qt:Int} {ps rs:List (List UInt8 × Nat)} {ls:List (List UInt8)} {css css0 es:List (List Value)} {d l m n o qn s t x y z:List UInt8} {B a b base c e fuel i j k p q:Nat} {fz:Nat × Nat} {row:Option Nat} {r u v:Value} {w w' w0 w1 w2:World}
abbrev gE:=List UInt8 × Int
structure MsgR where
 id:Int
 resp:Bool
 op:Int
 auth:Bool
 trunc:Bool
 want:Bool
 avail:Bool
 rcode:Int
 qs:List gE
 an:List Rec
 au:List Rec
 ex:List Rec
 size:Int
 deriving DecidableEq,Inhabited
def cG (l:List gE):List (List Value):=l.map fun q=>[aE q.1, .int .i64 q.2]
theorem dR (l:List gE):(cG l).length=l.length:=by simp [cG]
def aX (m:MsgR) (q a u e:Value):List Value:=[.int .i64 m.id, .bool m.resp, .int .i64 m.op, .bool m.auth, .bool m.trunc, .bool m.want, .bool m.avail, .int .i64 m.rcode,q,a,u,e, .int .i64 m.size]
structure MsgV (w:World) (m:MsgR) (q a u e:Value):Prop where
 qs:Sl 2 w q (cG m.qs)
 an:Sl 4 w a (aF m.an)
 au:Sl 4 w u (aF m.au)
 ex:Sl 4 w e (aF m.ex)
theorem MsgV.ext {m:MsgR} {q a e:Value} (h:MsgV w m q a u e) (hx:Ext w w'):MsgV w' m q a u e:=⟨h.qs.ext hx,h.an.ext hx,h.au.ext hx,h.ex.ext hx⟩
theorem MsgV.one {m:MsgR} {q a e:Value} (h:MsgV w m q a u e):∀ x ∈ aX m q a u e,x.oneCell'=true:=by
 intro x hx;simp only [aX,List.mem_cons,List.not_mem_nil,or_false] at hx;rcases hx with rfl | rfl | rfl | rfl | rfl | rfl | rfl | rfl | rfl | rfl | rfl | rfl | rfl
 all_goals first | rfl | exact h.qs.one | exact h.an.one | exact h.au.one | exact h.ex.one
def zeroM:MsgR:=⟨0,false,0,false,false,false,false,0,[],[],[],[],0⟩
theorem MsgV.zero (w:World):MsgV w zeroM (.slice none 0 0) (.slice none 0 0) (.slice none 0 0) (.slice none 0 0):=⟨Sl.nil _ _,Sl.nil _ _,Sl.nil _ _,Sl.nil _ _⟩
def mD (q:gE):Bool:=decide (fN q.1=0) && (decide (1≤q.2) && decide (q.2≤65535)) && !decide (q.2=41)
def fT (l:List Rec):Bool:=decide (l.length≤200) && !(l.any fun r => !decide (aW r=0))
def fO (n least most:Int):Bool:=decide (least≤n) && decide (n≤most)
def bZ (m:MsgR):Int :=
 if fO m.id 0 65535 && fO m.op 0 15 && fO m.rcode 0 15 && (decide (m.size=0) || fO m.size 512 65535) && (decide (m.qs.length≤10) && m.qs.all mD) && (fT m.an && fT m.au && fT m.ex) then 0 else 1
end Go.Proofs.X
