/- Laws and walks that the proof of the statement is made of (part 2). -/
import Derived.Test.YtfkckeaadnoeiaaGreatP1
set_option linter.unusedSimpArgs false
set_option linter.unusedVariables false
set_option maxRecDepth 100000
namespace Go.Proofs.X
open Go
def MJ:Nat→List UInt8→Option (List (List UInt8))
 | _,[]=>some []
 | 0,_ :: _=>none
 | f + 1,k :: t=>if k.toNat < 1∨63 < k.toNat∨t.length < k.toNat then none else (MJ f (t.drop k.toNat)).map (t.take k.toNat :: ·)
theorem uT:∀ (f:Nat) (l:List UInt8),l.length≤f→MJ f l=MJ l.length l
 | 0,[],_=>rfl
 | f + 1,[],_=>rfl
 | f + 1,k :: t,h=>by
   simp only [List.length_cons] at h ⊢
   unfold MJ
   split
   ·rfl
   ·rw [uT f (t.drop k.toNat) (by simp;omega),uT t.length (t.drop k.toNat) (by simp)]
def lG (l:List UInt8):Option (List (List UInt8)):=MJ l.length l
theorem BV:lG []=some []:=rfl
theorem oU (k:UInt8) (t:List UInt8):lG (k :: t)=if k.toNat < 1∨63 < k.toNat∨t.length < k.toNat then none else (lG (t.drop k.toNat)).map (t.take k.toNat :: ·):=by
 unfold lG
 simp only [List.length_cons]
 rw [MJ]
 split
 ·rfl
 ·rw [uT t.length (t.drop k.toNat) (by simp)]
def aM (n:List UInt8):Option (List (List UInt8)):=if 254 < n.length then none else lG n
def yP (b:UInt8):UInt8:=if 65≤b.toNat∧b.toNat≤90 then b + 32 else b
def low (l:List UInt8):List UInt8:=l.map yP
def enc (ls:List (List UInt8)):List UInt8:=(ls.map fun x=>UInt8.ofNat x.length :: x).flatten
def lL (x:List UInt8):Bool:=decide (1≤x.length) && decide (x.length≤63)
def rR (ls:List (List UInt8)):Option (List UInt8):=if ls.all lL=true∧(enc ls).length≤254 then some (enc ls) else none
def fold (n:List UInt8):List UInt8:=match aM n with | none=>n | some ls=>(rR (ls.map low)).getD []
def qD (l:List UInt8) (k:Nat):List UInt8:=low (l.take k) ++ l.drop k
theorem wD (l:List UInt8) (k:Nat):(qD l k).length=l.length:=by simp [qD,low];omega
theorem MK (l:List UInt8):qD l 0=l:=by simp [qD,low]
theorem PC (l:List UInt8):qD l l.length=low l:=by simp [qD]
theorem FZ (l:List UInt8) (k:Nat) (h:k < l.length):(qD l k)[k]? = some l[k]:=by
 have hm:(low (l.take k)).length=k:=by simp [low];omega
 rw [qD,List.getElem?_append_right (by omega),hm]
 simp [h]
theorem BW (l:List UInt8) (k:Nat) (h:k < l.length):qD l (k + 1)=(qD l k).set k (yP l[k]):=by
 have hm:(low (l.take k)).length=k:=by simp [low];omega
 have h1:l.take (k + 1)=l.take k ++ [l[k]]:=by rw [List.take_add_one,List.getElem?_eq_getElem h];rfl
 have h2:l.drop k=l[k] :: l.drop (k + 1):=List.drop_eq_getElem_cons h
 unfold qD
 rw [List.set_append_right _ _ (by omega),hm,h2,h1,Nat.sub_self,List.set_cons_zero]
 simp only [low,List.map_append,List.map_cons,List.map_nil,List.append_assoc,List.singleton_append]
theorem BX (l:List UInt8) (k:Nat) (h:k < l.length) (hs:yP l[k]=l[k]):qD l (k + 1)=qD l k:=by
 rw [BW l k h,hs]
 apply List.ext_getElem?
 intro j
 by_cases hj:k=j
 ·subst hj;rw [List.getElem?_set_self (by rw [wD];exact h),FZ l k h]
 ·rw [List.getElem?_set_ne hj]
theorem KT {b:UInt8} (h:¬ (65≤b.toNat∧b.toNat≤90)):yP b=b:=by rw [yP,if_neg h]
def uU {α:Type} (f:α→α) (l:List α) (k:Nat):List α:=(l.take k).map f ++ l.drop k
theorem GA {α:Type} (f:α→α) (l:List α) (k:Nat):(uU f l k).length=l.length:=by simp [uU];omega
theorem ML {α:Type} (f:α→α) (l:List α):uU f l 0=l:=by simp [uU]
theorem PD {α:Type} (f:α→α) (l:List α):uU f l l.length=l.map f:=by simp [uU]
theorem PE {α:Type} (f:α→α) (l:List α) (k:Nat) (h:k < l.length):(uU f l k)[k]? = some l[k]:=by
 have hm:((l.take k).map f).length=k:=by simp;omega
 rw [uU,List.getElem?_append_right (by omega),hm]
 simp [h]
theorem MM {α:Type} (f:α→α) (l:List α) (k:Nat) (h:k < l.length):uU f l (k + 1)=(uU f l k).set k (f l[k]):=by
 have hm:((l.take k).map f).length=k:=by simp;omega
 have h1:l.take (k + 1)=l.take k ++ [l[k]]:=by rw [List.take_add_one,List.getElem?_eq_getElem h];rfl
 have h2:l.drop k=l[k] :: l.drop (k + 1):=List.drop_eq_getElem_cons h
 unfold uU
 rw [List.set_append_right _ _ (by omega),hm,h2,h1,Nat.sub_self,List.set_cons_zero]
 simp only [List.map_append,List.map_cons,List.map_nil,List.append_assoc,List.singleton_append]
theorem BY:∀ (n:Nat) (l:List UInt8),l.length≤n→∀ ls,lG l=some ls→ls.all lL=true∧enc ls=l
 | _,[],_,ls,h=>by
   rw [BV] at h;cases h;exact ⟨rfl,rfl⟩
 | 0,_ :: _,hn,_,_=>by simp at hn
 | n + 1,k :: t,hn,ls,h=>by
   rw [oU] at h
   split at h
   ·cases h
   ·rename_i hk
    cases hp:lG (t.drop k.toNat) with
    | none=>rw [hp] at h;cases h
    | some ms =>
     rw [hp] at h
     cases h
     obtain ⟨h1,h2⟩:=BY n (t.drop k.toNat) (by simp at hn ⊢;omega) ms hp
     have hlen:(t.take k.toNat).length=k.toNat:=by simp;omega
     refine ⟨?_,?_⟩
     ·simp only [List.all_cons,h1,Bool.and_true,lL,hlen,Bool.and_eq_true,decide_eq_true_eq];omega
     ·have:enc (t.take k.toNat :: ms)=UInt8.ofNat (t.take k.toNat).length :: (t.take k.toNat) ++ enc ms:=by simp [enc]
      rw [this,h2,hlen]
      simp
theorem fR {l:List UInt8} {ls:List (List UInt8)} (h:aM l=some ls):ls.all lL=true∧enc ls=l∧l.length≤254:=by
 unfold aM at h
 split at h
 ·cases h
 ·have:=BY l.length l (Nat.le_refl _) ls h
  exact ⟨this.1,this.2,by omega⟩
theorem yQ (l:List UInt8):(low l).length=l.length:=by simp [low]
theorem oV:∀ ls:List (List UInt8),(enc ls).length=(ls.map fun x=>x.length + 1).sum
 | []=>rfl
 | x :: ls=>by
   have:=oV ls
   have e:enc (x :: ls)=UInt8.ofNat x.length :: x ++ enc ls:=by simp [enc]
   rw [e]
   simp [this];omega
theorem yR (ls:List (List UInt8)):(enc (ls.map low)).length=(enc ls).length:=by
 rw [oV,oV,List.map_map]
 congr 1
 apply List.map_congr_left
 intro x _
 simp [yQ]
theorem oW (ls:List (List UInt8)):ls.length≤(enc ls).length:=by
 rw [oV]
 induction ls with
 | nil=>simp
 | cons x ls ih=>simp;omega
theorem yS {x:List UInt8}:∀ {ls:List (List UInt8)},x ∈ ls→x.length < (enc ls).length
 | y :: ls,h=>by
   have e:enc (y :: ls)=UInt8.ofNat y.length :: y ++ enc ls:=by simp [enc]
   rw [e]
   rcases List.mem_cons.1 h with rfl | h
   ·simp;omega
   ·have:=yS h
    simp;omega
def qE (a b:List UInt8):Int:=if Op.bytesLess a b=true then -1 else if Op.bytesLess a b=false∧a≠b then 1 else 0
def iT:List (List UInt8)→List (List UInt8)→Int
 | [],[]=>0
 | [],_ :: _=>-1
 | _ :: _,[]=>1
 | x :: xs,y :: ys=>if qE x y≠0 then qE x y else iT xs ys
def dZ (n:List UInt8):Option (List (List UInt8)):=(aM (fold n)).map List.reverse
def oX (a b:List UInt8):Int:=match dZ a,dZ b with
 | none,none=>qE a b
 | none,some _=>-1
 | some _,none=>1
 | some x,some y=>iT x y
def jQ (s:List UInt8):Option (List UInt8):=if Lib.hasSuffix s [0]=true∧(aM (Lib.trimSuffix s [0])).isSome=true then some (Lib.trimSuffix s [0]) else none
def jR (k:Int):Int:=if k=33 then 6 else if k=15 then 2 else if k=2∨k=5∨k=12 then 0 else -1
def aQ (k:Int) (d:List UInt8):List UInt8 × Int :=
 if jR k < 0 then ([],5) else if (d.length:Int) < jR k then ([],2) else match jQ (d.drop (jR k).toNat) with
  | none=>([],2)
  | some n=>(n,0)
def BZ:Nat→List UInt8→Nat
 | _,[]=>0
 | 0,_ :: _=>0
 | f + 1,k :: t=>if k.toNat=0 then 0 else 1 + k.toNat + BZ f (t.drop k.toNat)
theorem sH:∀ (f:Nat) (l:List UInt8),l.length≤f→BZ f l=BZ l.length l
 | 0,[],_=>rfl
 | f + 1,[],_=>rfl
 | f + 1,k :: t,h=>by
   simp only [List.length_cons] at h ⊢
   unfold BZ
   split
   ·rfl
   ·rw [sH f (t.drop k.toNat) (by simp;omega),sH t.length (t.drop k.toNat) (by simp)]
def nV (l:List UInt8):Nat:=BZ l.length l
theorem yT (k:UInt8) (t:List UInt8):nV (k :: t)=if k.toNat=0 then 0 else 1 + k.toNat + nV (t.drop k.toNat):=by
 unfold nV
 simp only [List.length_cons]
 rw [BZ]
 split
 ·rfl
 ·rw [sH t.length (t.drop k.toNat) (by simp)]
def cH (s:List UInt8):List UInt8 × List UInt8 × Bool :=
 if s.length≤nV s then ([],[],false) else ((jQ (s.take (nV s + 1))).getD [],s.drop (nV s + 1),(jQ (s.take (nV s + 1))).isSome)
def sI:Nat→List UInt8→Bool
 | _,[]=>true
 | 0,_ :: _=>true
 | f + 1,k :: t=>if t.length < k.toNat then false else sI f (t.drop k.toNat)
theorem qF:∀ (f:Nat) (l:List UInt8),l.length≤f→sI f l=sI l.length l
 | 0,[],_=>rfl
 | f + 1,[],_=>rfl
 | f + 1,k :: t,h=>by
   simp only [List.length_cons] at h ⊢
   unfold sI
   split
   ·rfl
   ·rw [qF f (t.drop k.toNat) (by simp;omega),qF t.length (t.drop k.toNat) (by simp)]
def sJ (l:List UInt8):Bool:=sI l.length l
theorem wE (k:UInt8) (t:List UInt8):sJ (k :: t)=if t.length < k.toNat then false else sJ (t.drop k.toNat):=by
 unfold sJ
 simp only [List.length_cons]
 rw [sI]
 split
 ·rfl
 ·rw [qF t.length (t.drop k.toNat) (by simp)]
def DY (l:List UInt8):Bool := !decide (l=[]) && sJ l
def numP (r:List UInt8) (i:Nat):Nat→Nat
 | 0=>0
 | k + 1=>numP r i k * 256 + (r.getD (4 * i + k) 0).toNat
theorem KU (r:List UInt8) (i:Nat):∀ k,numP r i k < 256 ^ k
 | 0=>by simp [numP]
 | k + 1=>by
   have h1:=KU r i k
   have h2:(r.getD (4 * i + k) 0).toNat < 256:=UInt8.toNat_lt _
   rw [numP,Nat.pow_succ]
   omega
def IZ (n:Nat):List UInt8:=[UInt8.ofNat (n / 16777216),UInt8.ofNat (n / 65536),UInt8.ofNat (n / 256),UInt8.ofNat n]
structure SoaR where
 main:List UInt8
 mail:List UInt8
 serial:Int
 refresh:Int
 retry:Int
 expire:Int
 minimum:Int
 deriving DecidableEq,Inhabited
def SoaR.cells (s:SoaR):List Value:=[aE s.main,aE s.mail, .int .i64 s.serial, .int .i64 s.refresh, .int .i64 s.retry, .int .i64 s.expire, .int .i64 s.minimum]
def lH (n:Int):Bool:=decide (0≤n) && decide (n≤2147483647)
def SoaR.ok (s:SoaR):Bool:=(aM s.main).isSome && (aM s.mail).isSome && decide (0≤s.serial) && decide (s.serial≤4294967295) && lH s.refresh && lH s.retry && lH s.expire && lH s.minimum
def SoaR.data (s:SoaR):List UInt8:=s.main ++ [0] ++ (s.mail ++ [0]) ++ IZ s.serial.toNat ++ IZ s.refresh.toNat ++ IZ s.retry.toNat ++ IZ s.expire.toNat ++ IZ s.minimum.toNat
def fX (d:List UInt8):SoaR :=
 let f:=cH d
 let g:=cH f.2.1
 { main:=f.1,mail:=g.1,serial:=numP g.2.1 0 4,refresh:=numP g.2.1 1 4,retry:=numP g.2.1 2 4,expire:=numP g.2.1 3 4,minimum:=numP g.2.1 4 4 }
def dK (d:List UInt8):Option SoaR :=
 let f:=cH d
 let g:=cH f.2.1
 if f.2.2=true∧g.2.2=true∧g.2.1.length=20∧(fX d).ok=true then some (fX d) else none
def fits (k:Int) (d:List UInt8):Bool :=
 if k=1 then decide (d.length=4) else if k=28 then decide (d.length=16) else if k=16 then DY d else if k=6 then (dK d).isSome else decide ((aQ k d).2≠2)
structure Rec where
 name:List UInt8
 kind:Int
 ttl:Int
 data:List UInt8
 deriving DecidableEq,Inhabited
def bF (r:Rec):Int :=
 if r.kind=41∨r.kind=251∨r.kind=252∨r.kind=255 then 1
 else if r.kind < 1∨65535 < r.kind∨r.ttl < 0∨2147483647 < r.ttl∨4000 < r.data.length∨fits r.kind r.data=false then 1
 else if (aM r.name).isSome=true then 0 else 1
structure TPO {α:Type} (c:α→α→Int):Prop where
 anti:∀ x y,c y x=- c x y
 tr:∀ x y z,c x y≤0→c y z≤0→c x z≤0
variable {α:Type} {c d:α→α→Int}
theorem TPO.refl (h:TPO c) (x:α):c x x=0:=by have:=h.anti x x;omega
theorem TPO.swo (h:TPO c):Sort.SWO (Go.Proofs.ltOf c) where
 irrefl x:=by simp [Go.Proofs.ltOf,h.refl x]
 trans x y z h1 h2:=by
  simp only [Go.Proofs.ltOf,decide_eq_true_eq] at *
  have h3:=h.tr x y z (by omega) (by omega)
  rcases Int.lt_or_eq_of_le h3 with h4 | h4
  ·exact h4
  ·have a1:=h.anti x z
   have a2:=h.anti y z
   have a3:=h.anti x y
   have:=h.tr z x y (by omega) (by omega)
   omega
 ntrans x y z h1 h2:=by
  simp only [Go.Proofs.ltOf,decide_eq_false_iff_not] at *
  have a1:=h.anti x y
  have a2:=h.anti y z
  have a3:=h.anti x z
  have:=h.tr z y x (by omega) (by omega)
  omega
theorem TPO.eqL (h:TPO c) {x y z:α} (e:c x y=0):c x z≤0↔c y z≤0:=by
 have a:=h.anti x y
 exact ⟨fun h1=>h.tr y x z (by omega) h1,fun h1=>h.tr x y z (by omega) h1⟩
def YG (c d:α→α→Int) (x y:α):Int:=if c x y≠0 then c x y else d x y
theorem TPO.lex (h:TPO c) (k:TPO d):TPO (YG c d) where
 anti x y:=by
  have a:=h.anti x y
  have b:=k.anti x y
  unfold YG
  split <;> split <;> omega
 tr x y z:=by
  have a1:=h.anti x y
  have a2:=h.anti y z
  have a3:=h.anti x z
  have t1:=h.tr x y z
  have t2:=h.tr z x y
  have t3:=h.tr y z x
  have t4:=k.tr x y z
  unfold YG
  intro h1 h2
  split at h1 <;> split at h2 <;> split <;> omega
theorem TPO.comap {β:Type} (h:TPO c) (f:β→α):TPO (fun x y=>c (f x) (f y)):=⟨fun x y=>h.anti _ _,fun x y z=>h.tr _ _ _⟩
theorem TV:TPO (fun a b:Int=>if a < b then (-1:Int) else if b < a then 1 else 0) where
 anti x y:=by split <;> split <;> (try split) <;> omega
 tr x y z:=by
  intro h1 h2
  split at h1 <;> split at h2 <;> split <;> (try omega)
  all_goals (split <;> (try omega))
  all_goals (first | (split at h1 <;> omega) | (split at h2 <;> omega) | (split at h1 <;> split at h2 <;> omega))
theorem KV {a b:List UInt8}:Op.bytesLess a b=true↔a < b:=by rw [Go.Proofs.bytesLess_eq];simp
theorem nW (a b:List UInt8):qE a b=if a < b then -1 else if a=b then 0 else 1:=by
 unfold qE
 by_cases h:a < b
 ·simp [KV.2 h,h]
 ·have:Op.bytesLess a b=false:=by
   cases h2:Op.bytesLess a b with
   | false=>rfl
   | true=>exact absurd (KV.1 h2) h
  simp [this,h]
theorem hO:TPO qE where
 anti x y:=by
  rw [nW,nW]
  rcases Std.lt_trichotomy x y with h | h | h
  ·have h2:¬ y < x:=fun h9=>Std.lt_irrefl (Std.lt_trans h h9)
   have h3:x≠y:=fun e=>Std.lt_irrefl (e ▸ h)
   simp [h,h2,h3,Ne.symm h3]
  ·subst h
   simp [Std.lt_irrefl]
  ·have h2:¬ x < y:=fun h9=>Std.lt_irrefl (Std.lt_trans h h9)
   have h3:x≠y:=fun e=>Std.lt_irrefl (e ▸ h)
   simp [h,h2,h3,Ne.symm h3]
 tr x y z:=by
  rw [nW,nW,nW]
  intro h1 h2
  by_cases hxy:x < y
  ·by_cases hyz:y < z
   ·simp [Std.lt_trans hxy hyz]
   ·by_cases e:y=z
    ·subst e;simp [hxy]
    ·simp [hyz,e] at h2
  ·by_cases e:x=y
   ·subst e;exact h2
   ·simp [hxy,e] at h1
theorem GB:TPO iT where
 anti:=by
  intro x
  induction x with
  | nil=>intro y;cases y <;> rfl
  | cons a x ih =>
   intro y
   cases y with
   | nil=>rfl
   | cons b y =>
    have h1:=hO.anti a b
    have h2:=ih y
    simp only [iT]
    split <;> split <;> omega
 tr:=by
  intro x
  induction x with
  | nil=>intro y z _ _;cases z <;> simp [iT]
  | cons a x ih =>
   intro y z h1 h2
   cases y with
   | nil=>simp [iT] at h1
   | cons b y =>
    cases z with
    | nil=>simp [iT] at h2
    | cons e z =>
     have a1:=hO.anti a b
     have a2:=hO.anti b e
     have a3:=hO.anti a e
     have t1:=hO.tr a b e
     have t2:=hO.tr e a b
     have t3:=hO.tr b e a
     have t4:=ih y z
     simp only [iT] at *
     split at h1 <;> split at h2 <;> split <;> omega
theorem PF:TPO oX where
 anti x y:=by
  have h1:=hO.anti x y
  unfold oX
  cases hx:dZ x <;> cases hy:dZ y <;> simp only [] <;> first | exact h1 | rfl | exact GB.anti _ _
 tr x y z:=by
  have h1:=hO.tr x y z
  unfold oX
  cases hx:dZ x <;> cases hy:dZ y <;> cases hz:dZ z <;> simp only [] <;> first | exact h1 | exact GB.tr _ _ _ | (intros;omega)
open Go.RowKit
def jC (P:Program) (e:TypeId):Nat:=match P.info? e with | some i=>i.bytes | none=>0
section
variable {P:Program} {ops:Array Oper} {Q:Exit→Act→World→Prop} {rest:List Oper} {ts:List Value} {df:List Deferred}
inductive ElemIs (a:Act) (x:Operand) (k:Nat) (ce:List Value):Prop
 | mk {c:Value} (h1:a.eval x=c) (h2:c.cells.toList=ce) (h3:ce.length=k) (h4:∀ u ∈ ce,u.oneCell'=true):ElemIs a x k ce
theorem Bc (ce:List Value) {B k e t d1 d2 m ty1 ty2:Nat} {ps1 ps2:String} {af1 af2:Array Edge} {x:Operand} {es:List (List Value)} {w0 w:World}
 (hx:Ext w0 w) (ho:Own B k e w (ts.getD m undef) es) (hl:es.length + 1≤1000000)
 (hk:∀ s v' w1 w',Ext w w1→Mv (ts.getD m undef).ownBlock w1 w'→Ext w0 w'→Own B k e w' v' (es ++ [ce])→wpList P ops Q rest (Act.mk ((ts.set d1 s).set d2 v').toArray df) w')
 (hc:ElemIs (Act.mk ts.toArray df) x k ce:=by (apply ElemIs.mk;(rfl);(rfl);(rfl);(simp [aE,Value.oneCell'])))
 (ht:lY P t e k (jC P e)=true:=by decide +kernel) (hby:jC P e≤1000000:=by decide +kernel) (hk16:k≤1000:=by decide) (hne:d1≠m:=by decide) (hdl:d1 < ts.length:=by first | (simp;done) | (simp;omega))
 (hB:w0.heap.size≤B:=by first | exact Nat.le_refl _ | omega) (hBw:B≤w.heap.size:=by first | exact Ext.size (by assumption) | omega) :
 wpList P ops Q (Oper.mk (some d1) (.buildSlice t 1 #[(0,x)]) ty1 ps1 af1 none :: Oper.mk (some d2) (.call ⟨.builtin .append,#[.tmp m, .tmp d1],#[t,t]⟩) ty2 ps2 af2 none :: rest) (Act.mk ts.toArray df) w:=by
 obtain ⟨hc,hce,hcs,h1⟩:=hc
 rename_i c
 have hcs':c.cells.size=k:=by rw [← Array.length_toList,hce];exact hcs
 refine rG (k:=k) (e:=e) (bytes:=jC P e) (xs:=[c]) (parts:=[(0,x)]) rfl (by simp [hc]) rfl (by simpa using hcs') ht (by simp;omega) ?_
 intro s w1 x1 _ sl _
 have e1:(ts.set d1 s).getD m undef=ts.getD m undef:=by
  simp only [List.getD_eq_getElem?_getD];rw [List.getElem?_set_ne hne]
 have ho1:=ho.ext x1
 rw [← e1] at ho1
 refine gJ (x:=s) (B:=B) (k:=k) (e:=e) (bytes:=jC P e) rfl ho1 (by rw [fW];simp [hdl]) sl ht (by simpa [hce] using h1) (Nat.le_trans hBw x1.size) ?_ ?_ ?_
 ·simp only [List.length_map,List.length_cons,List.length_nil]
  calc (es.length + (0 + 1)) * jC P e≤1000000 * 1000000:=Nat.mul_le_mul (by omega) hby
   _≤_:=by decide
 ·simp only [List.length_map,List.length_cons,List.length_nil];omega
 ·intro v' w' o' m' _
  rw [e1] at m'
  exact hk s v' w1 w' x1 m' ((ho.ext x1).mvx m' (hx.trans x1) hB) (by simpa [hce] using o')
end
section
variable {P:Program} {w:World} {a:Act} {d:Option Nat} {ty:TypeId} {ps:String} {af:Array Edge} {g:Option (Nat × Bool)}
end
section
variable {P:Program} {ops:Array Oper} {Q:Exit→Act→World→Prop} {w:World} {rest:List Oper} {ts:List Value} {df:List Deferred} {ty:TypeId} {ps:String} {af:Array Edge}
end
section
variable {P:Program} {ops:Array Oper} {Q:Exit→Act→World→Prop} {w:World} {rest:List Oper} {ts:List Value} {df:List Deferred} {ty:TypeId} {ps:String} {af:Array Edge}
theorem bW {t e k B d:Nat} {x0 y:Operand} {v0 x:Value} {es fs:List (List Value)} (h0:(Act.mk ts.toArray df).eval x0=v0)
 (h:Own B k e w v0 es) (hy:(Act.mk ts.toArray df).eval y=x) (hx:Sl k w x fs) (h1:∀ f ∈ fs,∀ u ∈ f,u.oneCell'=true)
 (hB:B≤w.heap.size) (hm:es.length + fs.length≤1000000)
 (hk:∀ v' w',Own B k e w' v' (es ++ fs)→Mv v0.ownBlock w w'→(v'.ownBlock=v0.ownBlock∨v'.ownBlock=some w.heap.size)→wpList P ops Q rest (Act.mk (ts.set d v').toArray df) w')
 (ht:lY P t e k (jC P e)=true:=by decide +kernel) (hby:jC P e≤1000000:=by decide +kernel) :
 wpList P ops Q (Oper.mk (some d) (.call ⟨.builtin .append,#[x0,y],#[t,t]⟩) ty ps af none :: rest) (Act.mk ts.toArray df) w:=by
 have hb:(es.length + fs.length) * jC P e≤140737488355328 :=
  calc (es.length + fs.length) * jC P e≤1000000 * 1000000:=Nat.mul_le_mul hm hby
   _≤_:=by decide
 obtain ⟨v',w',hr,ho,hmv,hkin⟩:=vV (ty:=ty) ht h hx h1 hB hb (by omega)
 refine mU rfl ?_ (hk v' w' ho hmv hkin)
 simp [execOp,resolve,invoke,builtin,h0,hy,hr]
end
section
variable {P:Program} {Q:Exit→Act→World→Prop} {S:World→Prop} {l:List Oper} {fuel:Nat} {listed:List Bool} {w:World}
end
theorem tP {k:Nat}:∀ (es:List (List Value)) (i:Nat),(∀ x ∈ es,x.length=k)→(es.take i).flatten=es.flatten.take (i * k)
 | [],i,_=>by simp
 | x :: es,0,_=>by simp
 | x :: es,i + 1,h=>by
   have hx:=h x (by simp)
   have ih:=tP es i (fun y hy=>h y (by simp [hy]))
   rw [List.take_succ_cons,List.flatten_cons,List.flatten_cons,ih,show (i + 1) * k=x.length + i * k by rw [hx,Nat.add_mul];omega,List.take_length_add_append]
theorem oY {k:Nat}:∀ (es:List (List Value)) (i:Nat),(∀ x ∈ es,x.length=k)→(es.drop i).flatten=es.flatten.drop (i * k)
 | [],i,_=>by simp
 | x :: es,0,_=>by simp
 | x :: es,i + 1,h=>by
   have hx:=h x (by simp)
   have ih:=oY es i (fun y hy=>h y (by simp [hy]))
   rw [List.drop_succ_cons,List.flatten_cons,ih,show (i + 1) * k=x.length + i * k by rw [hx,Nat.add_mul];omega,List.drop_length_add_append]
theorem MN {α:Type} (c F:List α) (a n:Nat) (h:a + F.length≤n) (hn:n≤c.length):(c.take a ++ F ++ c.drop (a + F.length)).take n=(c.take n).take a ++ F ++ (c.take n).drop (a + F.length):=by
 have hA:(c.take a ++ F).length=a + F.length:=by simp;omega
 rw [List.take_append,hA,List.take_of_length_le (by omega),List.take_take,Nat.min_eq_left (by omega),List.drop_take]
theorem GD {α:Type} {z:List α} (hz:0 < z.length):∀ (n i:Nat),i < n * z.length→(List.replicate n z).flatten[i]? = some (z[i % z.length]'(Nat.mod_lt _ hz))
 | 0,i,h=>by simp at h
 | n + 1,i,h=>by
   rw [List.replicate_succ,List.flatten_cons,List.getElem?_append]
   split
   ·rename_i hi
    rw [List.getElem?_eq_getElem hi]
    simp only [Nat.mod_eq_of_lt hi]
   ·rename_i hi
    have hge:z.length≤i:=by omega
    rw [GD hz n (i - z.length) (by rw [Nat.add_mul] at h;omega)]
    have:(i - z.length) % z.length=i % z.length:=by rw [← Nat.mod_eq_sub_mod hge]
    simp only [this]
theorem Own.over {B k e g cap i:Nat} {w:World} {es fs:List (List Value)} (h:Own B k e w (.slice (some ⟨g,0,none⟩) es.length cap) es) (hi:i + fs.length≤es.length) (hf:∀ f ∈ fs,f.length=k) :
 ∃ cur fz,w.heap[g]? = some (.cells cur e fz)∧(fz.2≤fz.1∨cur.size≤fz.1)∧es.length≤cap∧i * k + fs.flatten.length≤es.length * k∧es.length * k≤cur.size ∧
   Own B k e (w.setRow g (cur.toList.take (i * k) ++ fs.flatten ++ cur.toList.drop (i * k + fs.flatten.length)).toArray) (.slice (some ⟨g,0,none⟩) es.length cap) (es.take i ++ fs ++ es.drop (i + fs.length)) ∧
   Mv (some g) w (w.setRow g (cur.toList.take (i * k) ++ fs.flatten ++ cur.toList.drop (i * k + fs.flatten.length)).toArray):=by
 rcases h.row.2 with ⟨h0,_⟩ | ⟨g',cap',cur,fz,hv,hb,hg,hfz,hnc,hcm,hcs,htake⟩
 ·cases h0
 ·simp only [Value.slice.injEq,Option.some.injEq,Addr.mk.injEq,and_true,true_and] at hv
  obtain ⟨rfl,rfl⟩:=hv
  have hall:=h.each
  have hfl:=aZ hf
  have hil:i * k + fs.length * k≤es.length * k:=by rw [← Nat.add_mul];exact Nat.mul_le_mul_right k hi
  have hck:es.length * k≤cap * k:=Nat.mul_le_mul_right k hnc
  have hlen:(es.take i ++ fs ++ es.drop (i + fs.length)).length=es.length:=by simp;omega
  have hall2:∀ x ∈ es.take i ++ fs ++ es.drop (i + fs.length),x.length=k:=by
   intro x hx
   rcases List.mem_append.1 hx with hx | hx
   ·rcases List.mem_append.1 hx with hx | hx
    ·exact hall x (List.mem_of_mem_take hx)
    ·exact hf x hx
   ·exact hall x (List.mem_of_mem_drop hx)
  have hsz:(cur.toList.take (i * k) ++ fs.flatten ++ cur.toList.drop (i * k + fs.flatten.length)).length=cur.size:=by
   rw [List.length_append,List.length_append,List.length_take,List.length_drop,Array.length_toList,hfl,hcs];omega
  refine ⟨cur,fz,hg,hfz,hnc,by rw [hfl];exact hil,by rw [hcs];exact hck,⟨⟨?_, .inr ⟨g,cap,(cur.toList.take (i * k) ++ fs.flatten ++ cur.toList.drop (i * k + fs.flatten.length)).toArray,fz,?_,hb,setRow_heap w g cur _ e _ hg,?_,?_,hcm,?_,?_⟩⟩,hall2⟩,⟨rfl,rfl,rfl,by simp,fun k _ hk=>setRow_other w g k _ (fun e=>hk (by simp [e])),Nat.le_refl _⟩⟩
  ·rw [aZ hall2]
  ·rw [hlen]
  ·rw [List.size_toArray,hsz];exact hfz
  ·rw [hlen];exact hnc
  ·rw [List.size_toArray,hsz];exact hcs
  ·rw [hlen,List.flatten_append,List.flatten_append,tP es i hall,oY es _ hall,← htake,List.toList_toArray]
   have e1:(i + fs.length) * k=i * k + fs.flatten.length:=by rw [hfl,Nat.add_mul]
   rw [e1]
   have hcl:cur.toList.length=cap * k:=by rw [← hcs];exact Array.length_toList
   exact MN _ _ _ _ (by rw [hfl];exact hil) (by rw [hcl];exact hck)
theorem GE {z:List Value} (hz:0 < z.length):∀ n,(madeCells z.toArray (n * z.length)).toList=(List.replicate n z).flatten:=by
 intro n
 apply List.ext_getElem?
 intro i
 have hl:(List.replicate n z).flatten.length=n * z.length:=by simp
 by_cases hi:i < n * z.length
 ·have h1:(madeCells z.toArray (n * z.length)).toList[i]? = some (z[i % z.length]'(Nat.mod_lt _ hz)):=by
   simp [madeCells,List.getElem?_range hi,Nat.mod_lt _ hz]
  rw [h1]
  symm
  exact GD hz n i hi
 ·rw [List.getElem?_eq_none (by simp [madeCells];omega),List.getElem?_eq_none (by rw [hl];omega)]
section
variable {P:Program} {ops:Array Oper} {Q:Exit→Act→World→Prop} {w:World} {rest:List Oper} {ts:List Value} {df:List Deferred} {ty:TypeId} {ps:String} {af:Array Edge}
end
section
variable {P:Program} {a:Act} {w:World} {d:Option Nat} {ty:TypeId} {ps:String} {af:Array Edge} {g:Option (Nat × Bool)}
theorem Runs.cutC {t:TypeId} {x lo hi:Operand} {k m n l c:Nat} {ad:Option Addr} (hx:a.eval x=.slice ad l c) (h1:a.eval lo=.int .i64 (m:Nat)) (h2:a.eval hi=.int .i64 (n:Nat)) (hmn:m≤n) (hn:n≤c) (ht:fA P t k=true) :
 Runs P (Oper.mk d (.slice t x (some lo) (some hi) none) ty ps af g) a w (.slice (if c=m then ad else ad.map (·.add (m * k))) (n - m) (c - m)):=by
 obtain ⟨e,ie,ht,hie,hz⟩:=eK ht
 constructor
 simp [execOp,hx,h1,h2,Instr.sliceAt,Instr.slice,run_underlying ht,Instr.sliceBounds,Instr.sliceBound,asIntOf,sizeOf,typeInfo,hie,hz,hmn,hn]
theorem Runs.cut3 {t:TypeId} {x lo hi mx:Operand} {k m n p l c:Nat} {ad:Option Addr} (hx:a.eval x=.slice ad l c) (h1:a.eval lo=.int .i64 (m:Nat)) (h2:a.eval hi=.int .i64 (n:Nat)) (h3:a.eval mx=.int .i64 (p:Nat)) (hmn:m≤n) (hn:n≤p) (hp:p≤c) (ht:fA P t k=true) :
 Runs P (Oper.mk d (.slice t x (some lo) (some hi) (some mx)) ty ps af g) a w (.slice (if p=m then ad else ad.map (·.add (m * k))) (n - m) (p - m)):=by
 obtain ⟨e,ie,ht,hie,hz⟩:=eK ht
 constructor
 simp [execOp,hx,h1,h2,h3,Instr.sliceAt,Instr.slice,run_underlying ht,Instr.sliceBounds,Instr.sliceBound,asIntOf,sizeOf,typeInfo,hie,hz,hmn,hn,hp]
theorem Runs.takeC {t:TypeId} {x hi:Operand} {k n l c:Nat} {ad:Option Addr} (hx:a.eval x=.slice ad l c) (h2:a.eval hi=.int .i64 (n:Nat)) (hn:n≤c) (ht:fA P t k=true) :
 Runs P (Oper.mk d (.slice t x none (some hi) none) ty ps af g) a w (.slice (if c=0 then ad else ad.map (·.add (0 * k))) (n - 0) (c - 0)):=by
 obtain ⟨e,ie,ht,hie,hz⟩:=eK ht
 constructor
 simp [execOp,hx,h2,Instr.sliceAt,Instr.slice,run_underlying ht,Instr.sliceBounds,Instr.sliceBound,asIntOf,sizeOf,typeInfo,hie,hz,hn]
end
theorem Sl.news {k n cap:Nat} {w:World} {a:Addr} {fs:List (List Value)} (hx:Sl k w (.slice (some a) n cap) fs) (hk:0 < k):∀ j u,fs.flatten[j]? = some u→w.cell? (a.add j)=some u:=by
 obtain ⟨ad,cap',he,h2,h3,h4,h5,h6⟩:=hx
 cases he
 intro j u hj
 by_cases hne:fs=[]
 ·subst hne;simp at hj
 ·obtain ⟨b,o,he,hc⟩:=h6 hne
  cases he
  have hlen:=aZ h4
  have hjl:j < fs.length * k:=by rw [← hlen];exact (List.getElem?_eq_some_iff.1 hj).1
  have hdm:j=(j / k) * k + j % k:=by rw [Nat.mul_comm];exact (Nat.div_add_mod j k).symm
  have hlt:j / k < fs.length:=Nat.div_lt_of_lt_mul (by rw [Nat.mul_comm];exact hjl)
  have hml:j % k < (fs[j / k]).length:=by rw [h4 _ (List.getElem_mem hlt)];exact Nat.mod_lt _ hk
  have hf:=jV h4 (i:=j / k) (e:=fs[j / k]) (j:=j % k) (x:=(fs[j / k])[j % k]) (List.getElem?_eq_getElem hlt) (List.getElem?_eq_getElem hml)
  rw [← hdm,hj] at hf
  have:=hc (j / k) fs[j / k] (j % k) u (List.getElem?_eq_getElem hlt) (by rw [List.getElem?_eq_getElem hml];exact hf.symm)
  rw [cX]
  rw [Nat.add_assoc,← hdm] at this
  exact this
section
variable {P:Program} {ops:Array Oper} {Q:Exit→Act→World→Prop} {w:World} {rest:List Oper} {ts:List Value} {df:List Deferred} {ty:TypeId} {ps:String} {af:Array Edge}
theorem GF {t e k B g cap i j d:Nat} {x y:Operand} {es:List (List Value)} (hw:Own B k e w (.slice (some ⟨g,0,none⟩) es.length cap) es)
 (hx:(Act.mk ts.toArray df).eval x=.slice (some ⟨g,0,none⟩) i cap) {ad:Addr} {c:Nat} (hy:(Act.mk ts.toArray df).eval y=.slice (some ad) (es.length - j) c) (hs:Sl k w (.slice (some ad) (es.length - j) c) (es.drop j)) (hij:i≤j) (hj:j≤es.length) (h1:∀ f ∈ es,∀ u ∈ f,u.oneCell'=true)
 (h:∀ w',Own B k e w' (.slice (some ⟨g,0,none⟩) es.length cap) (es.take i ++ es.drop j ++ es.drop (i + (es.length - j)))→Mv (some g) w w'→wpList P ops Q rest (Act.mk (ts.set d (.slice (some ⟨g,0,none⟩) (i + (es.length - j)) cap)).toArray df) w')
 (ht:lY P t e k (jC P e)=true:=by decide +kernel) :
 wpList P ops Q (Oper.mk (some d) (.call ⟨.builtin .append,#[x,y],#[t,t]⟩) ty ps af none :: rest) (Act.mk ts.toArray df) w:=by
 obtain ⟨hu,inf,z',hi,hzi,hzc,hsz,hb,hk⟩:=jW ht
 have hfl:(es.drop j).length=es.length - j:=by simp
 have hall:∀ f ∈ es.drop j,f.length=k:=fun f hf=>hw.each f (List.mem_of_mem_drop hf)
 obtain ⟨cur,fz,hg,hfz,hnc,h3,h4,ho,hm⟩:=hw.over (i:=i) (fs:=es.drop j) (by rw [hfl];omega) hall
 have hfl2:=aZ hall
 have hr:=nU (P:=P) w t ty e inf hu hi g i cap cur fz hg hfz ad (es.length - j) c (es.drop j).flatten (by rw [hfl2,hfl,hsz]) (hs.news hk)
  (fun u hu'=>by obtain ⟨f,hf,hfu⟩:=List.mem_flatten.1 hu';exact h1 f (List.mem_of_mem_drop hf) u hfu) (by omega) (by rw [hsz];omega)
 rw [hsz] at hr
 rw [hfl] at ho
 refine mU rfl ?_ (h _ ho hm)
 simp [execOp,resolve,invoke,builtin,hx,hy,hr]
theorem yU {t e k B g cap m:Nat} {a:Act} {y:Operand} {z:List Value} {c:Nat} {es:List (List Value)} (hw:Own B k e w (.slice (some ⟨g,0,none⟩) es.length cap) es)
 (hy:a.eval y=.slice (some ⟨g,m * k,none⟩) (es.length - m) c) (hm:m < es.length)
 (h:∀ w',Own B k e w' (.slice (some ⟨g,0,none⟩) m cap) (es.take m)→Mv (some g) w w'→wpList P ops Q rest a w')
 (ht:lY P t e k (jC P e)=true:=by decide +kernel) (hz:yB P e z=true:=by decide +kernel) (hzl:z.length=k:=by rfl) (h1:∀ u ∈ z,u.oneCell'=true:=by decide +kernel) :
 wpList P ops Q (Oper.mk none (.call ⟨.builtin .clear,#[y],#[t]⟩) ty ps af none :: rest) a w:=by
 obtain ⟨hu,inf,z',hi,hzi,hzc,hsz,hb,hk⟩:=jW ht
 obtain ⟨i2,v2,hi2,hz2,hc2⟩:=vT hz
 rw [hi] at hi2;cases hi2
 rw [hzi] at hz2;cases hz2
 have hall:∀ f ∈ List.replicate (es.length - m) z,f.length=k:=by intro f hf;rw [List.eq_of_mem_replicate hf];exact hzl
 obtain ⟨cur,fz,hg,hfz,hnc,h3,h4,ho,hmv⟩:=hw.over (i:=m) (fs:=List.replicate (es.length - m) z) (by simp;omega) hall
 have hcells:(Builtin.zeroCells z.toArray (es.length - m)).toList=(List.replicate (es.length - m) z).flatten:=by
  have:=GE (z:=z) (by omega) (es.length - m)
  rw [← this]
  simp [Builtin.zeroCells,madeCells]
 have hst:=eB P g (m * k) e fz (List.replicate (es.length - m) z).flatten 0 cur w hg hfz (by omega) (by
  intro u hu'
  obtain ⟨f,hf,hfu⟩:=List.mem_flatten.1 hu'
  rw [List.eq_of_mem_replicate hf] at hfu
  exact h1 u hfu)
 simp only [Nat.add_zero] at hst
 obtain ⟨n',hn'⟩:∃ n',es.length - m=n' + 1:=⟨es.length - m - 1,by omega⟩
 have hr:(Builtin.clear_ #[t] ty #[.slice (some ⟨g,m * k,none⟩) (es.length - m) c]).run P w=.ok (.tuple #[]) (w.setRow g (cur.toList.take (m * k) ++ (List.replicate (es.length - m) z).flatten ++ cur.toList.drop (m * k + (List.replicate (es.length - m) z).flatten.length)).toArray):=by
  rw [hn'] at hcells hst ⊢
  simp [Builtin.clear_,run_underlying hu,zeroValue,typeInfo,hi,hzi,hc2,hcells,hst]
 have htk:(es.take m ++ List.replicate (es.length - m) z ++ es.drop (m + (List.replicate (es.length - m) z).length)).take m=es.take m:=by
  rw [List.append_assoc,List.take_append_of_le_length (by simp;omega),List.take_take,Nat.min_self]
 have hs:=ho.short (m:=m) (by simp;omega)
 rw [htk] at hs
 refine wpList_plain rfl fun K hK => ?_
 unfold Oper.wp execOp
 simp only [resolve,invoke,builtin,Sem.run_bind,Sem.run_pure,Result.andThen_ok,List.map_toArray,List.map_cons,List.map_nil,hy,hr]
 exact hK _ _ (h _ hs hmv)
end
theorem WL {G A:Prop} (hA:A) (e:Hid A→G:=by (intro kA;(repeat' first | ((with_reducible refine bH ?_);go_step) | ((with_reducible refine aV ?_);refine fD ?_) | fail);(with_reducible exact kA.out))):G:=e ⟨hA⟩
theorem uV {G A:Prop} (hA:A) (e:Hid A→G:=by (intro kA;(try ((with_reducible refine DX ?_);refine TR ?_));(with_reducible exact kA.out))):G:=e ⟨hA⟩
theorem WM {G A:Prop} (hA:A) (e:Hid A→G:=by (intro kA;(repeat' (first | ((with_reducible refine bH ?_);go_step) | fail));(with_reducible exact kA.out))):G:=e ⟨hA⟩
theorem mO {G A:Prop} (hA:A) (e:Hid A→G:=by (intro kA;(repeat' (first | ((with_reducible refine bH ?_);go_step) | fail));(rename_i z0 z1;revert z0 z1;with_reducible exact kA.out))):G:=e ⟨hA⟩
theorem rW {G A:Prop} (hA:A) (e:Hid A→G:=by (intro kA;(repeat' (first | ((with_reducible refine bH ?_);go_step) | fail));(rename_i z0 z1 z2;revert z0 z1 z2;with_reducible exact kA.out))):G:=e ⟨hA⟩
theorem cL {G A:Prop} (hA:A) (e:Hid A→G:=by (intro kA;(repeat' first | ((with_reducible refine bH ?_);go_step) | ((with_reducible refine aV ?_);first | refine fD ?_ | (refine bO ?_ ?_ <;> intro _)) | fail);(with_reducible exact kA.out))):G:=e ⟨hA⟩
theorem xQ {G A:Prop} (hA:A) (e:Hid A→G:=by (intro kA;(repeat' first | ((with_reducible refine bH ?_);go_step) | ((with_reducible refine aV ?_);first | refine fD ?_ | (refine bO ?_ ?_ <;> intro _)) | fail);(rename_i z0;revert z0;with_reducible exact kA.out))):G:=e ⟨hA⟩
theorem JA {G A B:Prop} (hB:B) (hA:A) (e:Hid A→Hid B→G:=by (intro kA kB;(repeat' first | ((with_reducible refine bH ?_);go_step) | ((with_reducible refine aV ?_);first | refine fD ?_ | (refine bO ?_ ?_ <;> intro _)) | fail);(rename_i z0;revert z0;with_reducible exact kA.out);(rename_i z0;revert z0;with_reducible exact kB.out))):G:=e ⟨hA⟩ ⟨hB⟩
theorem PG {G A B:Prop} (hB:B) (hA:A) (e:Hid A→Hid B→G:=by (intro kA kB;(repeat' first | ((with_reducible refine bH ?_);go_step) | ((with_reducible refine aV ?_);first | refine fD ?_ | (refine bO ?_ ?_ <;> intro _)) | fail);(rename_i z0;revert z0;with_reducible exact kA.out);(rename_i z0 z1 z2;revert z0 z1 z2;with_reducible exact kB.out))):G:=e ⟨hA⟩ ⟨hB⟩
theorem WN {G A B C:Prop} (hB:B) (hC:C) (hA:A) (e:Hid A→Hid B→Hid C→G:=by (intro kA kB kC;(repeat' first | ((with_reducible refine bH ?_);go_step) | ((with_reducible refine aV ?_);first | refine fD ?_ | (refine bO ?_ ?_ <;> intro _)) | fail);(rename_i z0;revert z0;with_reducible exact kA.out);(rename_i z0 z1 z2 z3;revert z0 z1 z2 z3;with_reducible exact kB.out);(rename_i z0 z1;revert z0 z1;with_reducible exact kC.out))):G:=e ⟨hA⟩ ⟨hB⟩ ⟨hC⟩
theorem fM {G A:Prop} (hA:A) (e:Hid A→G:=by (intro kA;(repeat' first | ((with_reducible refine bH ?_);go_step) | ((with_reducible refine aV ?_);first | refine fD ?_ | (refine bO ?_ ?_ <;> intro _)) | fail);(rename_i z0 z1;revert z0 z1;with_reducible exact kA.out))):G:=e ⟨hA⟩
theorem WO {G A B C:Prop} (hB:B) (hC:C) (hA:A) (e:Hid A→Hid B→Hid C→G:=by (intro kA kB kC;(repeat' first | ((with_reducible refine bH ?_);go_step) | ((with_reducible refine aV ?_);first | refine fD ?_ | (refine bO ?_ ?_ <;> intro _)) | fail);(rename_i z0 z1;revert z0 z1;with_reducible exact kA.out);(rename_i z0 z1;revert z0 z1;with_reducible exact kB.out);(rename_i z0;revert z0;with_reducible exact kC.out))):G:=e ⟨hA⟩ ⟨hB⟩ ⟨hC⟩
theorem KW {G A:Prop} (hA:A) (e:Hid A→G:=by (intro kA;(repeat' first | ((with_reducible refine bH ?_);go_step) | ((with_reducible refine aV ?_);first | refine fD ?_ | (refine bO ?_ ?_ <;> intro _)) | fail);(rename_i z0 z1 z2;revert z0 z1 z2;with_reducible exact kA.out))):G:=e ⟨hA⟩
theorem PH {G A B:Prop} (hB:B) (hA:A) (e:Hid A→Hid B→G:=by (intro kA kB;(repeat' first | ((with_reducible refine bH ?_);go_step) | ((with_reducible refine aV ?_);first | refine fD ?_ | (refine bO ?_ ?_ <;> intro _)) | fail);(rename_i z0 z1 z2;revert z0 z1 z2;with_reducible exact kA.out);(rename_i z0;revert z0;with_reducible exact kB.out))):G:=e ⟨hA⟩ ⟨hB⟩
theorem AZ {G A:Prop} (hA:A) (e:Hid A→G:=by (intro kA;(repeat' first | ((with_reducible refine bH ?_);go_step) | ((with_reducible refine aV ?_);first | refine fD ?_ | (refine bO ?_ ?_ <;> intro _)) | fail);(rename_i z0 z1 z2 z3;revert z0 z1 z2 z3;with_reducible exact kA.out))):G:=e ⟨hA⟩
theorem TW {G A B:Prop} (hB:B) (hA:A) (e:Hid A→Hid B→G:=by (intro kA kB;(repeat' first | ((with_reducible refine bH ?_);go_step) | ((with_reducible refine aV ?_);first | refine fD ?_ | (refine bO ?_ ?_ <;> intro _)) | fail);(rename_i z0 z1 z2 z3;revert z0 z1 z2 z3;with_reducible exact kA.out);(rename_i z0 z1;revert z0 z1;with_reducible exact kB.out))):G:=e ⟨hA⟩ ⟨hB⟩
theorem WP {G A B C:Prop} (hB:B) (hC:C) (hA:A) (e:Hid A→Hid B→Hid C→G:=by (intro kA kB kC;(repeat' first | ((with_reducible refine bH ?_);go_step) | ((with_reducible refine aV ?_);first | refine fD ?_ | (refine bO ?_ ?_ <;> intro _)) | fail);(rename_i z0 z1 z2 z3;revert z0 z1 z2 z3;with_reducible exact kA.out);(rename_i z0 z1;revert z0 z1;with_reducible exact kB.out);(rename_i z0;revert z0;with_reducible exact kC.out))):G:=e ⟨hA⟩ ⟨hB⟩ ⟨hC⟩
theorem Dg {G A:Prop} (hA:A) (e:Hid A→G:=by (intro kA;(repeat' first | ((with_reducible refine bH ?_);go_step) | ((with_reducible refine aV ?_);first | refine fD ?_ | (refine bO ?_ ?_ <;> intro _)) | fail);(rename_i z0 z1 z2 z3 z4;revert z0 z1 z2 z3 z4;with_reducible exact kA.out))):G:=e ⟨hA⟩
theorem Dp {G A B:Prop} (hB:B) (hA:A) (e:Hid A→Hid B→G:=by (intro kA kB;(repeat' first | ((with_reducible refine bH ?_);go_step) | ((with_reducible refine aV ?_);first | refine fD ?_ | (refine bO ?_ ?_ <;> intro _)) | fail);(rename_i z0 z1 z2 z3 z4;revert z0 z1 z2 z3 z4;with_reducible exact kA.out);(rename_i z0 z1 z2;revert z0 z1 z2;with_reducible exact kB.out))):G:=e ⟨hA⟩ ⟨hB⟩
theorem IR {G A:Prop} (hA:A) (e:Hid A→G:=by (intro kA;(repeat' first | ((with_reducible refine bH ?_);go_step) | ((with_reducible refine aV ?_);first | refine fD ?_ | (refine bO ?_ ?_ <;> intro _)) | fail);(rename_i z0 z1 z2 z3 z4 z5;revert z0 z1 z2 z3 z4 z5;with_reducible exact kA.out))):G:=e ⟨hA⟩
theorem aR {G A:Prop} (hA:A) (e:Hid A→G:=by (intro kA;(repeat' first | ((with_reducible refine bH ?_);go_step) | ((with_reducible refine aV ?_);first | refine dR ?_ | (refine bO ?_ ?_ <;> intro _)) | fail);(with_reducible exact kA.out))):G:=e ⟨hA⟩
theorem iX {G A:Prop} (hA:A) (e:Hid A→G:=by (intro kA;(repeat' first | ((with_reducible refine bH ?_);go_step) | ((with_reducible refine aV ?_);first | refine dR ?_ | (refine bO ?_ ?_ <;> intro _)) | fail);(rename_i z0;revert z0;with_reducible exact kA.out))):G:=e ⟨hA⟩
theorem jD {G A B:Prop} (hB:B) (hA:A) (e:Hid A→Hid B→G:=by (intro kA kB;(repeat' first | ((with_reducible refine bH ?_);go_step) | ((with_reducible refine aV ?_);first | refine dR ?_ | (refine bO ?_ ?_ <;> intro _)) | fail);(rename_i z0;revert z0;with_reducible exact kA.out);(rename_i z0;revert z0;with_reducible exact kB.out))):G:=e ⟨hA⟩ ⟨hB⟩
theorem YH {G A B:Prop} (hB:B) (hA:A) (e:Hid A→Hid B→G:=by (intro kA kB;(repeat' first | ((with_reducible refine bH ?_);go_step) | ((with_reducible refine aV ?_);first | refine dR ?_ | (refine bO ?_ ?_ <;> intro _)) | fail);(rename_i z0;revert z0;with_reducible exact kA.out);(rename_i z0 z1 z2;revert z0 z1 z2;with_reducible exact kB.out))):G:=e ⟨hA⟩ ⟨hB⟩
theorem PI {G A B C:Prop} (hB:B) (hC:C) (hA:A) (e:Hid A→Hid B→Hid C→G:=by (intro kA kB kC;(repeat' first | ((with_reducible refine bH ?_);go_step) | ((with_reducible refine aV ?_);first | refine dR ?_ | (refine bO ?_ ?_ <;> intro _)) | fail);(rename_i z0;revert z0;with_reducible exact kA.out);(rename_i z0 z1 z2 z3;revert z0 z1 z2 z3;with_reducible exact kB.out);(rename_i z0 z1 z2 z3;revert z0 z1 z2 z3;with_reducible exact kC.out))):G:=e ⟨hA⟩ ⟨hB⟩ ⟨hC⟩
theorem bK {G A:Prop} (hA:A) (e:Hid A→G:=by (intro kA;(repeat' first | ((with_reducible refine bH ?_);go_step) | ((with_reducible refine aV ?_);first | refine dR ?_ | (refine bO ?_ ?_ <;> intro _)) | fail);(rename_i z0 z1;revert z0 z1;with_reducible exact kA.out))):G:=e ⟨hA⟩
theorem YI {G A B:Prop} (hB:B) (hA:A) (e:Hid A→Hid B→G:=by (intro kA kB;(repeat' first | ((with_reducible refine bH ?_);go_step) | ((with_reducible refine aV ?_);first | refine dR ?_ | (refine bO ?_ ?_ <;> intro _)) | fail);(rename_i z0 z1;revert z0 z1;with_reducible exact kA.out);(rename_i z0;revert z0;with_reducible exact kB.out))):G:=e ⟨hA⟩ ⟨hB⟩
theorem lI {G A:Prop} (hA:A) (e:Hid A→G:=by (intro kA;(repeat' first | ((with_reducible refine bH ?_);go_step) | ((with_reducible refine aV ?_);first | refine dR ?_ | (refine bO ?_ ?_ <;> intro _)) | fail);(rename_i z0 z1 z2;revert z0 z1 z2;with_reducible exact kA.out))):G:=e ⟨hA⟩
theorem GG {G A B:Prop} (hB:B) (hA:A) (e:Hid A→Hid B→G:=by (intro kA kB;(repeat' first | ((with_reducible refine bH ?_);go_step) | ((with_reducible refine aV ?_);first | refine dR ?_ | (refine bO ?_ ?_ <;> intro _)) | fail);(rename_i z0 z1 z2;revert z0 z1 z2;with_reducible exact kA.out);(rename_i z0;revert z0;with_reducible exact kB.out))):G:=e ⟨hA⟩ ⟨hB⟩
theorem DZ {G A B:Prop} (hB:B) (hA:A) (e:Hid A→Hid B→G:=by (intro kA kB;(repeat' first | ((with_reducible refine bH ?_);go_step) | ((with_reducible refine aV ?_);first | refine dR ?_ | (refine bO ?_ ?_ <;> intro _)) | fail);(rename_i z0 z1 z2;revert z0 z1 z2;with_reducible exact kA.out);(rename_i z0 z1 z2;revert z0 z1 z2;with_reducible exact kB.out))):G:=e ⟨hA⟩ ⟨hB⟩
theorem JB {G A B C D:Prop} (hB:B) (hC:C) (hD:D) (hA:A) (e:Hid A→Hid B→Hid C→Hid D→G:=by (intro kA kB kC kD;(repeat' first | ((with_reducible refine bH ?_);go_step) | ((with_reducible refine aV ?_);first | refine dR ?_ | (refine bO ?_ ?_ <;> intro _)) | fail);(rename_i z0 z1 z2;revert z0 z1 z2;with_reducible exact kA.out);(rename_i z0 z1 z2 z3;revert z0 z1 z2 z3;with_reducible exact kB.out);(rename_i z0 z1 z2 z3 z4;revert z0 z1 z2 z3 z4;with_reducible exact kC.out);(rename_i z0 z1 z2 z3 z4;revert z0 z1 z2 z3 z4;with_reducible exact kD.out))):G:=e ⟨hA⟩ ⟨hB⟩ ⟨hC⟩ ⟨hD⟩
theorem mP {G A:Prop} (hA:A) (e:Hid A→G:=by (intro kA;(repeat' first | ((with_reducible refine bH ?_);go_step) | ((with_reducible refine aV ?_);first | refine dR ?_ | (refine bO ?_ ?_ <;> intro _)) | fail);(rename_i z0 z1 z2 z3;revert z0 z1 z2 z3;with_reducible exact kA.out))):G:=e ⟨hA⟩
theorem WQ {G A B C:Prop} (hB:B) (hC:C) (hA:A) (e:Hid A→Hid B→Hid C→G:=by (intro kA kB kC;(repeat' first | ((with_reducible refine bH ?_);go_step) | ((with_reducible refine aV ?_);first | refine dR ?_ | (refine bO ?_ ?_ <;> intro _)) | fail);(rename_i z0 z1 z2 z3;revert z0 z1 z2 z3;with_reducible exact kA.out);(rename_i z0 z1;revert z0 z1;with_reducible exact kB.out);(rename_i z0;revert z0;with_reducible exact kC.out))):G:=e ⟨hA⟩ ⟨hB⟩ ⟨hC⟩
theorem EA {G A:Prop} (hA:A) (e:Hid A→G:=by (intro kA;(repeat' first | ((with_reducible refine bH ?_);go_step) | ((with_reducible refine aV ?_);first | refine dR ?_ | (refine bO ?_ ?_ <;> intro _)) | fail);(rename_i z0 z1 z2 z3 z4;revert z0 z1 z2 z3 z4;with_reducible exact kA.out))):G:=e ⟨hA⟩
theorem YJ {G A B:Prop} (hB:B) (hA:A) (e:Hid A→Hid B→G:=by (intro kA kB;(repeat' first | ((with_reducible refine bH ?_);go_step) | ((with_reducible refine aV ?_);first | refine dR ?_ | (refine bO ?_ ?_ <;> intro _)) | fail);(rename_i z0 z1 z2 z3 z4;revert z0 z1 z2 z3 z4;with_reducible exact kA.out);(rename_i z0 z1 z2;revert z0 z1 z2;with_reducible exact kB.out))):G:=e ⟨hA⟩ ⟨hB⟩
theorem rS {G A:Prop} (hA:A) (e:Hid A→G:=by (intro kA;(repeat' first | ((with_reducible refine bH ?_);go_step) | ((with_reducible refine aV ?_);first | refine dR ?_ | (refine bO ?_ ?_ <;> intro _)) | fail);(rename_i z0 z1 z2 z3 z4 z5;revert z0 z1 z2 z3 z4 z5;with_reducible exact kA.out))):G:=e ⟨hA⟩
theorem Bd {G A B:Prop} (hB:B) (hA:A) (e:Hid A→Hid B→G:=by (intro kA kB;(repeat' first | ((with_reducible refine bH ?_);go_step) | ((with_reducible refine aV ?_);first | refine dR ?_ | (refine bO ?_ ?_ <;> intro _)) | fail);(rename_i z0 z1 z2 z3 z4 z5;revert z0 z1 z2 z3 z4 z5;with_reducible exact kA.out);(rename_i z0 z1 z2 z3 z4;revert z0 z1 z2 z3 z4;with_reducible exact kB.out))):G:=e ⟨hA⟩ ⟨hB⟩
theorem Dq {G A:Prop} (hA:A) (e:Hid A→G:=by (intro kA;(repeat' first | ((with_reducible refine bH ?_);go_step) | ((with_reducible refine aV ?_);first | refine dR ?_ | (refine bO ?_ ?_ <;> intro _)) | fail);(rename_i z0 z1 z2 z3 z4 z5 z6;revert z0 z1 z2 z3 z4 z5 z6;with_reducible exact kA.out))):G:=e ⟨hA⟩
end Go.Proofs.X
