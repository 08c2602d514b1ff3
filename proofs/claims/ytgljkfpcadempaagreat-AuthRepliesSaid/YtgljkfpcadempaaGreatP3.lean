/- Laws and walks that the proof of the statement is made of (part 3). -/
import Derived.Test.YtgljkfpcadempaaGreatP2
namespace Go.Proofs.X
open Go
def JK:Nat→List UInt8→Option (List (List UInt8))
 | _,[]=>some []
 | 0,_ :: _=>none
 | f + 1,k :: t=>if k.toNat < 1∨63 < k.toNat∨t.length < k.toNat then none else (JK f (t.drop k.toNat)).map (t.take k.toNat :: ·)
theorem tN:∀ (f:Nat) (l:List UInt8),l.length≤f→JK f l=JK l.length l
 | 0,[],_=>rfl
 | f + 1,[],_=>rfl
 | f + 1,k :: t,h=>by
   simp only [List.length_cons] at h ⊢
   unfold JK
   split
   ·rfl
   ·rw [tN f (t.drop k.toNat) (by simp;omega),tN t.length (t.drop k.toNat) (by simp)]
def gT (l:List UInt8):Option (List (List UInt8)):=JK l.length l
theorem tO:gT []=some []:=rfl
theorem lD (k:UInt8) (t:List UInt8):gT (k :: t)=if k.toNat < 1∨63 < k.toNat∨t.length < k.toNat then none else (gT (t.drop k.toNat)).map (t.take k.toNat :: ·):=by
 unfold gT
 simp only [List.length_cons]
 rw [JK]
 split
 ·rfl
 ·rw [tN t.length (t.drop k.toNat) (by simp)]
def aV (n:List UInt8):Option (List (List UInt8)):=if 254 < n.length then none else gT n
def tP (b:UInt8):UInt8:=if 65≤b.toNat∧b.toNat≤90 then b + 32 else b
def low (l:List UInt8):List UInt8:=l.map tP
def enc (ls:List (List UInt8)):List UInt8:=(ls.map fun x=>UInt8.ofNat x.length :: x).flatten
def iI (x:List UInt8):Bool:=decide (1≤x.length) && decide (x.length≤63)
def jG (ls:List (List UInt8)):Option (List UInt8):=if ls.all iI=true∧(enc ls).length≤254 then some (enc ls) else none
def fold (n:List UInt8):List UInt8:=match aV n with | none=>n | some ls=>(jG (ls.map low)).getD []
def mD (l:List UInt8) (k:Nat):List UInt8:=low (l.take k) ++ l.drop k
theorem oV (l:List UInt8) (k:Nat):(mD l k).length=l.length:=by simp [mD,low];omega
theorem AF (l:List UInt8):mD l 0=l:=by simp [mD,low]
theorem DS (l:List UInt8):mD l l.length=low l:=by simp [mD]
theorem wY (l:List UInt8) (k:Nat) (h:k < l.length):(mD l k)[k]? = some l[k]:=by
 have hm:(low (l.take k)).length=k:=by simp [low];omega
 rw [mD,List.getElem?_append_right (by omega),hm]
 simp [h]
theorem tQ (l:List UInt8) (k:Nat) (h:k < l.length):mD l (k + 1)=(mD l k).set k (tP l[k]):=by
 have hm:(low (l.take k)).length=k:=by simp [low];omega
 have h1:l.take (k + 1)=l.take k ++ [l[k]]:=by rw [List.take_add_one,List.getElem?_eq_getElem h];rfl
 have h2:l.drop k=l[k] :: l.drop (k + 1):=List.drop_eq_getElem_cons h
 unfold mD
 rw [List.set_append_right _ _ (by omega),hm,h2,h1,Nat.sub_self,List.set_cons_zero]
 simp only [low,List.map_append,List.map_cons,List.map_nil,List.append_assoc,List.singleton_append]
theorem tR (l:List UInt8) (k:Nat) (h:k < l.length) (hs:tP l[k]=l[k]):mD l (k + 1)=mD l k:=by
 rw [tQ l k h,hs]
 apply List.ext_getElem?
 intro j
 by_cases hj:k=j
 ·subst hj;rw [List.getElem?_set_self (by rw [oV];exact h),wY l k h]
 ·rw [List.getElem?_set_ne hj]
theorem BZ {b:UInt8} (h:¬ (65≤b.toNat∧b.toNat≤90)):tP b=b:=by rw [tP,if_neg h]
def rI {α:Type} (f:α→α) (l:List α) (k:Nat):List α:=(l.take k).map f ++ l.drop k
theorem uQ {α:Type} (f:α→α) (l:List α) (k:Nat):(rI f l k).length=l.length:=by simp [rI];omega
theorem AG {α:Type} (f:α→α) (l:List α):rI f l 0=l:=by simp [rI]
theorem DT {α:Type} (f:α→α) (l:List α):rI f l l.length=l.map f:=by simp [rI]
theorem DU {α:Type} (f:α→α) (l:List α) (k:Nat) (h:k < l.length):(rI f l k)[k]? = some l[k]:=by
 have hm:((l.take k).map f).length=k:=by simp;omega
 rw [rI,List.getElem?_append_right (by omega),hm]
 simp [h]
theorem AH {α:Type} (f:α→α) (l:List α) (k:Nat) (h:k < l.length):rI f l (k + 1)=(rI f l k).set k (f l[k]):=by
 have hm:((l.take k).map f).length=k:=by simp;omega
 have h1:l.take (k + 1)=l.take k ++ [l[k]]:=by rw [List.take_add_one,List.getElem?_eq_getElem h];rfl
 have h2:l.drop k=l[k] :: l.drop (k + 1):=List.drop_eq_getElem_cons h
 unfold rI
 rw [List.set_append_right _ _ (by omega),hm,h2,h1,Nat.sub_self,List.set_cons_zero]
 simp only [List.map_append,List.map_cons,List.map_nil,List.append_assoc,List.singleton_append]
theorem AI:∀ (n:Nat) (l:List UInt8),l.length≤n→∀ ls,gT l=some ls→ls.all iI=true∧enc ls=l
 | _,[],_,ls,h=>by
   rw [tO] at h;cases h;exact ⟨rfl,rfl⟩
 | 0,_ :: _,hn,_,_=>by simp at hn
 | n + 1,k :: t,hn,ls,h=>by
   rw [lD] at h
   split at h
   ·cases h
   ·rename_i hk
    cases hp:gT (t.drop k.toNat) with
    | none=>rw [hp] at h;cases h
    | some ms =>
     rw [hp] at h
     cases h
     obtain ⟨h1,h2⟩:=AI n (t.drop k.toNat) (by simp at hn ⊢;omega) ms hp
     have hlen:(t.take k.toNat).length=k.toNat:=by simp;omega
     refine ⟨?_,?_⟩
     ·simp only [List.all_cons,h1,Bool.and_true,iI,hlen,Bool.and_eq_true,decide_eq_true_eq];omega
     ·have:enc (t.take k.toNat :: ms)=UInt8.ofNat (t.take k.toNat).length :: (t.take k.toNat) ++ enc ms:=by simp [enc]
      rw [this,h2,hlen]
      simp
theorem dG {l:List UInt8} {ls:List (List UInt8)} (h:aV l=some ls):ls.all iI=true∧enc ls=l∧l.length≤254:=by
 unfold aV at h
 split at h
 ·cases h
 ·have:=AI l.length l (Nat.le_refl _) ls h
  exact ⟨this.1,this.2,by omega⟩
theorem wZ (l:List UInt8):(low l).length=l.length:=by simp [low]
theorem nI:∀ ls:List (List UInt8),(enc ls).length=(ls.map fun x=>x.length + 1).sum
 | []=>rfl
 | x :: ls=>by
   have:=nI ls
   have e:enc (x :: ls)=UInt8.ofNat x.length :: x ++ enc ls:=by simp [enc]
   rw [e]
   simp [this];omega
theorem xB (ls:List (List UInt8)):(enc (ls.map low)).length=(enc ls).length:=by
 rw [nI,nI,List.map_map]
 congr 1
 apply List.map_congr_left
 intro x _
 simp [wZ]
theorem fH (ls:List (List UInt8)):ls.length≤(enc ls).length:=by
 rw [nI]
 induction ls with
 | nil=>simp
 | cons x ls ih=>simp;omega
theorem iA {x:List UInt8}:∀ {ls:List (List UInt8)},x ∈ ls→x.length < (enc ls).length
 | y :: ls,h=>by
   have e:enc (y :: ls)=UInt8.ofNat y.length :: y ++ enc ls:=by simp [enc]
   rw [e]
   rcases List.mem_cons.1 h with rfl | h
   ·simp;omega
   ·have:=iA h
    simp;omega
def jH (a b:List UInt8):Int:=if Op.bytesLess a b=true then -1 else if Op.bytesLess a b=false∧a≠b then 1 else 0
def gP:List (List UInt8)→List (List UInt8)→Int
 | [],[]=>0
 | [],_ :: _=>-1
 | _ :: _,[]=>1
 | x :: xs,y :: ys=>if jH x y≠0 then jH x y else gP xs ys
def dB (n:List UInt8):Option (List (List UInt8)):=(aV (fold n)).map List.reverse
def gQ (a b:List UInt8):Int:=match dB a,dB b with
 | none,none=>jH a b
 | none,some _=>-1
 | some _,none=>1
 | some x,some y=>gP x y
def eX (s:List UInt8):Option (List UInt8):=if Lib.hasSuffix s [0]=true∧(aV (Lib.trimSuffix s [0])).isSome=true then some (Lib.trimSuffix s [0]) else none
def dY (k:Int):Int:=if k=33 then 6 else if k=15 then 2 else if k=2∨k=5∨k=12 then 0 else -1
def aY (k:Int) (d:List UInt8):List UInt8 × Int :=
 if dY k < 0 then ([],5) else if (d.length:Int) < dY k then ([],2) else match eX (d.drop (dY k).toNat) with
  | none=>([],2)
  | some n=>(n,0)
def AJ:Nat→List UInt8→Nat
 | _,[]=>0
 | 0,_ :: _=>0
 | f + 1,k :: t=>if k.toNat=0 then 0 else 1 + k.toNat + AJ f (t.drop k.toNat)
theorem rJ:∀ (f:Nat) (l:List UInt8),l.length≤f→AJ f l=AJ l.length l
 | 0,[],_=>rfl
 | f + 1,[],_=>rfl
 | f + 1,k :: t,h=>by
   simp only [List.length_cons] at h ⊢
   unfold AJ
   split
   ·rfl
   ·rw [rJ f (t.drop k.toNat) (by simp;omega),rJ t.length (t.drop k.toNat) (by simp)]
def fT (l:List UInt8):Nat:=AJ l.length l
theorem rK (k:UInt8) (t:List UInt8):fT (k :: t)=if k.toNat=0 then 0 else 1 + k.toNat + fT (t.drop k.toNat):=by
 unfold fT
 simp only [List.length_cons]
 rw [AJ]
 split
 ·rfl
 ·rw [rJ t.length (t.drop k.toNat) (by simp)]
def cL (s:List UInt8):List UInt8 × List UInt8 × Bool :=
 if s.length≤fT s then ([],[],false) else ((eX (s.take (fT s + 1))).getD [],s.drop (fT s + 1),(eX (s.take (fT s + 1))).isSome)
def oW:Nat→List UInt8→Bool
 | _,[]=>true
 | 0,_ :: _=>true
 | f + 1,k :: t=>if t.length < k.toNat then false else oW f (t.drop k.toNat)
theorem oX:∀ (f:Nat) (l:List UInt8),l.length≤f→oW f l=oW l.length l
 | 0,[],_=>rfl
 | f + 1,[],_=>rfl
 | f + 1,k :: t,h=>by
   simp only [List.length_cons] at h ⊢
   unfold oW
   split
   ·rfl
   ·rw [oX f (t.drop k.toNat) (by simp;omega),oX t.length (t.drop k.toNat) (by simp)]
def mE (l:List UInt8):Bool:=oW l.length l
theorem oY (k:UInt8) (t:List UInt8):mE (k :: t)=if t.length < k.toNat then false else mE (t.drop k.toNat):=by
 unfold mE
 simp only [List.length_cons]
 rw [oW]
 split
 ·rfl
 ·rw [oX t.length (t.drop k.toNat) (by simp)]
def rL (l:List UInt8):Bool := !decide (l=[]) && mE l
def numP (r:List UInt8) (i:Nat):Nat→Nat
 | 0=>0
 | k + 1=>numP r i k * 256 + (r.getD (4 * i + k) 0).toNat
theorem IC (r:List UInt8) (i:Nat):∀ k,numP r i k < 256 ^ k
 | 0=>by simp [numP]
 | k + 1=>by
   have h1:=IC r i k
   have h2:(r.getD (4 * i + k) 0).toNat < 256:=UInt8.toNat_lt _
   rw [numP,Nat.pow_succ]
   omega
def zJ (n:Nat):List UInt8:=[UInt8.ofNat (n / 16777216),UInt8.ofNat (n / 65536),UInt8.ofNat (n / 256),UInt8.ofNat n]
structure SoaR where
 main:List UInt8
 mail:List UInt8
 serial:Int
 refresh:Int
 retry:Int
 expire:Int
 minimum:Int
 deriving DecidableEq,Inhabited
def SoaR.cells (s:SoaR):List Value:=[aI s.main,aI s.mail, .int .i64 s.serial, .int .i64 s.refresh, .int .i64 s.retry, .int .i64 s.expire, .int .i64 s.minimum]
def fZ (n:Int):Bool:=decide (0≤n) && decide (n≤2147483647)
def SoaR.ok (s:SoaR):Bool:=(aV s.main).isSome && (aV s.mail).isSome && decide (0≤s.serial) && decide (s.serial≤4294967295) && fZ s.refresh && fZ s.retry && fZ s.expire && fZ s.minimum
def SoaR.data (s:SoaR):List UInt8:=s.main ++ [0] ++ (s.mail ++ [0]) ++ zJ s.serial.toNat ++ zJ s.refresh.toNat ++ zJ s.retry.toNat ++ zJ s.expire.toNat ++ zJ s.minimum.toNat
def dE (d:List UInt8):SoaR :=
 let f:=cL d
 let g:=cL f.2.1
 { main:=f.1,mail:=g.1,serial:=numP g.2.1 0 4,refresh:=numP g.2.1 1 4,retry:=numP g.2.1 2 4,expire:=numP g.2.1 3 4,minimum:=numP g.2.1 4 4 }
def cS (d:List UInt8):Option SoaR :=
 let f:=cL d
 let g:=cL f.2.1
 if f.2.2=true∧g.2.2=true∧g.2.1.length=20∧(dE d).ok=true then some (dE d) else none
def fits (k:Int) (d:List UInt8):Bool :=
 if k=1 then decide (d.length=4) else if k=28 then decide (d.length=16) else if k=16 then rL d else if k=6 then (cS d).isSome else decide ((aY k d).2≠2)
structure Rec where
 name:List UInt8
 kind:Int
 ttl:Int
 data:List UInt8
 deriving DecidableEq,Inhabited
def bC (r:Rec):Int :=
 if r.kind=41∨r.kind=251∨r.kind=252∨r.kind=255 then 1
 else if r.kind < 1∨65535 < r.kind∨r.ttl < 0∨2147483647 < r.ttl∨4000 < r.data.length∨fits r.kind r.data=false then 1
 else if (aV r.name).isSome=true then 0 else 1
end Go.Proofs.X
set_option linter.unusedVariables false
set_option linter.unusedSimpArgs false
namespace Go.Proofs.X
open Go
structure TPO {α:Type} (c:α→α→Int):Prop where
 anti:∀ x y,c y x=- c x y
 tr:∀ x y z,c x y≤0→c y z≤0→c x z≤0
variable {α:Type} {c d:α→α→Int}
theorem TPO.refl (h:TPO c) (x:α):c x x=0:=by have:=h.anti x x;omega
theorem TPO.swo (h:TPO c):Sort.SWO (Go.Proofs.ltOf c) where
 irrefl x:=by simp [Go.Proofs.ltOf,h.refl x]
 trans x y z h1 h2:=by
  simp only [Go.Proofs.ltOf,decide_eq_true_eq] at *
  have h3:=h.tr x y z (by omega) (by omega)
  rcases Int.lt_or_eq_of_le h3 with h4 | h4
  ·exact h4
  ·have a1:=h.anti x z
   have a2:=h.anti y z
   have a3:=h.anti x y
   have:=h.tr z x y (by omega) (by omega)
   omega
 ntrans x y z h1 h2:=by
  simp only [Go.Proofs.ltOf,decide_eq_false_iff_not] at *
  have a1:=h.anti x y
  have a2:=h.anti y z
  have a3:=h.anti x z
  have:=h.tr z y x (by omega) (by omega)
  omega
theorem TPO.eqL (h:TPO c) {x y z:α} (e:c x y=0):c x z≤0↔c y z≤0:=by
 have a:=h.anti x y
 exact ⟨fun h1=>h.tr y x z (by omega) h1,fun h1=>h.tr x y z (by omega) h1⟩
def RJ (c d:α→α→Int) (x y:α):Int:=if c x y≠0 then c x y else d x y
theorem TPO.lex (h:TPO c) (k:TPO d):TPO (RJ c d) where
 anti x y:=by
  have a:=h.anti x y
  have b:=k.anti x y
  unfold RJ
  split <;> split <;> omega
 tr x y z:=by
  have a1:=h.anti x y
  have a2:=h.anti y z
  have a3:=h.anti x z
  have t1:=h.tr x y z
  have t2:=h.tr z x y
  have t3:=h.tr y z x
  have t4:=k.tr x y z
  unfold RJ
  intro h1 h2
  split at h1 <;> split at h2 <;> split <;> omega
theorem TPO.comap {β:Type} (h:TPO c) (f:β→α):TPO (fun x y=>c (f x) (f y)):=⟨fun x y=>h.anti _ _,fun x y z=>h.tr _ _ _⟩
theorem ON:TPO (fun a b:Int=>if a < b then (-1:Int) else if b < a then 1 else 0) where
 anti x y:=by split <;> split <;> (try split) <;> omega
 tr x y z:=by
  intro h1 h2
  split at h1 <;> split at h2 <;> split <;> (try omega)
  all_goals (split <;> (try omega))
  all_goals (first | (split at h1 <;> omega) | (split at h2 <;> omega) | (split at h1 <;> split at h2 <;> omega))
theorem ID {a b:List UInt8}:Op.bytesLess a b=true↔a < b:=by rw [Go.Proofs.bytesLess_eq];simp
theorem lE (a b:List UInt8):jH a b=if a < b then -1 else if a=b then 0 else 1:=by
 unfold jH
 by_cases h:a < b
 ·simp [ID.2 h,h]
 ·have:Op.bytesLess a b=false:=by
   cases h2:Op.bytesLess a b with
   | false=>rfl
   | true=>exact absurd (ID.1 h2) h
  simp [this,h]
theorem gU:TPO jH where
 anti x y:=by
  rw [lE,lE]
  rcases Std.lt_trichotomy x y with h | h | h
  ·have h2:¬ y < x:=fun h9=>Std.lt_irrefl (Std.lt_trans h h9)
   have h3:x≠y:=fun e=>Std.lt_irrefl (e ▸ h)
   simp [h,h2,h3,Ne.symm h3]
  ·subst h
   simp [Std.lt_irrefl]
  ·have h2:¬ x < y:=fun h9=>Std.lt_irrefl (Std.lt_trans h h9)
   have h3:x≠y:=fun e=>Std.lt_irrefl (e ▸ h)
   simp [h,h2,h3,Ne.symm h3]
 tr x y z:=by
  rw [lE,lE,lE]
  intro h1 h2
  by_cases hxy:x < y
  ·by_cases hyz:y < z
   ·simp [Std.lt_trans hxy hyz]
   ·by_cases e:y=z
    ·subst e;simp [hxy]
    ·simp [hyz,e] at h2
  ·by_cases e:x=y
   ·subst e;exact h2
   ·simp [hxy,e] at h1
theorem DV:TPO gP where
 anti:=by
  intro x
  induction x with
  | nil=>intro y;cases y <;> rfl
  | cons a x ih =>
   intro y
   cases y with
   | nil=>rfl
   | cons b y =>
    have h1:=gU.anti a b
    have h2:=ih y
    simp only [gP]
    split <;> split <;> omega
 tr:=by
  intro x
  induction x with
  | nil=>intro y z _ _;cases z <;> simp [gP]
  | cons a x ih =>
   intro y z h1 h2
   cases y with
   | nil=>simp [gP] at h1
   | cons b y =>
    cases z with
    | nil=>simp [gP] at h2
    | cons e z =>
     have a1:=gU.anti a b
     have a2:=gU.anti b e
     have a3:=gU.anti a e
     have t1:=gU.tr a b e
     have t2:=gU.tr e a b
     have t3:=gU.tr b e a
     have t4:=ih y z
     simp only [gP] at *
     split at h1 <;> split at h2 <;> split <;> omega
theorem LI:TPO gQ where
 anti x y:=by
  have h1:=gU.anti x y
  unfold gQ
  cases hx:dB x <;> cases hy:dB y <;> simp only [] <;> first | exact h1 | rfl | exact DV.anti _ _
 tr x y z:=by
  have h1:=gU.tr x y z
  unfold gQ
  cases hx:dB x <;> cases hy:dB y <;> cases hz:dB z <;> simp only [] <;> first | exact h1 | exact DV.tr _ _ _ | (intros;omega)
end Go.Proofs.X
set_option linter.unusedVariables false
set_option linter.unusedSimpArgs false
namespace Go.Proofs.X
open Go.RowKit
def bytesOf (P:Program) (e:TypeId):Nat:=match P.info? e with | some i=>i.bytes | none=>0
section
variable {P:Program} {ops:Array Oper} {Q:Exit→Act→World→Prop} {rest:List Oper} {ts:List Value} {df:List Deferred}
inductive ElemIs (a:Act) (x:Operand) (k:Nat) (ce:List Value):Prop
 | mk {c:Value} (h1:a.eval x=c) (h2:c.cells.toList=ce) (h3:ce.length=k) (h4:∀ u ∈ ce,u.oneCell'=true):ElemIs a x k ce
theorem XH (ce:List Value) {B k e t d1 d2 m ty1 ty2:Nat} {ps1 ps2:String} {af1 af2:Array Edge} {x:Operand} {es:List (List Value)} {w0 w:World}
 (hx:Ext w0 w) (ho:Own B k e w (ts.getD m undef) es) (hl:es.length + 1≤1000000)
 (hk:∀ s v' w1 w',Ext w w1→Mv (ts.getD m undef).ownBlock w1 w'→Ext w0 w'→Own B k e w' v' (es ++ [ce])→wpList P ops Q rest (Act.mk ((ts.set d1 s).set d2 v').toArray df) w')
 (hc:ElemIs (Act.mk ts.toArray df) x k ce:=by (apply ElemIs.mk;(rfl);(rfl);(rfl);(simp [aI,Value.oneCell'])))
 (ht:lU P t e k (bytesOf P e)=true:=by decide +kernel) (hby:bytesOf P e≤1000000:=by decide +kernel) (hk16:k≤1000:=by decide) (hne:d1≠m:=by decide) (hdl:d1 < ts.length:=by first | (simp;done) | (simp;omega))
 (hB:w0.heap.size≤B:=by first | exact Nat.le_refl _ | omega) (hBw:B≤w.heap.size:=by first | exact Ext.size (by assumption) | omega) :
 wpList P ops Q (Oper.mk (some d1) (.buildSlice t 1 #[(0,x)]) ty1 ps1 af1 none :: Oper.mk (some d2) (.call ⟨.builtin .append,#[.tmp m, .tmp d1],#[t,t]⟩) ty2 ps2 af2 none :: rest) (Act.mk ts.toArray df) w:=by
 obtain ⟨hc,hce,hcs,h1⟩:=hc
 rename_i c
 have hcs':c.cells.size=k:=by rw [← Array.length_toList,hce];exact hcs
 refine bN (k:=k) (e:=e) (bytes:=bytesOf P e) (xs:=[c]) (parts:=[(0,x)]) rfl (by simp [hc]) rfl (by simpa using hcs') ht (by simp;omega) ?_
 intro s w1 x1 _ sl _
 have e1:(ts.set d1 s).getD m undef=ts.getD m undef:=by
  simp only [List.getD_eq_getElem?_getD];rw [List.getElem?_set_ne hne]
 have ho1:=ho.ext x1
 rw [← e1] at ho1
 refine fY (x:=s) (B:=B) (k:=k) (e:=e) (bytes:=bytesOf P e) rfl ho1 (by rw [fP];simp [hdl]) sl ht (by simpa [hce] using h1) (Nat.le_trans hBw x1.size) ?_ ?_ ?_
 ·simp only [List.length_map,List.length_cons,List.length_nil]
  calc (es.length + (0 + 1)) * bytesOf P e≤1000000 * 1000000:=Nat.mul_le_mul (by omega) hby
   _≤_:=by decide
 ·simp only [List.length_map,List.length_cons,List.length_nil];omega
 ·intro v' w' o' m' _
  rw [e1] at m'
  exact hk s v' w1 w' x1 m' ((ho.ext x1).mvx m' (hx.trans x1) hB) (by simpa [hce] using o')
end
section
variable {P:Program} {w:World} {a:Act} {d:Option Nat} {ty:TypeId} {ps:String} {af:Array Edge} {g:Option (Nat × Bool)}
theorem Runs.remN {t u:TypeId} {x y:Operand} {m n:Nat} (hx:a.eval x=.int .i64 (m:Nat)) (hy:a.eval y=.int .i64 (n:Nat)) (hn:0 < n) (hm:m < 9223372036854775808) :
 Runs P (Oper.mk d (.binOp .rem t x y u) ty ps af g) a w (.int .i64 ((m % n:Nat):Int)):=by
 have hle:m % n≤m:=Nat.mod_le _ _
 have e:Int.tmod (m:Int) (n:Int)=((m % n:Nat):Int):=by rw [Int.tmod_eq_emod_of_nonneg (by omega)];simp
 have h0:n≠0:=by omega
 have hb:-9223372036854775808≤(m:Int) % (n:Int)∧(m:Int) % (n:Int)≤9223372036854775807:=by
  rw [show (m:Int) % (n:Int)=((m % n:Nat):Int) by simp];omega
 constructor
 simp [execOp,hx,hy,eqGuard,binOp,Op.intDiv,h0,e,IntWalk.i64_in _ hb]
theorem Runs.quoN {t u:TypeId} {x y:Operand} {m n:Nat} (hx:a.eval x=.int .i64 (m:Nat)) (hy:a.eval y=.int .i64 (n:Nat)) (hn:0 < n) (hm:m < 9223372036854775808) :
 Runs P (Oper.mk d (.binOp .quo t x y u) ty ps af g) a w (.int .i64 ((m / n:Nat):Int)):=by
 have hle:m / n≤m:=Nat.div_le_self _ _
 have e:Int.tdiv (m:Int) (n:Int)=((m / n:Nat):Int):=by rw [Int.tdiv_eq_ediv_of_nonneg (by omega)];simp
 have h0:n≠0:=by omega
 have hb:-9223372036854775808≤(m:Int) / (n:Int)∧(m:Int) / (n:Int)≤9223372036854775807:=by
  rw [show (m:Int) / (n:Int)=((m / n:Nat):Int) by simp]
  generalize m / n=q at hle
  omega
 constructor
 simp [execOp,hx,hy,eqGuard,binOp,Op.intDiv,h0,e,IntWalk.i64_in _ hb]
end
section
variable {P:Program} {ops:Array Oper} {Q:Exit→Act→World→Prop} {w:World} {rest:List Oper} {ts:List Value} {df:List Deferred} {ty:TypeId} {ps:String} {af:Array Edge}
theorem zM (z:Value) (n:Nat):(madeCells #[z] n).toList=List.replicate n z:=by
 apply List.ext_getElem?
 intro i
 simp [madeCells,List.getElem?_replicate]
 split <;> simp_all [Nat.mod_one]
theorem JL {t e d n:Nat} {z:Value} {x y:Operand} (h:∀ v w',Ext w w'→Own w.heap.size 1 e w' v (List.replicate n [z])→wpList P ops Q rest (Act.mk (ts.set d v).toArray df) w')
 (hx:(Act.mk ts.toArray df).eval x=.int .i64 (n:Nat)) (hy:(Act.mk ts.toArray df).eval y=.int .i64 (n:Nat)) (hn:n≤1000000)
 (ht:lU P t e 1 (bytesOf P e)=true:=by decide +kernel) (hz:wL P e [z]=true:=by decide +kernel) (hby:bytesOf P e≤1000000:=by decide +kernel) :
 wpList P ops Q (Oper.mk (some d) (.makeSlice t x y) ty ps af none :: rest) (Act.mk ts.toArray df) w:=by
 obtain ⟨hu,i,z',hi,hzi,hzc,hs,hb,hk⟩:=iU ht
 obtain ⟨i2,v2,hi2,hz2,hc2⟩:=oR hz
 rw [hi] at hi2;cases hi2
 rw [hzi] at hz2;cases hz2
 have hbn:(i.bytes:Int) * (n:Int)≤281474976710656:=by
  rw [hb]
  have:bytesOf P e * n≤1000000 * 1000000:=Nat.mul_le_mul hby hn
  have h2:((bytesOf P e * n:Nat):Int)=(bytesOf P e:Int) * (n:Int):=by simp
  rw [← h2];omega
 have hr:=run_makeSlice (P:=P) w t e i z' hu hi hzi .i64 .i64 (n:Int) (n:Int) (by omega) (Int.le_refl _) (by rw [hs];omega) hbn (by omega)
 rw [Int.toNat_natCast,hs,hc2] at hr
 have hr':(execOp (Act.mk ts.toArray df).eval (Oper.mk (some d) (.makeSlice t x y) ty ps af none)).run P w=.ok (.value (.slice (some ⟨w.heap.size,0,none⟩) n n)) (w.alloc (.cells (madeCells [z].toArray (n * 1)) e)):=by
  simp only [execOp,hx,hy,Sem.run_bind,hr,Result.andThen_ok,Sem.run_pure]
 have hm:(madeCells [z].toArray (n * 1)).toList=List.replicate n z:=by rw [Nat.mul_one];exact zM z n
 have hmz:(madeCells [z].toArray (n * 1)).size=n:=by rw [← Array.length_toList,hm];simp
 refine sH rfl hr' (h _ _ (Ext.alloc _ _) ⟨⟨by simp,?_⟩,by simp⟩)
 refine .inr ⟨w.heap.size,n,_,(0,0),by simp,Nat.le_refl _,heap_alloc_new w _, .inl (Nat.le_refl _),by simp,by unfold maxLen;omega,by rw [hmz];omega,?_⟩
 rw [hm,List.take_of_length_le (by simp)]
 exact (List.flatten_replicate_singleton ..).symm
end
section
variable {P:Program} {ops:Array Oper} {Q:Exit→Act→World→Prop} {w:World} {rest:List Oper} {ts:List Value} {df:List Deferred} {ty:TypeId} {ps:String} {af:Array Edge}
theorem bU {t e k B d:Nat} {x0 y:Operand} {v0 x:Value} {es fs:List (List Value)} (h0:(Act.mk ts.toArray df).eval x0=v0)
 (h:Own B k e w v0 es) (hy:(Act.mk ts.toArray df).eval y=x) (hx:Sl k w x fs) (h1:∀ f ∈ fs,∀ u ∈ f,u.oneCell'=true)
 (hB:B≤w.heap.size) (hm:es.length + fs.length≤1000000)
 (hk:∀ v' w',Own B k e w' v' (es ++ fs)→Mv v0.ownBlock w w'→(v'.ownBlock=v0.ownBlock∨v'.ownBlock=some w.heap.size)→wpList P ops Q rest (Act.mk (ts.set d v').toArray df) w')
 (ht:lU P t e k (bytesOf P e)=true:=by decide +kernel) (hby:bytesOf P e≤1000000:=by decide +kernel) :
 wpList P ops Q (Oper.mk (some d) (.call ⟨.builtin .append,#[x0,y],#[t,t]⟩) ty ps af none :: rest) (Act.mk ts.toArray df) w:=by
 have hb:(es.length + fs.length) * bytesOf P e≤140737488355328 :=
  calc (es.length + fs.length) * bytesOf P e≤1000000 * 1000000:=Nat.mul_le_mul hm hby
   _≤_:=by decide
 obtain ⟨v',w',hr,ho,hmv,hkin⟩:=uN (ty:=ty) ht h hx h1 hB hb (by omega)
 refine sH rfl ?_ (hk v' w' ho hmv hkin)
 simp [execOp,resolve,invoke,builtin,h0,hy,hr]
end
section
variable {P:Program} {Q:Exit→Act→World→Prop} {S:World→Prop} {l:List Oper} {fuel:Nat} {listed:List Bool} {w:World}
end
end Go.Proofs.X
set_option linter.unusedVariables false
set_option linter.unusedSimpArgs false
namespace Go.Proofs.X
open Go.RowKit
theorem sM {k:Nat}:∀ (es:List (List Value)) (i:Nat),(∀ x ∈ es,x.length=k)→(es.take i).flatten=es.flatten.take (i * k)
 | [],i,_=>by simp
 | x :: es,0,_=>by simp
 | x :: es,i + 1,h=>by
   have hx:=h x (by simp)
   have ih:=sM es i (fun y hy=>h y (by simp [hy]))
   rw [List.take_succ_cons,List.flatten_cons,List.flatten_cons,ih,show (i + 1) * k=x.length + i * k by rw [hx,Nat.add_mul];omega,List.take_length_add_append]
theorem nJ {k:Nat}:∀ (es:List (List Value)) (i:Nat),(∀ x ∈ es,x.length=k)→(es.drop i).flatten=es.flatten.drop (i * k)
 | [],i,_=>by simp
 | x :: es,0,_=>by simp
 | x :: es,i + 1,h=>by
   have hx:=h x (by simp)
   have ih:=nJ es i (fun y hy=>h y (by simp [hy]))
   rw [List.drop_succ_cons,List.flatten_cons,ih,show (i + 1) * k=x.length + i * k by rw [hx,Nat.add_mul];omega,List.drop_length_add_append]
theorem JM {α:Type} (c F:List α) (a n:Nat) (h:a + F.length≤n) (hn:n≤c.length):(c.take a ++ F ++ c.drop (a + F.length)).take n=(c.take n).take a ++ F ++ (c.take n).drop (a + F.length):=by
 have hA:(c.take a ++ F).length=a + F.length:=by simp;omega
 rw [List.take_append,hA,List.take_of_length_le (by omega),List.take_take,Nat.min_eq_left (by omega),List.drop_take]
theorem DW {α:Type} {z:List α} (hz:0 < z.length):∀ (n i:Nat),i < n * z.length→(List.replicate n z).flatten[i]? = some (z[i % z.length]'(Nat.mod_lt _ hz))
 | 0,i,h=>by simp at h
 | n + 1,i,h=>by
   rw [List.replicate_succ,List.flatten_cons,List.getElem?_append]
   split
   ·rename_i hi
    rw [List.getElem?_eq_getElem hi]
    simp only [Nat.mod_eq_of_lt hi]
   ·rename_i hi
    have hge:z.length≤i:=by omega
    rw [DW hz n (i - z.length) (by rw [Nat.add_mul] at h;omega)]
    have:(i - z.length) % z.length=i % z.length:=by rw [← Nat.mod_eq_sub_mod hge]
    simp only [this]
theorem Own.over {B k e g cap i:Nat} {w:World} {es fs:List (List Value)} (h:Own B k e w (.slice (some ⟨g,0,none⟩) es.length cap) es) (hi:i + fs.length≤es.length) (hf:∀ f ∈ fs,f.length=k) :
 ∃ cur fz,w.heap[g]? = some (.cells cur e fz)∧(fz.2≤fz.1∨cur.size≤fz.1)∧es.length≤cap∧i * k + fs.flatten.length≤es.length * k∧es.length * k≤cur.size ∧
   Own B k e (w.setRow g (cur.toList.take (i * k) ++ fs.flatten ++ cur.toList.drop (i * k + fs.flatten.length)).toArray) (.slice (some ⟨g,0,none⟩) es.length cap) (es.take i ++ fs ++ es.drop (i + fs.length)) ∧
   Mv (some g) w (w.setRow g (cur.toList.take (i * k) ++ fs.flatten ++ cur.toList.drop (i * k + fs.flatten.length)).toArray):=by
 rcases h.row.2 with ⟨h0,_⟩ | ⟨g',cap',cur,fz,hv,hb,hg,hfz,hnc,hcm,hcs,htake⟩
 ·cases h0
 ·simp only [Value.slice.injEq,Option.some.injEq,Addr.mk.injEq,and_true,true_and] at hv
  obtain ⟨rfl,rfl⟩:=hv
  have hall:=h.each
  have hfl:=bO hf
  have hil:i * k + fs.length * k≤es.length * k:=by rw [← Nat.add_mul];exact Nat.mul_le_mul_right k hi
  have hck:es.length * k≤cap * k:=Nat.mul_le_mul_right k hnc
  have hlen:(es.take i ++ fs ++ es.drop (i + fs.length)).length=es.length:=by simp;omega
  have hall2:∀ x ∈ es.take i ++ fs ++ es.drop (i + fs.length),x.length=k:=by
   intro x hx
   rcases List.mem_append.1 hx with hx | hx
   ·rcases List.mem_append.1 hx with hx | hx
    ·exact hall x (List.mem_of_mem_take hx)
    ·exact hf x hx
   ·exact hall x (List.mem_of_mem_drop hx)
  have hsz:(cur.toList.take (i * k) ++ fs.flatten ++ cur.toList.drop (i * k + fs.flatten.length)).length=cur.size:=by
   rw [List.length_append,List.length_append,List.length_take,List.length_drop,Array.length_toList,hfl,hcs];omega
  refine ⟨cur,fz,hg,hfz,hnc,by rw [hfl];exact hil,by rw [hcs];exact hck,⟨⟨?_, .inr ⟨g,cap,(cur.toList.take (i * k) ++ fs.flatten ++ cur.toList.drop (i * k + fs.flatten.length)).toArray,fz,?_,hb,setRow_heap w g cur _ e _ hg,?_,?_,hcm,?_,?_⟩⟩,hall2⟩,⟨rfl,rfl,rfl,by simp,fun k _ hk=>setRow_other w g k _ (fun e=>hk (by simp [e])),Nat.le_refl _⟩⟩
  ·rw [bO hall2]
  ·rw [hlen]
  ·rw [List.size_toArray,hsz];exact hfz
  ·rw [hlen];exact hnc
  ·rw [List.size_toArray,hsz];exact hcs
  ·rw [hlen,List.flatten_append,List.flatten_append,sM es i hall,nJ es _ hall,← htake,List.toList_toArray]
   have e1:(i + fs.length) * k=i * k + fs.flatten.length:=by rw [hfl,Nat.add_mul]
   rw [e1]
   have hcl:cur.toList.length=cap * k:=by rw [← hcs];exact Array.length_toList
   exact JM _ _ _ _ (by rw [hfl];exact hil) (by rw [hcl];exact hck)
theorem DX {z:List Value} (hz:0 < z.length):∀ n,(madeCells z.toArray (n * z.length)).toList=(List.replicate n z).flatten:=by
 intro n
 apply List.ext_getElem?
 intro i
 have hl:(List.replicate n z).flatten.length=n * z.length:=by simp
 by_cases hi:i < n * z.length
 ·have h1:(madeCells z.toArray (n * z.length)).toList[i]? = some (z[i % z.length]'(Nat.mod_lt _ hz)):=by
   simp [madeCells,List.getElem?_range hi,Nat.mod_lt _ hz]
  rw [h1]
  symm
  exact DW hz n i hi
 ·rw [List.getElem?_eq_none (by simp [madeCells];omega),List.getElem?_eq_none (by rw [hl];omega)]
section
variable {P:Program} {ops:Array Oper} {Q:Exit→Act→World→Prop} {w:World} {rest:List Oper} {ts:List Value} {df:List Deferred} {ty:TypeId} {ps:String} {af:Array Edge}
end
end Go.Proofs.X
set_option linter.unusedVariables false
set_option linter.unusedSimpArgs false
namespace Go.Proofs.X
open Go.RowKit
section
variable {P:Program} {a:Act} {w:World} {d:Option Nat} {ty:TypeId} {ps:String} {af:Array Edge} {g:Option (Nat × Bool)}
theorem Runs.takeC {t:TypeId} {x hi:Operand} {k n l c:Nat} {ad:Option Addr} (hx:a.eval x=.slice ad l c) (h2:a.eval hi=.int .i64 (n:Nat)) (hn:n≤c) (ht:fC P t k=true) :
 Runs P (Oper.mk d (.slice t x none (some hi) none) ty ps af g) a w (.slice (if c=0 then ad else ad.map (·.add (0 * k))) (n - 0) (c - 0)):=by
 obtain ⟨e,ie,ht,hie,hz⟩:=eT ht
 constructor
 simp [execOp,hx,h2,Instr.sliceAt,Instr.slice,run_underlying ht,Instr.sliceBounds,Instr.sliceBound,asIntOf,sizeOf,typeInfo,hie,hz,hn]
end
theorem Sl.news {k n cap:Nat} {w:World} {a:Addr} {fs:List (List Value)} (hx:Sl k w (.slice (some a) n cap) fs) (hk:0 < k):∀ j u,fs.flatten[j]? = some u→w.cell? (a.add j)=some u:=by
 obtain ⟨ad,cap',he,h2,h3,h4,h5,h6⟩:=hx
 cases he
 intro j u hj
 by_cases hne:fs=[]
 ·subst hne;simp at hj
 ·obtain ⟨b,o,he,hc⟩:=h6 hne
  cases he
  have hlen:=bO h4
  have hjl:j < fs.length * k:=by rw [← hlen];exact (List.getElem?_eq_some_iff.1 hj).1
  have hdm:j=(j / k) * k + j % k:=by rw [Nat.mul_comm];exact (Nat.div_add_mod j k).symm
  have hlt:j / k < fs.length:=Nat.div_lt_of_lt_mul (by rw [Nat.mul_comm];exact hjl)
  have hml:j % k < (fs[j / k]).length:=by rw [h4 _ (List.getElem_mem hlt)];exact Nat.mod_lt _ hk
  have hf:=iT h4 (i:=j / k) (e:=fs[j / k]) (j:=j % k) (x:=(fs[j / k])[j % k]) (List.getElem?_eq_getElem hlt) (List.getElem?_eq_getElem hml)
  rw [← hdm,hj] at hf
  have:=hc (j / k) fs[j / k] (j % k) u (List.getElem?_eq_getElem hlt) (by rw [List.getElem?_eq_getElem hml];exact hf.symm)
  rw [dW]
  rw [Nat.add_assoc,← hdm] at this
  exact this
section
variable {P:Program} {ops:Array Oper} {Q:Exit→Act→World→Prop} {w:World} {rest:List Oper} {ts:List Value} {df:List Deferred} {ty:TypeId} {ps:String} {af:Array Edge}
theorem GP {t e k B g cap m:Nat} {a:Act} {y:Operand} {z:List Value} {c:Nat} {es:List (List Value)} (hw:Own B k e w (.slice (some ⟨g,0,none⟩) es.length cap) es)
 (hy:a.eval y=.slice (some ⟨g,m * k,none⟩) (es.length - m) c) (hm:m < es.length)
 (h:∀ w',Own B k e w' (.slice (some ⟨g,0,none⟩) m cap) (es.take m)→Mv (some g) w w'→wpList P ops Q rest a w')
 (ht:lU P t e k (bytesOf P e)=true:=by decide +kernel) (hz:wL P e z=true:=by decide +kernel) (hzl:z.length=k:=by rfl) (h1:∀ u ∈ z,u.oneCell'=true:=by decide +kernel) :
 wpList P ops Q (Oper.mk none (.call ⟨.builtin .clear,#[y],#[t]⟩) ty ps af none :: rest) a w:=by
 obtain ⟨hu,inf,z',hi,hzi,hzc,hsz,hb,hk⟩:=iU ht
 obtain ⟨i2,v2,hi2,hz2,hc2⟩:=oR hz
 rw [hi] at hi2;cases hi2
 rw [hzi] at hz2;cases hz2
 have hall:∀ f ∈ List.replicate (es.length - m) z,f.length=k:=by intro f hf;rw [List.eq_of_mem_replicate hf];exact hzl
 obtain ⟨cur,fz,hg,hfz,hnc,h3,h4,ho,hmv⟩:=hw.over (i:=m) (fs:=List.replicate (es.length - m) z) (by simp;omega) hall
 have hcells:(Builtin.zeroCells z.toArray (es.length - m)).toList=(List.replicate (es.length - m) z).flatten:=by
  have:=DX (z:=z) (by omega) (es.length - m)
  rw [← this]
  simp [Builtin.zeroCells,madeCells]
 have hst:=eM P g (m * k) e fz (List.replicate (es.length - m) z).flatten 0 cur w hg hfz (by omega) (by
  intro u hu'
  obtain ⟨f,hf,hfu⟩:=List.mem_flatten.1 hu'
  rw [List.eq_of_mem_replicate hf] at hfu
  exact h1 u hfu)
 simp only [Nat.add_zero] at hst
 obtain ⟨n',hn'⟩:∃ n',es.length - m=n' + 1:=⟨es.length - m - 1,by omega⟩
 have hr:(Builtin.clear_ #[t] ty #[.slice (some ⟨g,m * k,none⟩) (es.length - m) c]).run P w=.ok (.tuple #[]) (w.setRow g (cur.toList.take (m * k) ++ (List.replicate (es.length - m) z).flatten ++ cur.toList.drop (m * k + (List.replicate (es.length - m) z).flatten.length)).toArray):=by
  rw [hn'] at hcells hst ⊢
  simp [Builtin.clear_,run_underlying hu,zeroValue,typeInfo,hi,hzi,hc2,hcells,hst]
 have htk:(es.take m ++ List.replicate (es.length - m) z ++ es.drop (m + (List.replicate (es.length - m) z).length)).take m=es.take m:=by
  rw [List.append_assoc,List.take_append_of_le_length (by simp;omega),List.take_take,Nat.min_self]
 have hs:=ho.short (m:=m) (by simp;omega)
 rw [htk] at hs
 refine wpList_plain rfl fun K hK => ?_
 unfold Oper.wp execOp
 simp only [resolve,invoke,builtin,Sem.run_bind,Sem.run_pure,Result.andThen_ok,List.map_toArray,List.map_cons,List.map_nil,hy,hr]
 exact hK _ _ (h _ hs hmv)
end
end Go.Proofs.X
set_option linter.unusedVariables false
set_option linter.unusedSimpArgs false
namespace Go.Proofs.X
open Go.RowKit
set_option maxRecDepth 100000
theorem QI {G A:Prop} (hA:A) (e:Hid A→G:=by (intro kA;(repeat' first | ((with_reducible refine cY ?_);go_step) | ((with_reducible refine cJ ?_);refine eS ?_) | fail);(with_reducible exact kA.out))):G:=e ⟨hA⟩
theorem XY {G A:Prop} (hA:A) (e:Hid A→G:=by (intro kA;(repeat' first | ((with_reducible refine cY ?_);go_step) | ((with_reducible refine cJ ?_);refine eS ?_) | fail);(rename_i z0 z1;revert z0 z1;with_reducible exact kA.out))):G:=e ⟨hA⟩
theorem jN {G A:Prop} (hA:A) (e:Hid A→G:=by (intro kA;(try ((with_reducible refine OE ?_);refine OJ ?_));(with_reducible exact kA.out))):G:=e ⟨hA⟩
theorem qR {G A:Prop} (hA:A) (e:Hid A→G:=by (intro kA;(try ((with_reducible refine OE ?_);refine XW ?_));(with_reducible exact kA.out))):G:=e ⟨hA⟩
theorem TN {G A:Prop} (hA:A) (e:Hid A→G:=by (intro kA;(repeat' (first | ((with_reducible refine cY ?_);go_step) | fail));(with_reducible exact kA.out))):G:=e ⟨hA⟩
theorem lF {G A:Prop} (hA:A) (e:Hid A→G:=by (intro kA;(repeat' (first | ((with_reducible refine cY ?_);go_step) | fail));(rename_i z0 z1;revert z0 z1;with_reducible exact kA.out))):G:=e ⟨hA⟩
theorem zN {G A:Prop} (hA:A) (e:Hid A→G:=by (intro kA;(repeat' (first | ((with_reducible refine cY ?_);go_step) | fail));(rename_i z0 z1 z2;revert z0 z1 z2;with_reducible exact kA.out))):G:=e ⟨hA⟩
theorem bR {G A:Prop} (hA:A) (e:Hid A→G:=by (intro kA;(repeat' first | ((with_reducible refine cY ?_);go_step) | ((with_reducible refine cJ ?_);first | refine eS ?_ | (refine dD ?_ ?_ <;> intro _)) | fail);(with_reducible exact kA.out))):G:=e ⟨hA⟩
theorem jP {G A:Prop} (hA:A) (e:Hid A→G:=by (intro kA;(repeat' first | ((with_reducible refine cY ?_);go_step) | ((with_reducible refine cJ ?_);first | refine eS ?_ | (refine dD ?_ ?_ <;> intro _)) | fail);(rename_i z0;revert z0;with_reducible exact kA.out))):G:=e ⟨hA⟩
theorem xD {G A B:Prop} (hB:B) (hA:A) (e:Hid A→Hid B→G:=by (intro kA kB;(repeat' first | ((with_reducible refine cY ?_);go_step) | ((with_reducible refine cJ ?_);first | refine eS ?_ | (refine dD ?_ ?_ <;> intro _)) | fail);(rename_i z0;revert z0;with_reducible exact kA.out);(rename_i z0;revert z0;with_reducible exact kB.out))):G:=e ⟨hA⟩ ⟨hB⟩
theorem TU {G A B C:Prop} (hB:B) (hC:C) (hA:A) (e:Hid A→Hid B→Hid C→G:=by (intro kA kB kC;(repeat' first | ((with_reducible refine cY ?_);go_step) | ((with_reducible refine cJ ?_);first | refine eS ?_ | (refine dD ?_ ?_ <;> intro _)) | fail);(rename_i z0;revert z0;with_reducible exact kA.out);(rename_i z0 z1;revert z0 z1;with_reducible exact kB.out);(rename_i z0 z1 z2 z3;revert z0 z1 z2 z3;with_reducible exact kC.out))):G:=e ⟨hA⟩ ⟨hB⟩ ⟨hC⟩
theorem DY {G A B:Prop} (hB:B) (hA:A) (e:Hid A→Hid B→G:=by (intro kA kB;(repeat' first | ((with_reducible refine cY ?_);go_step) | ((with_reducible refine cJ ?_);first | refine eS ?_ | (refine dD ?_ ?_ <;> intro _)) | fail);(rename_i z0;revert z0;with_reducible exact kA.out);(rename_i z0 z1 z2;revert z0 z1 z2;with_reducible exact kB.out))):G:=e ⟨hA⟩ ⟨hB⟩
theorem LJ {G A B C:Prop} (hB:B) (hC:C) (hA:A) (e:Hid A→Hid B→Hid C→G:=by (intro kA kB kC;(repeat' first | ((with_reducible refine cY ?_);go_step) | ((with_reducible refine cJ ?_);first | refine eS ?_ | (refine dD ?_ ?_ <;> intro _)) | fail);(rename_i z0;revert z0;with_reducible exact kA.out);(rename_i z0 z1 z2 z3;revert z0 z1 z2 z3;with_reducible exact kB.out);(rename_i z0 z1;revert z0 z1;with_reducible exact kC.out))):G:=e ⟨hA⟩ ⟨hB⟩ ⟨hC⟩
theorem dR {G A:Prop} (hA:A) (e:Hid A→G:=by (intro kA;(repeat' first | ((with_reducible refine cY ?_);go_step) | ((with_reducible refine cJ ?_);first | refine eS ?_ | (refine dD ?_ ?_ <;> intro _)) | fail);(rename_i z0 z1;revert z0 z1;with_reducible exact kA.out))):G:=e ⟨hA⟩
theorem VT {G A B:Prop} (hB:B) (hA:A) (e:Hid A→Hid B→G:=by (intro kA kB;(repeat' first | ((with_reducible refine cY ?_);go_step) | ((with_reducible refine cJ ?_);first | refine eS ?_ | (refine dD ?_ ?_ <;> intro _)) | fail);(rename_i z0 z1;revert z0 z1;with_reducible exact kA.out);(rename_i z0 z1;revert z0 z1;with_reducible exact kB.out))):G:=e ⟨hA⟩ ⟨hB⟩
theorem LK {G A B C:Prop} (hB:B) (hC:C) (hA:A) (e:Hid A→Hid B→Hid C→G:=by (intro kA kB kC;(repeat' first | ((with_reducible refine cY ?_);go_step) | ((with_reducible refine cJ ?_);first | refine eS ?_ | (refine dD ?_ ?_ <;> intro _)) | fail);(rename_i z0 z1;revert z0 z1;with_reducible exact kA.out);(rename_i z0 z1;revert z0 z1;with_reducible exact kB.out);(rename_i z0;revert z0;with_reducible exact kC.out))):G:=e ⟨hA⟩ ⟨hB⟩ ⟨hC⟩
theorem RK {G A B C D:Prop} (hB:B) (hC:C) (hD:D) (hA:A) (e:Hid A→Hid B→Hid C→Hid D→G:=by (intro kA kB kC kD;(repeat' first | ((with_reducible refine cY ?_);go_step) | ((with_reducible refine cJ ?_);first | refine eS ?_ | (refine dD ?_ ?_ <;> intro _)) | fail);(rename_i z0 z1;revert z0 z1;with_reducible exact kA.out);(rename_i z0 z1 z2;revert z0 z1 z2;with_reducible exact kB.out);(rename_i z0 z1 z2;revert z0 z1 z2;with_reducible exact kC.out);(rename_i z0;revert z0;with_reducible exact kD.out))):G:=e ⟨hA⟩ ⟨hB⟩ ⟨hC⟩ ⟨hD⟩
theorem QJ {G A B C:Prop} (hB:B) (hC:C) (hA:A) (e:Hid A→Hid B→Hid C→G:=by (intro kA kB kC;(repeat' first | ((with_reducible refine cY ?_);go_step) | ((with_reducible refine cJ ?_);first | refine eS ?_ | (refine dD ?_ ?_ <;> intro _)) | fail);(rename_i z0 z1;revert z0 z1;with_reducible exact kA.out);(rename_i z0 z1 z2 z3;revert z0 z1 z2 z3;with_reducible exact kB.out);(rename_i z0;revert z0;with_reducible exact kC.out))):G:=e ⟨hA⟩ ⟨hB⟩ ⟨hC⟩
theorem VU {G A B:Prop} (hB:B) (hA:A) (e:Hid A→Hid B→G:=by (intro kA kB;(repeat' first | ((with_reducible refine cY ?_);go_step) | ((with_reducible refine cJ ?_);first | refine eS ?_ | (refine dD ?_ ?_ <;> intro _)) | fail);(rename_i z0 z1;revert z0 z1;with_reducible exact kA.out);(rename_i z0 z1 z2 z3 z4;revert z0 z1 z2 z3 z4;with_reducible exact kB.out))):G:=e ⟨hA⟩ ⟨hB⟩
theorem zO {G A:Prop} (hA:A) (e:Hid A→G:=by (intro kA;(repeat' first | ((with_reducible refine cY ?_);go_step) | ((with_reducible refine cJ ?_);first | refine eS ?_ | (refine dD ?_ ?_ <;> intro _)) | fail);(rename_i z0 z1 z2;revert z0 z1 z2;with_reducible exact kA.out))):G:=e ⟨hA⟩
theorem LM {G A B:Prop} (hB:B) (hA:A) (e:Hid A→Hid B→G:=by (intro kA kB;(repeat' first | ((with_reducible refine cY ?_);go_step) | ((with_reducible refine cJ ?_);first | refine eS ?_ | (refine dD ?_ ?_ <;> intro _)) | fail);(rename_i z0 z1 z2;revert z0 z1 z2;with_reducible exact kA.out);(rename_i z0;revert z0;with_reducible exact kB.out))):G:=e ⟨hA⟩ ⟨hB⟩
theorem TV {G A B:Prop} (hB:B) (hA:A) (e:Hid A→Hid B→G:=by (intro kA kB;(repeat' first | ((with_reducible refine cY ?_);go_step) | ((with_reducible refine cJ ?_);first | refine eS ?_ | (refine dD ?_ ?_ <;> intro _)) | fail);(rename_i z0 z1 z2;revert z0 z1 z2;with_reducible exact kA.out);(rename_i z0 z1 z2;revert z0 z1 z2;with_reducible exact kB.out))):G:=e ⟨hA⟩ ⟨hB⟩
theorem QK {G A B C:Prop} (hB:B) (hC:C) (hA:A) (e:Hid A→Hid B→Hid C→G:=by (intro kA kB kC;(repeat' first | ((with_reducible refine cY ?_);go_step) | ((with_reducible refine cJ ?_);first | refine eS ?_ | (refine dD ?_ ?_ <;> intro _)) | fail);(rename_i z0 z1 z2;revert z0 z1 z2;with_reducible exact kA.out);(rename_i z0 z1 z2;revert z0 z1 z2;with_reducible exact kB.out);(rename_i z0;revert z0;with_reducible exact kC.out))):G:=e ⟨hA⟩ ⟨hB⟩ ⟨hC⟩
theorem RL {G A B C D:Prop} (hB:B) (hC:C) (hD:D) (hA:A) (e:Hid A→Hid B→Hid C→Hid D→G:=by (intro kA kB kC kD;(repeat' first | ((with_reducible refine cY ?_);go_step) | ((with_reducible refine cJ ?_);first | refine eS ?_ | (refine dD ?_ ?_ <;> intro _)) | fail);(rename_i z0 z1 z2;revert z0 z1 z2;with_reducible exact kA.out);(rename_i z0 z1 z2;revert z0 z1 z2;with_reducible exact kB.out);(rename_i z0 z1;revert z0 z1;with_reducible exact kC.out);(rename_i z0;revert z0;with_reducible exact kD.out))):G:=e ⟨hA⟩ ⟨hB⟩ ⟨hC⟩ ⟨hD⟩
theorem VW {G A B:Prop} (hB:B) (hA:A) (e:Hid A→Hid B→G:=by (intro kA kB;(repeat' first | ((with_reducible refine cY ?_);go_step) | ((with_reducible refine cJ ?_);first | refine eS ?_ | (refine dD ?_ ?_ <;> intro _)) | fail);(rename_i z0 z1 z2;revert z0 z1 z2;with_reducible exact kA.out);(rename_i z0 z1 z2 z3 z4;revert z0 z1 z2 z3 z4;with_reducible exact kB.out))):G:=e ⟨hA⟩ ⟨hB⟩
theorem oQ {G A:Prop} (hA:A) (e:Hid A→G:=by (intro kA;(repeat' first | ((with_reducible refine cY ?_);go_step) | ((with_reducible refine cJ ?_);first | refine eS ?_ | (refine dD ?_ ?_ <;> intro _)) | fail);(rename_i z0 z1 z2 z3;revert z0 z1 z2 z3;with_reducible exact kA.out))):G:=e ⟨hA⟩
theorem LN {G A B:Prop} (hB:B) (hA:A) (e:Hid A→Hid B→G:=by (intro kA kB;(repeat' first | ((with_reducible refine cY ?_);go_step) | ((with_reducible refine cJ ?_);first | refine eS ?_ | (refine dD ?_ ?_ <;> intro _)) | fail);(rename_i z0 z1 z2 z3;revert z0 z1 z2 z3;with_reducible exact kA.out);(rename_i z0 z1;revert z0 z1;with_reducible exact kB.out))):G:=e ⟨hA⟩ ⟨hB⟩
theorem DZ {G A B C:Prop} (hB:B) (hC:C) (hA:A) (e:Hid A→Hid B→Hid C→G:=by (intro kA kB kC;(repeat' first | ((with_reducible refine cY ?_);go_step) | ((with_reducible refine cJ ?_);first | refine eS ?_ | (refine dD ?_ ?_ <;> intro _)) | fail);(rename_i z0 z1 z2 z3;revert z0 z1 z2 z3;with_reducible exact kA.out);(rename_i z0 z1;revert z0 z1;with_reducible exact kB.out);(rename_i z0;revert z0;with_reducible exact kC.out))):G:=e ⟨hA⟩ ⟨hB⟩ ⟨hC⟩
theorem VX {G A B:Prop} (hB:B) (hA:A) (e:Hid A→Hid B→G:=by (intro kA kB;(repeat' first | ((with_reducible refine cY ?_);go_step) | ((with_reducible refine cJ ?_);first | refine eS ?_ | (refine dD ?_ ?_ <;> intro _)) | fail);(rename_i z0 z1 z2 z3;revert z0 z1 z2 z3;with_reducible exact kA.out);(rename_i z0 z1 z2 z3;revert z0 z1 z2 z3;with_reducible exact kB.out))):G:=e ⟨hA⟩ ⟨hB⟩
theorem TW {G A:Prop} (hA:A) (e:Hid A→G:=by (intro kA;(repeat' first | ((with_reducible refine cY ?_);go_step) | ((with_reducible refine cJ ?_);first | refine eS ?_ | (refine dD ?_ ?_ <;> intro _)) | fail);(rename_i z0 z1 z2 z3 z4;revert z0 z1 z2 z3 z4;with_reducible exact kA.out))):G:=e ⟨hA⟩
theorem RM {G A B:Prop} (hB:B) (hA:A) (e:Hid A→Hid B→G:=by (intro kA kB;(repeat' first | ((with_reducible refine cY ?_);go_step) | ((with_reducible refine cJ ?_);first | refine eS ?_ | (refine dD ?_ ?_ <;> intro _)) | fail);(rename_i z0 z1 z2 z3 z4;revert z0 z1 z2 z3 z4;with_reducible exact kA.out);(rename_i z0 z1 z2;revert z0 z1 z2;with_reducible exact kB.out))):G:=e ⟨hA⟩ ⟨hB⟩
theorem xG {G A:Prop} (hA:A) (e:Hid A→G:=by (intro kA;(repeat' first | ((with_reducible refine cY ?_);go_step) | ((with_reducible refine cJ ?_);first | refine eS ?_ | (refine dD ?_ ?_ <;> intro _)) | fail);(rename_i z0 z1 z2 z3 z4 z5;revert z0 z1 z2 z3 z4 z5;with_reducible exact kA.out))):G:=e ⟨hA⟩
theorem TX {G A B C:Prop} (hB:B) (hC:C) (hA:A) (e:Hid A→Hid B→Hid C→G:=by (intro kA kB kC;(repeat' first | ((with_reducible refine cY ?_);go_step) | ((with_reducible refine cJ ?_);first | refine eS ?_ | (refine dD ?_ ?_ <;> intro _)) | fail);(rename_i z0 z1 z2 z3 z4 z5;revert z0 z1 z2 z3 z4 z5;with_reducible exact kA.out);(rename_i z0 z1 z2 z3;revert z0 z1 z2 z3;with_reducible exact kB.out);(rename_i z0 z1 z2;revert z0 z1 z2;with_reducible exact kC.out))):G:=e ⟨hA⟩ ⟨hB⟩ ⟨hC⟩
theorem TY {G A B C:Prop} (hB:B) (hC:C) (hA:A) (e:Hid A→Hid B→Hid C→G:=by (intro kA kB kC;(repeat' first | ((with_reducible refine cY ?_);go_step) | ((with_reducible refine cJ ?_);first | refine eS ?_ | (refine dD ?_ ?_ <;> intro _)) | fail);(rename_i z0 z1 z2 z3 z4 z5;revert z0 z1 z2 z3 z4 z5;with_reducible exact kA.out);(rename_i z0 z1 z2 z3;revert z0 z1 z2 z3;with_reducible exact kB.out);(rename_i z0 z1 z2 z3 z4;revert z0 z1 z2 z3 z4;with_reducible exact kC.out))):G:=e ⟨hA⟩ ⟨hB⟩ ⟨hC⟩
theorem XI {G A:Prop} (hA:A) (e:Hid A→G:=by (intro kA;(repeat' first | ((with_reducible refine cY ?_);go_step) | ((with_reducible refine cJ ?_);first | refine eS ?_ | (refine dD ?_ ?_ <;> intro _)) | fail);(rename_i z0 z1 z2 z3 z4 z5 z6;revert z0 z1 z2 z3 z4 z5 z6;with_reducible exact kA.out))):G:=e ⟨hA⟩
theorem RN {G A B C D:Prop} (hB:B) (hC:C) (hD:D) (hA:A) (e:Hid A→Hid B→Hid C→Hid D→G:=by (intro kA kB kC kD;(repeat' first | ((with_reducible refine cY ?_);go_step) | ((with_reducible refine cJ ?_);first | refine eS ?_ | (refine dD ?_ ?_ <;> intro _)) | fail);(rename_i z0 z1 z2 z3 z4 z5 z6;revert z0 z1 z2 z3 z4 z5 z6;with_reducible exact kA.out);(rename_i z0 z1 z2 z3 z4;revert z0 z1 z2 z3 z4;with_reducible exact kB.out);(rename_i z0 z1 z2 z3 z4 z5;revert z0 z1 z2 z3 z4 z5;with_reducible exact kC.out);(rename_i z0 z1 z2 z3 z4;revert z0 z1 z2 z3 z4;with_reducible exact kD.out))):G:=e ⟨hA⟩ ⟨hB⟩ ⟨hC⟩ ⟨hD⟩
theorem XZ {G A:Prop} (hA:A) (e:Hid A→G:=by (intro kA;(repeat' first | ((with_reducible refine cY ?_);go_step) | ((with_reducible refine cJ ?_);first | refine eS ?_ | (refine dD ?_ ?_ <;> intro _)) | fail);(rename_i z0 z1 z2 z3 z4 z5 z6 z7 z8;revert z0 z1 z2 z3 z4 z5 z6 z7 z8;with_reducible exact kA.out))):G:=e ⟨hA⟩
theorem bG {G A:Prop} (hA:A) (e:Hid A→G:=by (intro kA;(repeat' first | ((with_reducible refine cY ?_);go_step) | ((with_reducible refine cJ ?_);first | refine iZ ?_ | (refine dD ?_ ?_ <;> intro _)) | fail);(with_reducible exact kA.out))):G:=e ⟨hA⟩
theorem nK {G A:Prop} (hA:A) (e:Hid A→G:=by (intro kA;(repeat' first | ((with_reducible refine cY ?_);go_step) | ((with_reducible refine cJ ?_);first | refine iZ ?_ | (refine dD ?_ ?_ <;> intro _)) | fail);(rename_i z0;revert z0;with_reducible exact kA.out))):G:=e ⟨hA⟩
theorem CA {G A B:Prop} (hB:B) (hA:A) (e:Hid A→Hid B→G:=by (intro kA kB;(repeat' first | ((with_reducible refine cY ?_);go_step) | ((with_reducible refine cJ ?_);first | refine iZ ?_ | (refine dD ?_ ?_ <;> intro _)) | fail);(rename_i z0;revert z0;with_reducible exact kA.out);(rename_i z0;revert z0;with_reducible exact kB.out))):G:=e ⟨hA⟩ ⟨hB⟩
theorem JN {G A B:Prop} (hB:B) (hA:A) (e:Hid A→Hid B→G:=by (intro kA kB;(repeat' first | ((with_reducible refine cY ?_);go_step) | ((with_reducible refine cJ ?_);first | refine iZ ?_ | (refine dD ?_ ?_ <;> intro _)) | fail);(rename_i z0;revert z0;with_reducible exact kA.out);(rename_i z0 z1 z2;revert z0 z1 z2;with_reducible exact kB.out))):G:=e ⟨hA⟩ ⟨hB⟩
theorem LO {G A B C:Prop} (hB:B) (hC:C) (hA:A) (e:Hid A→Hid B→Hid C→G:=by (intro kA kB kC;(repeat' first | ((with_reducible refine cY ?_);go_step) | ((with_reducible refine cJ ?_);first | refine iZ ?_ | (refine dD ?_ ?_ <;> intro _)) | fail);(rename_i z0;revert z0;with_reducible exact kA.out);(rename_i z0 z1 z2 z3;revert z0 z1 z2 z3;with_reducible exact kB.out);(rename_i z0 z1 z2 z3;revert z0 z1 z2 z3;with_reducible exact kC.out))):G:=e ⟨hA⟩ ⟨hB⟩ ⟨hC⟩
theorem TZ {G A B C:Prop} (hB:B) (hC:C) (hA:A) (e:Hid A→Hid B→Hid C→G:=by (intro kA kB kC;(repeat' first | ((with_reducible refine cY ?_);go_step) | ((with_reducible refine cJ ?_);first | refine iZ ?_ | (refine dD ?_ ?_ <;> intro _)) | fail);(rename_i z0;revert z0;with_reducible exact kA.out);(rename_i z0 z1 z2 z3 z4 z5;revert z0 z1 z2 z3 z4 z5;with_reducible exact kB.out);(rename_i z0 z1 z2 z3;revert z0 z1 z2 z3;with_reducible exact kC.out))):G:=e ⟨hA⟩ ⟨hB⟩ ⟨hC⟩
theorem dJ {G A:Prop} (hA:A) (e:Hid A→G:=by (intro kA;(repeat' first | ((with_reducible refine cY ?_);go_step) | ((with_reducible refine cJ ?_);first | refine iZ ?_ | (refine dD ?_ ?_ <;> intro _)) | fail);(rename_i z0 z1;revert z0 z1;with_reducible exact kA.out))):G:=e ⟨hA⟩
theorem VY {G A B:Prop} (hB:B) (hA:A) (e:Hid A→Hid B→G:=by (intro kA kB;(repeat' first | ((with_reducible refine cY ?_);go_step) | ((with_reducible refine cJ ?_);first | refine iZ ?_ | (refine dD ?_ ?_ <;> intro _)) | fail);(rename_i z0 z1;revert z0 z1;with_reducible exact kA.out);(rename_i z0;revert z0;with_reducible exact kB.out))):G:=e ⟨hA⟩ ⟨hB⟩
theorem UA {G A B C:Prop} (hB:B) (hC:C) (hA:A) (e:Hid A→Hid B→Hid C→G:=by (intro kA kB kC;(repeat' first | ((with_reducible refine cY ?_);go_step) | ((with_reducible refine cJ ?_);first | refine iZ ?_ | (refine dD ?_ ?_ <;> intro _)) | fail);(rename_i z0 z1;revert z0 z1;with_reducible exact kA.out);(rename_i z0 z1;revert z0 z1;with_reducible exact kB.out);(rename_i z0;revert z0;with_reducible exact kC.out))):G:=e ⟨hA⟩ ⟨hB⟩ ⟨hC⟩
theorem UB {G A B C:Prop} (hB:B) (hC:C) (hA:A) (e:Hid A→Hid B→Hid C→G:=by (intro kA kB kC;(repeat' first | ((with_reducible refine cY ?_);go_step) | ((with_reducible refine cJ ?_);first | refine iZ ?_ | (refine dD ?_ ?_ <;> intro _)) | fail);(rename_i z0 z1;revert z0 z1;with_reducible exact kA.out);(rename_i z0 z1 z2 z3;revert z0 z1 z2 z3;with_reducible exact kB.out);(rename_i z0;revert z0;with_reducible exact kC.out))):G:=e ⟨hA⟩ ⟨hB⟩ ⟨hC⟩
theorem vZ {G A:Prop} (hA:A) (e:Hid A→G:=by (intro kA;(repeat' first | ((with_reducible refine cY ?_);go_step) | ((with_reducible refine cJ ?_);first | refine iZ ?_ | (refine dD ?_ ?_ <;> intro _)) | fail);(rename_i z0 z1 z2;revert z0 z1 z2;with_reducible exact kA.out))):G:=e ⟨hA⟩
theorem OO {G A B:Prop} (hB:B) (hA:A) (e:Hid A→Hid B→G:=by (intro kA kB;(repeat' first | ((with_reducible refine cY ?_);go_step) | ((with_reducible refine cJ ?_);first | refine iZ ?_ | (refine dD ?_ ?_ <;> intro _)) | fail);(rename_i z0 z1 z2;revert z0 z1 z2;with_reducible exact kA.out);(rename_i z0;revert z0;with_reducible exact kB.out))):G:=e ⟨hA⟩ ⟨hB⟩
theorem oZ {G A B:Prop} (hB:B) (hA:A) (e:Hid A→Hid B→G:=by (intro kA kB;(repeat' first | ((with_reducible refine cY ?_);go_step) | ((with_reducible refine cJ ?_);first | refine iZ ?_ | (refine dD ?_ ?_ <;> intro _)) | fail);(rename_i z0 z1 z2;revert z0 z1 z2;with_reducible exact kA.out);(rename_i z0 z1 z2;revert z0 z1 z2;with_reducible exact kB.out))):G:=e ⟨hA⟩ ⟨hB⟩
theorem xH {G A B C D:Prop} (hB:B) (hC:C) (hD:D) (hA:A) (e:Hid A→Hid B→Hid C→Hid D→G:=by (intro kA kB kC kD;(repeat' first | ((with_reducible refine cY ?_);go_step) | ((with_reducible refine cJ ?_);first | refine iZ ?_ | (refine dD ?_ ?_ <;> intro _)) | fail);(rename_i z0 z1 z2;revert z0 z1 z2;with_reducible exact kA.out);(rename_i z0 z1 z2;revert z0 z1 z2;with_reducible exact kB.out);(rename_i z0 z1;revert z0 z1;with_reducible exact kC.out);(rename_i z0;revert z0;with_reducible exact kD.out))):G:=e ⟨hA⟩ ⟨hB⟩ ⟨hC⟩ ⟨hD⟩
theorem UC {G A B C:Prop} (hB:B) (hC:C) (hA:A) (e:Hid A→Hid B→Hid C→G:=by (intro kA kB kC;(repeat' first | ((with_reducible refine cY ?_);go_step) | ((with_reducible refine cJ ?_);first | refine iZ ?_ | (refine dD ?_ ?_ <;> intro _)) | fail);(rename_i z0 z1 z2;revert z0 z1 z2;with_reducible exact kA.out);(rename_i z0 z1 z2 z3;revert z0 z1 z2 z3;with_reducible exact kB.out);(rename_i z0 z1 z2 z3;revert z0 z1 z2 z3;with_reducible exact kC.out))):G:=e ⟨hA⟩ ⟨hB⟩ ⟨hC⟩
theorem GQ {G A B C D:Prop} (hB:B) (hC:C) (hD:D) (hA:A) (e:Hid A→Hid B→Hid C→Hid D→G:=by (intro kA kB kC kD;(repeat' first | ((with_reducible refine cY ?_);go_step) | ((with_reducible refine cJ ?_);first | refine iZ ?_ | (refine dD ?_ ?_ <;> intro _)) | fail);(rename_i z0 z1 z2;revert z0 z1 z2;with_reducible exact kA.out);(rename_i z0 z1 z2 z3;revert z0 z1 z2 z3;with_reducible exact kB.out);(rename_i z0 z1 z2 z3 z4;revert z0 z1 z2 z3 z4;with_reducible exact kC.out);(rename_i z0 z1 z2 z3 z4;revert z0 z1 z2 z3 z4;with_reducible exact kD.out))):G:=e ⟨hA⟩ ⟨hB⟩ ⟨hC⟩ ⟨hD⟩
theorem VZ {G A B:Prop} (hB:B) (hA:A) (e:Hid A→Hid B→G:=by (intro kA kB;(repeat' first | ((with_reducible refine cY ?_);go_step) | ((with_reducible refine cJ ?_);first | refine iZ ?_ | (refine dD ?_ ?_ <;> intro _)) | fail);(rename_i z0 z1 z2;revert z0 z1 z2;with_reducible exact kA.out);(rename_i z0 z1 z2 z3 z4;revert z0 z1 z2 z3 z4;with_reducible exact kB.out))):G:=e ⟨hA⟩ ⟨hB⟩
theorem RO {G A B C D:Prop} (hB:B) (hC:C) (hD:D) (hA:A) (e:Hid A→Hid B→Hid C→Hid D→G:=by (intro kA kB kC kD;(repeat' first | ((with_reducible refine cY ?_);go_step) | ((with_reducible refine cJ ?_);first | refine iZ ?_ | (refine dD ?_ ?_ <;> intro _)) | fail);(rename_i z0 z1 z2;revert z0 z1 z2;with_reducible exact kA.out);(rename_i z0 z1 z2 z3 z4;revert z0 z1 z2 z3 z4;with_reducible exact kB.out);(rename_i z0 z1;revert z0 z1;with_reducible exact kC.out);(rename_i z0;revert z0;with_reducible exact kD.out))):G:=e ⟨hA⟩ ⟨hB⟩ ⟨hC⟩ ⟨hD⟩
theorem UD {G A B C:Prop} (hB:B) (hC:C) (hA:A) (e:Hid A→Hid B→Hid C→G:=by (intro kA kB kC;(repeat' first | ((with_reducible refine cY ?_);go_step) | ((with_reducible refine cJ ?_);first | refine iZ ?_ | (refine dD ?_ ?_ <;> intro _)) | fail);(rename_i z0 z1 z2;revert z0 z1 z2;with_reducible exact kA.out);(rename_i z0 z1 z2 z3 z4 z5;revert z0 z1 z2 z3 z4 z5;with_reducible exact kB.out);(rename_i z0 z1 z2 z3 z4 z5;revert z0 z1 z2 z3 z4 z5;with_reducible exact kC.out))):G:=e ⟨hA⟩ ⟨hB⟩ ⟨hC⟩
theorem LP {G A B C D:Prop} (hB:B) (hC:C) (hD:D) (hA:A) (e:Hid A→Hid B→Hid C→Hid D→G:=by (intro kA kB kC kD;(repeat' first | ((with_reducible refine cY ?_);go_step) | ((with_reducible refine cJ ?_);first | refine iZ ?_ | (refine dD ?_ ?_ <;> intro _)) | fail);(rename_i z0 z1 z2;revert z0 z1 z2;with_reducible exact kA.out);(rename_i z0 z1 z2 z3 z4 z5;revert z0 z1 z2 z3 z4 z5;with_reducible exact kB.out);(rename_i z0 z1 z2 z3 z4 z5 z6;revert z0 z1 z2 z3 z4 z5 z6;with_reducible exact kC.out);(rename_i z0 z1 z2 z3 z4;revert z0 z1 z2 z3 z4;with_reducible exact kD.out))):G:=e ⟨hA⟩ ⟨hB⟩ ⟨hC⟩ ⟨hD⟩
theorem RP {G A B C D:Prop} (hB:B) (hC:C) (hD:D) (hA:A) (e:Hid A→Hid B→Hid C→Hid D→G:=by (intro kA kB kC kD;(repeat' first | ((with_reducible refine cY ?_);go_step) | ((with_reducible refine cJ ?_);first | refine iZ ?_ | (refine dD ?_ ?_ <;> intro _)) | fail);(rename_i z0 z1 z2;revert z0 z1 z2;with_reducible exact kA.out);(rename_i z0 z1 z2 z3 z4 z5;revert z0 z1 z2 z3 z4 z5;with_reducible exact kB.out);(rename_i z0 z1 z2 z3 z4 z5 z6;revert z0 z1 z2 z3 z4 z5 z6;with_reducible exact kC.out);(rename_i z0 z1 z2 z3 z4 z5 z6;revert z0 z1 z2 z3 z4 z5 z6;with_reducible exact kD.out))):G:=e ⟨hA⟩ ⟨hB⟩ ⟨hC⟩ ⟨hD⟩
theorem xI {G A:Prop} (hA:A) (e:Hid A→G:=by (intro kA;(repeat' first | ((with_reducible refine cY ?_);go_step) | ((with_reducible refine cJ ?_);first | refine iZ ?_ | (refine dD ?_ ?_ <;> intro _)) | fail);(rename_i z0 z1 z2 z3;revert z0 z1 z2 z3;with_reducible exact kA.out))):G:=e ⟨hA⟩
theorem WA {G A B:Prop} (hB:B) (hA:A) (e:Hid A→Hid B→G:=by (intro kA kB;(repeat' first | ((with_reducible refine cY ?_);go_step) | ((with_reducible refine cJ ?_);first | refine iZ ?_ | (refine dD ?_ ?_ <;> intro _)) | fail);(rename_i z0 z1 z2 z3;revert z0 z1 z2 z3;with_reducible exact kA.out);(rename_i z0 z1;revert z0 z1;with_reducible exact kB.out))):G:=e ⟨hA⟩ ⟨hB⟩
theorem UE {G A B:Prop} (hB:B) (hA:A) (e:Hid A→Hid B→G:=by (intro kA kB;(repeat' first | ((with_reducible refine cY ?_);go_step) | ((with_reducible refine cJ ?_);first | refine iZ ?_ | (refine dD ?_ ?_ <;> intro _)) | fail);(rename_i z0 z1 z2 z3;revert z0 z1 z2 z3;with_reducible exact kA.out);(rename_i z0 z1 z2;revert z0 z1 z2;with_reducible exact kB.out))):G:=e ⟨hA⟩ ⟨hB⟩
theorem UF {G A B:Prop} (hB:B) (hA:A) (e:Hid A→Hid B→G:=by (intro kA kB;(repeat' first | ((with_reducible refine cY ?_);go_step) | ((with_reducible refine cJ ?_);first | refine iZ ?_ | (refine dD ?_ ?_ <;> intro _)) | fail);(rename_i z0 z1 z2 z3;revert z0 z1 z2 z3;with_reducible exact kA.out);(rename_i z0 z1 z2 z3 z4;revert z0 z1 z2 z3 z4;with_reducible exact kB.out))):G:=e ⟨hA⟩ ⟨hB⟩
theorem UG {G A B C:Prop} (hB:B) (hC:C) (hA:A) (e:Hid A→Hid B→Hid C→G:=by (intro kA kB kC;(repeat' first | ((with_reducible refine cY ?_);go_step) | ((with_reducible refine cJ ?_);first | refine iZ ?_ | (refine dD ?_ ?_ <;> intro _)) | fail);(rename_i z0 z1 z2 z3;revert z0 z1 z2 z3;with_reducible exact kA.out);(rename_i z0 z1 z2 z3 z4;revert z0 z1 z2 z3 z4;with_reducible exact kB.out);(rename_i z0 z1 z2 z3 z4;revert z0 z1 z2 z3 z4;with_reducible exact kC.out))):G:=e ⟨hA⟩ ⟨hB⟩ ⟨hC⟩
theorem LQ {G A:Prop} (hA:A) (e:Hid A→G:=by (intro kA;(repeat' first | ((with_reducible refine cY ?_);go_step) | ((with_reducible refine cJ ?_);first | refine iZ ?_ | (refine dD ?_ ?_ <;> intro _)) | fail);(rename_i z0 z1 z2 z3 z4;revert z0 z1 z2 z3 z4;with_reducible exact kA.out))):G:=e ⟨hA⟩
theorem UH {G A B:Prop} (hB:B) (hA:A) (e:Hid A→Hid B→G:=by (intro kA kB;(repeat' first | ((with_reducible refine cY ?_);go_step) | ((with_reducible refine cJ ?_);first | refine iZ ?_ | (refine dD ?_ ?_ <;> intro _)) | fail);(rename_i z0 z1 z2 z3 z4;revert z0 z1 z2 z3 z4;with_reducible exact kA.out);(rename_i z0 z1 z2;revert z0 z1 z2;with_reducible exact kB.out))):G:=e ⟨hA⟩ ⟨hB⟩
theorem WB {G A B:Prop} (hB:B) (hA:A) (e:Hid A→Hid B→G:=by (intro kA kB;(repeat' first | ((with_reducible refine cY ?_);go_step) | ((with_reducible refine cJ ?_);first | refine iZ ?_ | (refine dD ?_ ?_ <;> intro _)) | fail);(rename_i z0 z1 z2 z3 z4;revert z0 z1 z2 z3 z4;with_reducible exact kA.out);(rename_i z0 z1 z2 z3;revert z0 z1 z2 z3;with_reducible exact kB.out))):G:=e ⟨hA⟩ ⟨hB⟩
theorem UI {G A B C:Prop} (hB:B) (hC:C) (hA:A) (e:Hid A→Hid B→Hid C→G:=by (intro kA kB kC;(repeat' first | ((with_reducible refine cY ?_);go_step) | ((with_reducible refine cJ ?_);first | refine iZ ?_ | (refine dD ?_ ?_ <;> intro _)) | fail);(rename_i z0 z1 z2 z3 z4;revert z0 z1 z2 z3 z4;with_reducible exact kA.out);(rename_i z0 z1 z2 z3;revert z0 z1 z2 z3;with_reducible exact kB.out);(rename_i z0 z1 z2;revert z0 z1 z2;with_reducible exact kC.out))):G:=e ⟨hA⟩ ⟨hB⟩ ⟨hC⟩
theorem WC {G A B:Prop} (hB:B) (hA:A) (e:Hid A→Hid B→G:=by (intro kA kB;(repeat' first | ((with_reducible refine cY ?_);go_step) | ((with_reducible refine cJ ?_);first | refine iZ ?_ | (refine dD ?_ ?_ <;> intro _)) | fail);(rename_i z0 z1 z2 z3 z4;revert z0 z1 z2 z3 z4;with_reducible exact kA.out);(rename_i z0 z1 z2 z3 z4;revert z0 z1 z2 z3 z4;with_reducible exact kB.out))):G:=e ⟨hA⟩ ⟨hB⟩
theorem RQ {G A B C D:Prop} (hB:B) (hC:C) (hD:D) (hA:A) (e:Hid A→Hid B→Hid C→Hid D→G:=by (intro kA kB kC kD;(repeat' first | ((with_reducible refine cY ?_);go_step) | ((with_reducible refine cJ ?_);first | refine iZ ?_ | (refine dD ?_ ?_ <;> intro _)) | fail);(rename_i z0 z1 z2 z3 z4;revert z0 z1 z2 z3 z4;with_reducible exact kA.out);(rename_i z0 z1 z2 z3 z4;revert z0 z1 z2 z3 z4;with_reducible exact kB.out);(rename_i z0 z1 z2 z3;revert z0 z1 z2 z3;with_reducible exact kC.out);(rename_i z0 z1 z2;revert z0 z1 z2;with_reducible exact kD.out))):G:=e ⟨hA⟩ ⟨hB⟩ ⟨hC⟩ ⟨hD⟩
theorem RS {G A B C D:Prop} (hB:B) (hC:C) (hD:D) (hA:A) (e:Hid A→Hid B→Hid C→Hid D→G:=by (intro kA kB kC kD;(repeat' first | ((with_reducible refine cY ?_);go_step) | ((with_reducible refine cJ ?_);first | refine iZ ?_ | (refine dD ?_ ?_ <;> intro _)) | fail);(rename_i z0 z1 z2 z3 z4;revert z0 z1 z2 z3 z4;with_reducible exact kA.out);(rename_i z0 z1 z2 z3 z4 z5 z6;revert z0 z1 z2 z3 z4 z5 z6;with_reducible exact kB.out);(rename_i z0 z1 z2 z3 z4;revert z0 z1 z2 z3 z4;with_reducible exact kC.out);(rename_i z0 z1 z2 z3;revert z0 z1 z2 z3;with_reducible exact kD.out))):G:=e ⟨hA⟩ ⟨hB⟩ ⟨hC⟩ ⟨hD⟩
theorem GI {G A:Prop} (hA:A) (e:Hid A→G:=by (intro kA;(repeat' first | ((with_reducible refine cY ?_);go_step) | ((with_reducible refine cJ ?_);first | refine iZ ?_ | (refine dD ?_ ?_ <;> intro _)) | fail);(rename_i z0 z1 z2 z3 z4 z5;revert z0 z1 z2 z3 z4 z5;with_reducible exact kA.out))):G:=e ⟨hA⟩
theorem WD {G A B:Prop} (hB:B) (hA:A) (e:Hid A→Hid B→G:=by (intro kA kB;(repeat' first | ((with_reducible refine cY ?_);go_step) | ((with_reducible refine cJ ?_);first | refine iZ ?_ | (refine dD ?_ ?_ <;> intro _)) | fail);(rename_i z0 z1 z2 z3 z4 z5;revert z0 z1 z2 z3 z4 z5;with_reducible exact kA.out);(rename_i z0 z1 z2;revert z0 z1 z2;with_reducible exact kB.out))):G:=e ⟨hA⟩ ⟨hB⟩
theorem RT {G A B:Prop} (hB:B) (hA:A) (e:Hid A→Hid B→G:=by (intro kA kB;(repeat' first | ((with_reducible refine cY ?_);go_step) | ((with_reducible refine cJ ?_);first | refine iZ ?_ | (refine dD ?_ ?_ <;> intro _)) | fail);(rename_i z0 z1 z2 z3 z4 z5;revert z0 z1 z2 z3 z4 z5;with_reducible exact kA.out);(rename_i z0 z1 z2 z3 z4;revert z0 z1 z2 z3 z4;with_reducible exact kB.out))):G:=e ⟨hA⟩ ⟨hB⟩
theorem UJ {G A B:Prop} (hB:B) (hA:A) (e:Hid A→Hid B→G:=by (intro kA kB;(repeat' first | ((with_reducible refine cY ?_);go_step) | ((with_reducible refine cJ ?_);first | refine iZ ?_ | (refine dD ?_ ?_ <;> intro _)) | fail);(rename_i z0 z1 z2 z3 z4 z5;revert z0 z1 z2 z3 z4 z5;with_reducible exact kA.out);(rename_i z0 z1 z2 z3 z4 z5;revert z0 z1 z2 z3 z4 z5;with_reducible exact kB.out))):G:=e ⟨hA⟩ ⟨hB⟩
theorem XJ {G A:Prop} (hA:A) (e:Hid A→G:=by (intro kA;(repeat' first | ((with_reducible refine cY ?_);go_step) | ((with_reducible refine cJ ?_);first | refine iZ ?_ | (refine dD ?_ ?_ <;> intro _)) | fail);(rename_i z0 z1 z2 z3 z4 z5 z6;revert z0 z1 z2 z3 z4 z5 z6;with_reducible exact kA.out))):G:=e ⟨hA⟩
theorem WE {G A B:Prop} (hB:B) (hA:A) (e:Hid A→Hid B→G:=by (intro kA kB;(repeat' first | ((with_reducible refine cY ?_);go_step) | ((with_reducible refine cJ ?_);first | refine iZ ?_ | (refine dD ?_ ?_ <;> intro _)) | fail);(rename_i z0 z1 z2 z3 z4 z5 z6;revert z0 z1 z2 z3 z4 z5 z6;with_reducible exact kA.out);(rename_i z0 z1 z2 z3 z4 z5;revert z0 z1 z2 z3 z4 z5;with_reducible exact kB.out))):G:=e ⟨hA⟩ ⟨hB⟩
theorem RU {G A B C D:Prop} (hB:B) (hC:C) (hD:D) (hA:A) (e:Hid A→Hid B→Hid C→Hid D→G:=by (intro kA kB kC kD;(repeat' first | ((with_reducible refine cY ?_);go_step) | ((with_reducible refine cJ ?_);first | refine iZ ?_ | (refine dD ?_ ?_ <;> intro _)) | fail);(rename_i z0 z1 z2 z3 z4 z5 z6;revert z0 z1 z2 z3 z4 z5 z6;with_reducible exact kA.out);(rename_i z0 z1 z2 z3 z4 z5 z6;revert z0 z1 z2 z3 z4 z5 z6;with_reducible exact kB.out);(rename_i z0 z1 z2 z3 z4;revert z0 z1 z2 z3 z4;with_reducible exact kC.out);(rename_i z0 z1 z2 z3 z4 z5;revert z0 z1 z2 z3 z4 z5;with_reducible exact kD.out))):G:=e ⟨hA⟩ ⟨hB⟩ ⟨hC⟩ ⟨hD⟩
theorem XK {G A:Prop} (hA:A) (e:Hid A→G:=by (intro kA;(repeat' first | ((with_reducible refine cY ?_);go_step) | ((with_reducible refine cJ ?_);first | refine iZ ?_ | (refine dD ?_ ?_ <;> intro _)) | fail);(rename_i z0 z1 z2 z3 z4 z5 z6 z7;revert z0 z1 z2 z3 z4 z5 z6 z7;with_reducible exact kA.out))):G:=e ⟨hA⟩
theorem YA {G A:Prop} (hA:A) (e:Hid A→G:=by (intro kA;(repeat' first | ((with_reducible refine cY ?_);go_step) | ((with_reducible refine cJ ?_);first | refine iZ ?_ | (refine dD ?_ ?_ <;> intro _)) | fail);(rename_i z0 z1 z2 z3 z4 z5 z6 z7 z8;revert z0 z1 z2 z3 z4 z5 z6 z7 z8;with_reducible exact kA.out))):G:=e ⟨hA⟩
end Go.Proofs.X
set_option linter.unusedSimpArgs false
set_option linter.unusedVariables false
namespace Go.Proofs.X
open Go.RowKit
set_option maxRecDepth 100000
theorem OP {b:UInt8} (h:65≤b.toNat) (h2:b.toNat≤90):IntKind.wrap .u8 (IntKind.wrap .u8 ((b.toNat:Int) - 65) + 97)=((tP b).toNat:Int):=by
 rw [tP,if_pos ⟨h,h2⟩]
 rw [UInt8.toNat_add]
 simp only [IntKind.wrap,IntKind.bits,IntKind.signed]
 have:(32:UInt8).toNat=32:=rfl
 rw [this]
 simp
 omega
theorem xJ (l:List UInt8) (k:Nat) (b:UInt8) (h:l[k]? = some b):(aS l)[k]? = some [.int .u8 (b.toNat:Nat)]:=by simp [aS,h]
theorem xK (l:List UInt8) (k:Nat) (b:UInt8):(aS l).set k [.int .u8 (b.toNat:Nat)]=aS (l.set k b):=by simp [aS,List.map_set]
theorem YB (l:List UInt8) (w:World) (hl:l.length≤254):Calls Tryz.prog 70 #[aI l] w (bM w (aI (low l))):=by
 go_enter Tryz.func70,Tryz.ntmps70
 refine_lift dR fun _ _ => ?_
 refine qD (e:=5) (l:=l) rfl rfl (by decide +kernel) (by decide +kernel) (by omega) ?_
 intro v w1 x1 o1
 refine aA ?_
 have sl:=o1.sl
 refine_lift dR fun _ _ => ?_
 clear sl
 have hlb:(aS l).length=l.length:=by simp [aS]
 rw [hlb]
 go_loopw [10] (fun i wr=>∃ k:Nat,k≤l.length∧i=.int .i64 k∧Ext w wr∧Own w.heap.size 1 5 wr v (aS (mD l k))) (fun i _=>l.length - (intOf i).toNat)
 case atStart=>exact ⟨0,Nat.zero_le _,rfl,x1,by simpa [AF] using o1⟩
 case round =>
  obtain ⟨k,hk,rfl,hx,ho⟩:=hrel
  have hsl:=ho.sl
  have hlen:(aS (mD l k)).length=l.length:=by simp [aS,oV]
  by_cases hlt:k < l.length
  ·have hp:=hsl.elem (xJ _ _ _ (wY l k hlt))
   (repeat' first | ((with_reducible refine cY ?_);go_step) | ((with_reducible refine cJ ?_);first | refine eS ?_ | (refine dD ?_ ?_ <;> intro hc)) | fail)
   ·rename_i h1 h2
    refine fE (c:=.int .u8 _) (i:=k) rfl rfl rfl ho (by omega) (by decide +kernel) rfl ?_
    intro w2 o2 m2
    have hx2:=ho.mvx m2 hx (Nat.le_refl _)
    have e2:(aS (mD l k)).set k [Value.int .u8 (IntKind.u8.wrap (IntKind.u8.wrap (↑l[k].toNat - 65) + 97))]=aS (mD l (k + 1)):=by
     rw [tQ l k hlt,← xK,OP (by omega) (by omega)]
    rw [e2] at o2
    clear hx ho hsl hp
    refine_lift bR ?_
    exact ⟨⟨k + 1,by omega,rfl,hx2,o2⟩,by simp [intOf];omega⟩
   ·refine ⟨⟨k + 1,by omega,rfl,hx,?_⟩,by simp [intOf];omega⟩
    rw [tR l k hlt (BZ (by omega))];exact ho
   ·refine ⟨⟨k + 1,by omega,rfl,hx,?_⟩,by simp [intOf];omega⟩
    rw [tR l k hlt (BZ (by omega))];exact ho
  ·have:k=l.length:=by omega
   subst this
   rw [DS] at hsl
   refine_lift jP fun _ => ?_
   go_ret
   exact ⟨rfl,hx⟩
def CB (w:World) (b:Nat):Nat:=match w.cell? ⟨b,0,none⟩ with | some (.string s)=>s.size | _=>0
theorem xL {w:World} {b:Nat} {l:List UInt8} {t:TypeId} {fr:Nat × Nat} (h:w.heap[b]? = some (.cells #[aI l] t fr)):CB w b=l.length:=by
 unfold CB
 rw [cell_of_row w b 0 _ t fr h]
 simp [aI,fD,-ByteArray.size_data]
def IE (P:Program) (l b:Nat) (lp:Loop) (J:List (List UInt8)→World→Prop) (Jx:World→Prop):Prop :=
 (∀ pre x rest W,pre.length < 254→J pre W→W.heap[b]? = some (.cells #[aI rest] 47 (0,0))→RoundIn Fence.wide 0 P l lp.fn ((lp.params.zip #[aI x, .bool true]).foldl (fun tmps (t,a)=>tmps.setIfInBounds t a) lp.tmps) lp.assign lp.body W
    fun e W'=>e=.returned (.bool true)∧J (pre ++ [x]) W'∧W'.heap[b]? = some (.cells #[aI rest] 47 (0,0))) ∧
 (∀ pre W,J pre W→RoundIn Fence.wide 0 P l lp.fn ((lp.params.zip #[aI [], .bool false]).foldl (fun tmps (t,a)=>tmps.setIfInBounds t a) lp.tmps) lp.assign lp.body W fun e W'=>e=.returned (.bool false)∧Jx W')
set_option maxHeartbeats 1000000 in
theorem YC (l b:Nat) (lp:Loop) (J:List (List UInt8)→World→Prop) (Jx:World→Prop) (hp:lp.params.size=2) (hL:∀ pre W,J pre W→W.heap[l]? = some (.loop lp))
 (hput:∀ pre W W' o,J pre W→Put W W' b o→J pre W') (hy:IE Tryz.prog l b lp J Jx) (nm:List UInt8) (w:World) (h0:J [] w) (hb:w.heap[b]? = some (.cells #[aI nm] 47 (0,0))) (hlen:nm.length≤254) :
 Calls Tryz.prog 177 #[.func (.yield l) #[] #[], .pointer (some ⟨b,0,none⟩)] w fun e w'=>e=.returned (.tuple #[])∧match gT nm with | some ls=>J ls w' | none=>Jx w':=by
 go_enter Tryz.func177,Tryz.ntmps177
 iterate 2 go_step
 go_loopw [3] (fun _ wr=>∃ pre rest,J pre wr∧wr.heap[b]? = some (.cells #[aI rest] 47 (0,0))∧pre.length + rest.length≤254∧gT nm=(gT rest).map (pre ++ ·)) (fun _ wr=>CB wr b)
 case atStart=>exact ⟨[],nm,h0,hb,by simpa using hlen,by simp⟩
 case round =>
  obtain ⟨pre,rest,hJ,hbr,hrl,hpar⟩:=hrel
  have hc:=aE (cs:=[aI rest]) hbr
  cases rest with
  | nil =>
   refine_lift bR ?_
   refine bodyPost_end (results_none rfl _ _ _) rfl ⟨rfl,?_⟩
   rw [hpar,tO]
   simpa using hJ
  | cons k t =>
   have hk:k.toNat < 256:=k.toNat_lt
   have hlt:t.length≤253:=by simp only [List.length_cons] at hrl;omega
   have hfalse:(k.toNat < 1∨63 < k.toNat∨t.length < k.toNat)→gT nm=none:=by
    intro h
    rw [hpar,lD,if_pos h];rfl
   have htrue:¬ (k.toNat < 1∨63 < k.toNat∨t.length < k.toNat)→gT nm=(gT (t.drop k.toNat)).map ((pre ++ [t.take k.toNat]) ++ ·):=by
    intro h
    rw [hpar,lD,if_neg h,Option.map_map]
    congr 1
    funext x
    simp
   have Hp:=Lib.hid hpar
   clear hpar
   repeat' (first | (refine gI (id:=3) ?_) | (refine gI (id:=4) ?_) | ((with_reducible apply wO);(rfl);exact rn;refine aA ?_) | (with_reducible (apply wQ)) | ((with_reducible refine cJ ?_);(first | (refine jO ?_;refine GO ?_) | (refine oN ?_;first | refine qV ?_ | refine JH ?_ | refine JJ ?_ | refine JI ?_ | ((first | refine IA ?_ ?_ | refine IB ?_ ?_) <;> intro hc)))) | ((fail_if_success (with_reducible refine cJ ?_));go_step))
   rotate_left
   ·refine wP (lp:=lp) rfl rfl rfl (hL _ _ hJ) (by simp [hp]) (hy.1 _ _ _ _ (by simp only [List.length_cons] at hrl;omega) hJ hbr) ?_
    rintro e W' ⟨rfl,hJ',hb'⟩
    refine ⟨_,rfl,?_⟩
    simp only [List.set_cons_succ,List.set_cons_zero]
    rw [show List.drop 1 (List.take (k.toNat + 1) (k :: t))=t.take k.toNat by simp] at hJ'
    have hc2:=aE (cs:=[aI (k :: t)]) hb'
    clear hJ
    have hlt2:k.toNat≤t.length:=by simp only [List.length_cons] at *;omega
    repeat' (first | (refine gI (id:=3) ?_) | (refine gI (id:=4) ?_) | ((with_reducible apply wO);(rfl);exact rn;refine aA ?_) | (with_reducible (apply wQ)) | ((with_reducible refine cJ ?_);(first | (refine jO ?_;refine GO ?_) | (refine oN ?_;first | refine qV ?_ | refine JH ?_ | refine JJ ?_ | refine JI ?_ | ((first | refine IA ?_ ?_ | refine IB ?_ ?_) <;> intro hc)))) | ((fail_if_success (with_reducible refine cJ ?_));go_step))
    refine fB (v:=aI (List.drop (k.toNat + 1) (k :: t))) rfl rfl rfl hb' (by decide +kernel) rfl ?_
    intro W2 hput2
    refine_lift bR ?_
    have hb2:=hput2.this
    have hJ2:=hput _ _ _ _ hJ' hput2
    have hd:List.drop (k.toNat + 1) (k :: t)=t.drop k.toNat:=by simp
    go_roundw
    case rel=>exact ⟨pre ++ [t.take k.toNat],t.drop k.toNat,hJ2,by rw [← hd];exact hb2,by simp at hrl ⊢;omega,htrue (by omega)⟩
    case measure =>
     rw [xL hb2,xL hbr]
     simp;omega
   all_goals
    refine wP (lp:=lp) rfl rfl rfl (hL _ _ hJ) (by simp [hp]) (hy.2 _ _ hJ) ?_
    rintro e W' ⟨rfl,hx⟩
    refine ⟨_,rfl,?_⟩
    simp only [List.set_cons_succ,List.set_cons_zero]
    repeat' (first | (refine gI (id:=3) ?_) | (refine gI (id:=4) ?_) | ((with_reducible apply wO);(rfl);exact rn;refine aA ?_) | (with_reducible (apply wQ)) | ((with_reducible refine cJ ?_);(first | (refine jO ?_;refine GO ?_) | (refine oN ?_;first | refine qV ?_ | refine JH ?_ | refine JJ ?_ | refine JI ?_ | ((first | refine IA ?_ ?_ | refine IB ?_ ?_) <;> intro hc)))) | ((fail_if_success (with_reducible refine cJ ?_));go_step))
    refine bodyPost_ret (results_none rfl _ _ _) rfl ⟨rfl,?_⟩
    rw [hfalse (by simp only [List.length_cons] at *;omega)]
    exact hx
end Go.Proofs.X
