/- Laws and walks that the proof of the statement is made of (part 3). -/
import Derived.Test.YtgljkfpcadempaaGreatP2
namespace Go.Proofs.X
open Go
def EL : Nat → List UInt8 → Option (List (List UInt8))
 | _, [] => some []
 | 0, _ :: _ => none
 | f + 1, k :: t => if k.toNat < 1 ∨ 63 < k.toNat ∨ t.length < k.toNat then none else (EL f (t.drop k.toNat)).map (t.take k.toNat :: ·)
theorem qJ : ∀ (f : Nat) (l : List UInt8), l.length ≤ f → EL f l = EL l.length l
 | 0, [], _ => rfl
 | f + 1, [], _ => rfl
 | f + 1, k :: t, h => by
   simp only [List.length_cons] at h ⊢
   unfold EL
   split
   ·rfl
   ·rw [qJ f (t.drop k.toNat) (by simp; omega), qJ t.length (t.drop k.toNat) (by simp)]
def fJ (l : List UInt8) : Option (List (List UInt8)) := EL l.length l
theorem qK : fJ [] = some [] := rfl
theorem iW (k : UInt8) (t : List UInt8) : fJ (k :: t) = if k.toNat < 1 ∨ 63 < k.toNat ∨ t.length < k.toNat then none else (fJ (t.drop k.toNat)).map (t.take k.toNat :: ·) := by
 unfold fJ
 simp only [List.length_cons]
 rw [EL]
 split
 ·rfl
 ·rw [qJ t.length (t.drop k.toNat) (by simp)]
def aV (n : List UInt8) : Option (List (List UInt8)) := if 254 < n.length then none else fJ n
def qL (b : UInt8) : UInt8 := if 65 ≤ b.toNat ∧ b.toNat ≤ 90 then b + 32 else b
def low (l : List UInt8) : List UInt8 := l.map qL
def enc (ls : List (List UInt8)) : List UInt8 := (ls.map fun x => UInt8.ofNat x.length :: x).flatten
def jF (x : List UInt8) : Bool := decide (1 ≤ x.length) && decide (x.length ≤ 63)
def nM (ls : List (List UInt8)) : Option (List UInt8) := if ls.all jF = true ∧ (enc ls).length ≤ 254 then some (enc ls) else none
def fold (n : List UInt8) : List UInt8 := match aV n with | none => n | some ls => (nM (ls.map low)).getD []
def jT (l : List UInt8) (k : Nat) : List UInt8 := low (l.take k) ++ l.drop k
theorem mH (l : List UInt8) (k : Nat) : (jT l k).length = l.length := by simp [jT, low]; omega
theorem wE (l : List UInt8) : jT l 0 = l := by simp [jT, low]
theorem zK (l : List UInt8) : jT l l.length = low l := by simp [jT]
theorem tF (l : List UInt8) (k : Nat) (h : k < l.length) : (jT l k)[k]? = some l[k] := by
 have hm : (low (l.take k)).length = k := by simp [low]; omega
 rw [jT, List.getElem?_append_right (by omega), hm]
 simp [h]
theorem qM (l : List UInt8) (k : Nat) (h : k < l.length) : jT l (k + 1) = (jT l k).set k (qL l[k]) := by
 have hm : (low (l.take k)).length = k := by simp [low]; omega
 have h1 : l.take (k + 1) = l.take k ++ [l[k]] := by rw [List.take_add_one, List.getElem?_eq_getElem h]; rfl
 have h2 : l.drop k = l[k] :: l.drop (k + 1) := List.drop_eq_getElem_cons h
 unfold jT
 rw [List.set_append_right _ _ (by omega), hm, h2, h1, Nat.sub_self, List.set_cons_zero]
 simp only [low, List.map_append, List.map_cons, List.map_nil, List.append_assoc, List.singleton_append]
theorem qN (l : List UInt8) (k : Nat) (h : k < l.length) (hs : qL l[k] = l[k]) : jT l (k + 1) = jT l k := by
 rw [qM l k h, hs]
 apply List.ext_getElem?
 intro j
 by_cases hj : k = j
 ·subst hj; rw [List.getElem?_set_self (by rw [mH]; exact h), tF l k h]
 ·rw [List.getElem?_set_ne hj]
theorem xY {b : UInt8} (h : ¬ (65 ≤ b.toNat ∧ b.toNat ≤ 90)) : qL b = b := by rw [qL, if_neg h]
def qO {α : Type} (f : α → α) (l : List α) (k : Nat) : List α := (l.take k).map f ++ l.drop k
theorem zL {α : Type} (f : α → α) (l : List α) (k : Nat) : (qO f l k).length = l.length := by simp [qO]; omega
theorem EM {α : Type} (f : α → α) (l : List α) : qO f l 0 = l := by simp [qO]
theorem GK {α : Type} (f : α → α) (l : List α) : qO f l l.length = l.map f := by simp [qO]
theorem GL {α : Type} (f : α → α) (l : List α) (k : Nat) (h : k < l.length) : (qO f l k)[k]? = some l[k] := by
 have hm : ((l.take k).map f).length = k := by simp; omega
 rw [qO, List.getElem?_append_right (by omega), hm]
 simp [h]
theorem EN {α : Type} (f : α → α) (l : List α) (k : Nat) (h : k < l.length) : qO f l (k + 1) = (qO f l k).set k (f l[k]) := by
 have hm : ((l.take k).map f).length = k := by simp; omega
 have h1 : l.take (k + 1) = l.take k ++ [l[k]] := by rw [List.take_add_one, List.getElem?_eq_getElem h]; rfl
 have h2 : l.drop k = l[k] :: l.drop (k + 1) := List.drop_eq_getElem_cons h
 unfold qO
 rw [List.set_append_right _ _ (by omega), hm, h2, h1, Nat.sub_self, List.set_cons_zero]
 simp only [List.map_append, List.map_cons, List.map_nil, List.append_assoc, List.singleton_append]
theorem wF : ∀ (n : Nat) (l : List UInt8), l.length ≤ n → ∀ ls, fJ l = some ls → ls.all jF = true ∧ enc ls = l
 | _, [], _, ls, h => by
   rw [qK] at h; cases h; exact ⟨rfl, rfl⟩
 | 0, _ :: _, hn, _, _ => by simp at hn
 | n + 1, k :: t, hn, ls, h => by
   rw [iW] at h
   split at h
   ·cases h
   ·rename_i hk
    cases hp : fJ (t.drop k.toNat) with
    | none => rw [hp] at h; cases h
    | some ms =>
     rw [hp] at h
     cases h
     obtain ⟨h1, h2⟩ := wF n (t.drop k.toNat) (by simp at hn ⊢; omega) ms hp
     have hlen : (t.take k.toNat).length = k.toNat := by simp; omega
     refine ⟨?_, ?_⟩
     ·simp only [List.all_cons, h1, Bool.and_true, jF, hlen, Bool.and_eq_true, decide_eq_true_eq]; omega
     ·have : enc (t.take k.toNat :: ms) = UInt8.ofNat (t.take k.toNat).length :: (t.take k.toNat) ++ enc ms := by simp [enc]
      rw [this, h2, hlen]
      simp
theorem eA {l : List UInt8} {ls : List (List UInt8)} (h : aV l = some ls) : ls.all jF = true ∧ enc ls = l ∧ l.length ≤ 254 := by
 unfold aV at h
 split at h
 ·cases h
 ·have := wF l.length l (Nat.le_refl _) ls h
  exact ⟨this.1, this.2, by omega⟩
theorem tG (l : List UInt8) : (low l).length = l.length := by simp [low]
theorem lD : ∀ ls : List (List UInt8), (enc ls).length = (ls.map fun x => x.length + 1).sum
 | [] => rfl
 | x :: ls => by
   have := lD ls
   have e : enc (x :: ls) = UInt8.ofNat x.length :: x ++ enc ls := by simp [enc]
   rw [e]
   simp [this]; omega
theorem tH (ls : List (List UInt8)) : (enc (ls.map low)).length = (enc ls).length := by
 rw [lD, lD, List.map_map]
 congr 1
 apply List.map_congr_left
 intro x _
 simp [tG]
theorem gL (ls : List (List UInt8)) : ls.length ≤ (enc ls).length := by
 rw [lD]
 induction ls with
 | nil => simp
 | cons x ls ih => simp; omega
theorem lE {x : List UInt8} : ∀ {ls : List (List UInt8)}, x ∈ ls → x.length < (enc ls).length
 | y :: ls, h => by
   have e : enc (y :: ls) = UInt8.ofNat y.length :: y ++ enc ls := by simp [enc]
   rw [e]
   rcases List.mem_cons.1 h with rfl | h
   ·simp; omega
   ·have := lE h
    simp; omega
def mI (a b : List UInt8) : Int := if Op.bytesLess a b = true then -1 else if Op.bytesLess a b = false ∧ a ≠ b then 1 else 0
def fU : List (List UInt8) → List (List UInt8) → Int
 | [], [] => 0
 | [], _ :: _ => -1
 | _ :: _, [] => 1
 | x :: xs, y :: ys => if mI x y ≠ 0 then mI x y else fU xs ys
def dC (n : List UInt8) : Option (List (List UInt8)) := (aV (fold n)).map List.reverse
def lF (a b : List UInt8) : Int := match dC a, dC b with
 | none, none => mI a b
 | none, some _ => -1
 | some _, none => 1
 | some x, some y => fU x y
def gX (s : List UInt8) : Option (List UInt8) := if Lib.hasSuffix s [0] = true ∧ (aV (Lib.trimSuffix s [0])).isSome = true then some (Lib.trimSuffix s [0]) else none
def iC (k : Int) : Int := if k = 33 then 6 else if k = 15 then 2 else if k = 2 ∨ k = 5 ∨ k = 12 then 0 else -1
def bE (k : Int) (d : List UInt8) : List UInt8 × Int :=
 if iC k < 0 then ([], 5) else if (d.length : Int) < iC k then ([], 2) else match gX (d.drop (iC k).toNat) with
  | none => ([], 2)
  | some n => (n, 0)
def wG : Nat → List UInt8 → Nat
 | _, [] => 0
 | 0, _ :: _ => 0
 | f + 1, k :: t => if k.toNat = 0 then 0 else 1 + k.toNat + wG f (t.drop k.toNat)
theorem nZ : ∀ (f : Nat) (l : List UInt8), l.length ≤ f → wG f l = wG l.length l
 | 0, [], _ => rfl
 | f + 1, [], _ => rfl
 | f + 1, k :: t, h => by
   simp only [List.length_cons] at h ⊢
   unfold wG
   split
   ·rfl
   ·rw [nZ f (t.drop k.toNat) (by simp; omega), nZ t.length (t.drop k.toNat) (by simp)]
def kK (l : List UInt8) : Nat := wG l.length l
theorem tI (k : UInt8) (t : List UInt8) : kK (k :: t) = if k.toNat = 0 then 0 else 1 + k.toNat + kK (t.drop k.toNat) := by
 unfold kK
 simp only [List.length_cons]
 rw [wG]
 split
 ·rfl
 ·rw [nZ t.length (t.drop k.toNat) (by simp)]
def bZ (s : List UInt8) : List UInt8 × List UInt8 × Bool :=
 if s.length ≤ kK s then ([], [], false) else ((gX (s.take (kK s + 1))).getD [], s.drop (kK s + 1), (gX (s.take (kK s + 1))).isSome)
def oA : Nat → List UInt8 → Bool
 | _, [] => true
 | 0, _ :: _ => true
 | f + 1, k :: t => if t.length < k.toNat then false else oA f (t.drop k.toNat)
theorem mJ : ∀ (f : Nat) (l : List UInt8), l.length ≤ f → oA f l = oA l.length l
 | 0, [], _ => rfl
 | f + 1, [], _ => rfl
 | f + 1, k :: t, h => by
   simp only [List.length_cons] at h ⊢
   unfold oA
   split
   ·rfl
   ·rw [mJ f (t.drop k.toNat) (by simp; omega), mJ t.length (t.drop k.toNat) (by simp)]
def oD (l : List UInt8) : Bool := oA l.length l
theorem rJ (k : UInt8) (t : List UInt8) : oD (k :: t) = if t.length < k.toNat then false else oD (t.drop k.toNat) := by
 unfold oD
 simp only [List.length_cons]
 rw [oA]
 split
 ·rfl
 ·rw [mJ t.length (t.drop k.toNat) (by simp)]
def xZ (l : List UInt8) : Bool := !decide (l = []) && oD l
def numP (r : List UInt8) (i : Nat) : Nat → Nat
 | 0 => 0
 | k + 1 => numP r i k * 256 + (r.getD (4 * i + k) 0).toNat
theorem DE (r : List UInt8) (i : Nat) : ∀ k, numP r i k < 256 ^ k
 | 0 => by simp [numP]
 | k + 1 => by
   have h1 := DE r i k
   have h2 : (r.getD (4 * i + k) 0).toNat < 256 := UInt8.toNat_lt _
   rw [numP, Nat.pow_succ]
   omega
def BY (n : Nat) : List UInt8 := [UInt8.ofNat (n / 16777216), UInt8.ofNat (n / 65536), UInt8.ofNat (n / 256), UInt8.ofNat n]
structure SoaR where
 main : List UInt8
 mail : List UInt8
 serial : Int
 refresh : Int
 retry : Int
 expire : Int
 minimum : Int
 deriving DecidableEq, Inhabited
def SoaR.cells (s : SoaR) : List Value := [aH s.main, aH s.mail, .int .i64 s.serial, .int .i64 s.refresh, .int .i64 s.retry, .int .i64 s.expire, .int .i64 s.minimum]
def iD (n : Int) : Bool := decide (0 ≤ n) && decide (n ≤ 2147483647)
def SoaR.ok (s : SoaR) : Bool := (aV s.main).isSome && (aV s.mail).isSome && decide (0 ≤ s.serial) && decide (s.serial ≤ 4294967295) && iD s.refresh && iD s.retry && iD s.expire && iD s.minimum
def SoaR.data (s : SoaR) : List UInt8 := s.main ++ [0] ++ (s.mail ++ [0]) ++ BY s.serial.toNat ++ BY s.refresh.toNat ++ BY s.retry.toNat ++ BY s.expire.toNat ++ BY s.minimum.toNat
def eO (d : List UInt8) : SoaR :=
 let f := bZ d
 let g := bZ f.2.1
 { main := f.1, mail := g.1, serial := numP g.2.1 0 4, refresh := numP g.2.1 1 4, retry := numP g.2.1 2 4, expire := numP g.2.1 3 4, minimum := numP g.2.1 4 4 }
def cS (d : List UInt8) : Option SoaR :=
 let f := bZ d
 let g := bZ f.2.1
 if f.2.2 = true ∧ g.2.2 = true ∧ g.2.1.length = 20 ∧ (eO d).ok = true then some (eO d) else none
def fits (k : Int) (d : List UInt8) : Bool :=
 if k = 1 then decide (d.length = 4) else if k = 28 then decide (d.length = 16) else if k = 16 then xZ d else if k = 6 then (cS d).isSome else decide ((bE k d).2 ≠ 2)
structure Rec where
 name : List UInt8
 kind : Int
 ttl : Int
 data : List UInt8
 deriving DecidableEq, Inhabited
def bI (r : Rec) : Int :=
 if r.kind = 41 ∨ r.kind = 251 ∨ r.kind = 252 ∨ r.kind = 255 then 1
 else if r.kind < 1 ∨ 65535 < r.kind ∨ r.ttl < 0 ∨ 2147483647 < r.ttl ∨ 4000 < r.data.length ∨ fits r.kind r.data = false then 1
 else if (aV r.name).isSome = true then 0 else 1
end Go.Proofs.X
set_option linter.unusedVariables false
set_option linter.unusedSimpArgs false
namespace Go.Proofs.X
open Go
structure TPO {α : Type} (c : α → α → Int) : Prop where
 anti : ∀ x y, c y x = - c x y
 tr : ∀ x y z, c x y ≤ 0 → c y z ≤ 0 → c x z ≤ 0
variable {α : Type} {c d : α → α → Int}
theorem TPO.refl (h : TPO c) (x : α) : c x x = 0 := by have := h.anti x x; omega
theorem TPO.swo (h : TPO c) : Sort.SWO (Go.Proofs.ltOf c) where
 irrefl x := by simp [Go.Proofs.ltOf, h.refl x]
 trans x y z h1 h2 := by
  simp only [Go.Proofs.ltOf, decide_eq_true_eq] at *
  have h3 := h.tr x y z (by omega) (by omega)
  rcases Int.lt_or_eq_of_le h3 with h4 | h4
  ·exact h4
  ·have a1 := h.anti x z
   have a2 := h.anti y z
   have a3 := h.anti x y
   have := h.tr z x y (by omega) (by omega)
   omega
 ntrans x y z h1 h2 := by
  simp only [Go.Proofs.ltOf, decide_eq_false_iff_not] at *
  have a1 := h.anti x y
  have a2 := h.anti y z
  have a3 := h.anti x z
  have := h.tr z y x (by omega) (by omega)
  omega
theorem TPO.eqL (h : TPO c) {x y z : α} (e : c x y = 0) : c x z ≤ 0 ↔ c y z ≤ 0 := by
 have a := h.anti x y
 exact ⟨fun h1 => h.tr y x z (by omega) h1, fun h1 => h.tr x y z (by omega) h1⟩
def MC (c d : α → α → Int) (x y : α) : Int := if c x y ≠ 0 then c x y else d x y
theorem TPO.lex (h : TPO c) (k : TPO d) : TPO (MC c d) where
 anti x y := by
  have a := h.anti x y
  have b := k.anti x y
  unfold MC
  split <;> split <;> omega
 tr x y z := by
  have a1 := h.anti x y
  have a2 := h.anti y z
  have a3 := h.anti x z
  have t1 := h.tr x y z
  have t2 := h.tr z x y
  have t3 := h.tr y z x
  have t4 := k.tr x y z
  unfold MC
  intro h1 h2
  split at h1 <;> split at h2 <;> split <;> omega
theorem TPO.comap {β : Type} (h : TPO c) (f : β → α) : TPO (fun x y => c (f x) (f y)) := ⟨fun x y => h.anti _ _, fun x y z => h.tr _ _ _⟩
theorem JR : TPO (fun a b : Int => if a < b then (-1 : Int) else if b < a then 1 else 0) where
 anti x y := by split <;> split <;> (try split) <;> omega
 tr x y z := by
  intro h1 h2
  split at h1 <;> split at h2 <;> split <;> (try omega)
  all_goals (split <;> (try omega))
  all_goals (first | (split at h1 <;> omega) | (split at h2 <;> omega) | (split at h1 <;> split at h2 <;> omega))
theorem DF {a b : List UInt8} : Op.bytesLess a b = true ↔ a < b := by rw [Go.Proofs.bytesLess_eq]; simp
theorem kM (a b : List UInt8) : mI a b = if a < b then -1 else if a = b then 0 else 1 := by
 unfold mI
 by_cases h : a < b
 ·simp [DF.2 h, h]
 ·have : Op.bytesLess a b = false := by
   cases h2 : Op.bytesLess a b with
   | false => rfl
   | true => exact absurd (DF.1 h2) h
  simp [this, h]
theorem fK : TPO mI where
 anti x y := by
  rw [kM, kM]
  rcases Std.lt_trichotomy x y with h | h | h
  ·have h2 : ¬ y < x := fun h9 => Std.lt_irrefl (Std.lt_trans h h9)
   have h3 : x ≠ y := fun e => Std.lt_irrefl (e ▸ h)
   simp [h, h2, h3, Ne.symm h3]
  ·subst h
   simp [Std.lt_irrefl]
  ·have h2 : ¬ x < y := fun h9 => Std.lt_irrefl (Std.lt_trans h h9)
   have h3 : x ≠ y := fun e => Std.lt_irrefl (e ▸ h)
   simp [h, h2, h3, Ne.symm h3]
 tr x y z := by
  rw [kM, kM, kM]
  intro h1 h2
  by_cases hxy : x < y
  ·by_cases hyz : y < z
   ·simp [Std.lt_trans hxy hyz]
   ·by_cases e : y = z
    ·subst e; simp [hxy]
    ·simp [hyz, e] at h2
  ·by_cases e : x = y
   ·subst e; exact h2
   ·simp [hxy, e] at h1
theorem zM : TPO fU where
 anti := by
  intro x
  induction x with
  | nil => intro y; cases y <;> rfl
  | cons a x ih =>
   intro y
   cases y with
   | nil => rfl
   | cons b y =>
    have h1 := fK.anti a b
    have h2 := ih y
    simp only [fU]
    split <;> split <;> omega
 tr := by
  intro x
  induction x with
  | nil => intro y z _ _; cases z <;> simp [fU]
  | cons a x ih =>
   intro y z h1 h2
   cases y with
   | nil => simp [fU] at h1
   | cons b y =>
    cases z with
    | nil => simp [fU] at h2
    | cons e z =>
     have a1 := fK.anti a b
     have a2 := fK.anti b e
     have a3 := fK.anti a e
     have t1 := fK.tr a b e
     have t2 := fK.tr e a b
     have t3 := fK.tr b e a
     have t4 := ih y z
     simp only [fU] at *
     split at h1 <;> split at h2 <;> split <;> omega
theorem GM : TPO lF where
 anti x y := by
  have h1 := fK.anti x y
  unfold lF
  cases hx : dC x <;> cases hy : dC y <;> simp only [] <;> first | exact h1 | rfl | exact zM.anti _ _
 tr x y z := by
  have h1 := fK.tr x y z
  unfold lF
  cases hx : dC x <;> cases hy : dC y <;> cases hz : dC z <;> simp only [] <;> first | exact h1 | exact zM.tr _ _ _ | (intros; omega)
end Go.Proofs.X
set_option linter.unusedVariables false
set_option linter.unusedSimpArgs false
namespace Go.Proofs.X
open Go.RowKit
def gR (P : Program) (e : TypeId) : Nat := match P.info? e with | some i => i.bytes | none => 0
section
variable {P : Program} {ops : Array Oper} {Q : Exit → Act → World → Prop} {rest : List Oper} {ts : List Value} {df : List Deferred}
inductive ElemIs (a : Act) (x : Operand) (k : Nat) (ce : List Value) : Prop
 | mk {c : Value} (h1 : a.eval x = c) (h2 : c.cells.toList = ce) (h3 : ce.length = k) (h4 : ∀ u ∈ ce, u.oneCell' = true) : ElemIs a x k ce
theorem RE (ce : List Value) {B k e t d1 d2 m ty1 ty2 : Nat} {ps1 ps2 : String} {af1 af2 : Array Edge} {x : Operand} {es : List (List Value)} {w0 w : World}
 (hx : Ext w0 w) (ho : Own B k e w (ts.getD m undef) es) (hl : es.length + 1 ≤ 1000000)
 (hk : ∀ s v' w1 w', Ext w w1 → Mv (ts.getD m undef).ownBlock w1 w' → Ext w0 w' → Own B k e w' v' (es ++ [ce]) → wpList P ops Q rest (Act.mk ((ts.set d1 s).set d2 v').toArray df) w')
 (hc : ElemIs (Act.mk ts.toArray df) x k ce := by (apply ElemIs.mk; (rfl); (rfl); (rfl); (simp [aH, Value.oneCell'])))
 (ht : kH P t e k (gR P e) = true := by decide +kernel) (hby : gR P e ≤ 1000000 := by decide +kernel) (hk16 : k ≤ 1000 := by decide) (hne : d1 ≠ m := by decide) (hdl : d1 < ts.length := by first | (simp; done) | (simp; omega))
 (hB : w0.heap.size ≤ B := by first | exact Nat.le_refl _ | omega) (hBw : B ≤ w.heap.size := by first | exact Ext.size (by assumption) | omega) :
 wpList P ops Q (Oper.mk (some d1) (.buildSlice t 1 #[(0, x)]) ty1 ps1 af1 none :: Oper.mk (some d2) (.call ⟨.builtin .append, #[.tmp m, .tmp d1], #[t, t]⟩) ty2 ps2 af2 none :: rest) (Act.mk ts.toArray df) w := by
 obtain ⟨hc, hce, hcs, h1⟩ := hc
 rename_i c
 have hcs' : c.cells.size = k := by rw [← Array.length_toList, hce]; exact hcs
 refine bK (k := k) (e := e) (bytes := gR P e) (xs := [c]) (parts := [(0, x)]) rfl (by simp [hc]) rfl (by simpa using hcs') ht (by simp; omega) ?_
 intro s w1 x1 _ sl _
 have e1 : (ts.set d1 s).getD m undef = ts.getD m undef := by
  simp only [List.getD_eq_getElem?_getD]; rw [List.getElem?_set_ne hne]
 have ho1 := ho.ext x1
 rw [← e1] at ho1
 refine eW (x := s) (B := B) (k := k) (e := e) (bytes := gR P e) rfl ho1 (by rw [eN]; simp [hdl]) sl ht (by simpa [hce] using h1) (Nat.le_trans hBw x1.size) ?_ ?_ ?_
 ·simp only [List.length_map, List.length_cons, List.length_nil]
  calc (es.length + (0 + 1)) * gR P e ≤ 1000000 * 1000000 := Nat.mul_le_mul (by omega) hby
   _ ≤ _ := by decide
 ·simp only [List.length_map, List.length_cons, List.length_nil]; omega
 ·intro v' w' o' m' _
  rw [e1] at m'
  exact hk s v' w1 w' x1 m' ((ho.ext x1).mvx m' (hx.trans x1) hB) (by simpa [hce] using o')
end
section
variable {P : Program} {w : World} {a : Act} {d : Option Nat} {ty : TypeId} {ps : String} {af : Array Edge} {g : Option (Nat × Bool)}
end
section
variable {P : Program} {ops : Array Oper} {Q : Exit → Act → World → Prop} {w : World} {rest : List Oper} {ts : List Value} {df : List Deferred} {ty : TypeId} {ps : String} {af : Array Edge}
end
section
variable {P : Program} {ops : Array Oper} {Q : Exit → Act → World → Prop} {w : World} {rest : List Oper} {ts : List Value} {df : List Deferred} {ty : TypeId} {ps : String} {af : Array Edge}
theorem dT {t e k B d : Nat} {x0 y : Operand} {v0 x : Value} {es fs : List (List Value)} (h0 : (Act.mk ts.toArray df).eval x0 = v0)
 (h : Own B k e w v0 es) (hy : (Act.mk ts.toArray df).eval y = x) (hx : Sl k w x fs) (h1 : ∀ f ∈ fs, ∀ u ∈ f, u.oneCell' = true)
 (hB : B ≤ w.heap.size) (hm : es.length + fs.length ≤ 1000000)
 (hk : ∀ v' w', Own B k e w' v' (es ++ fs) → Mv v0.ownBlock w w' → (v'.ownBlock = v0.ownBlock ∨ v'.ownBlock = some w.heap.size) → wpList P ops Q rest (Act.mk (ts.set d v').toArray df) w')
 (ht : kH P t e k (gR P e) = true := by decide +kernel) (hby : gR P e ≤ 1000000 := by decide +kernel) :
 wpList P ops Q (Oper.mk (some d) (.call ⟨.builtin .append, #[x0, y], #[t, t]⟩) ty ps af none :: rest) (Act.mk ts.toArray df) w := by
 have hb : (es.length + fs.length) * gR P e ≤ 140737488355328 :=
  calc (es.length + fs.length) * gR P e ≤ 1000000 * 1000000 := Nat.mul_le_mul hm hby
   _ ≤ _ := by decide
 obtain ⟨v', w', hr, ho, hmv, hkin⟩ := rG (ty := ty) ht h hx h1 hB hb (by omega)
 refine sK rfl ?_ (hk v' w' ho hmv hkin)
 simp [execOp, resolve, invoke, builtin, h0, hy, hr]
end
section
variable {P : Program} {Q : Exit → Act → World → Prop} {S : World → Prop} {l : List Oper} {fuel : Nat} {listed : List Bool} {w : World}
end
end Go.Proofs.X
set_option linter.unusedVariables false
set_option linter.unusedSimpArgs false
namespace Go.Proofs.X
open Go.RowKit
theorem pG {k : Nat} : ∀ (es : List (List Value)) (i : Nat), (∀ x ∈ es, x.length = k) → (es.take i).flatten = es.flatten.take (i * k)
 | [], i, _ => by simp
 | x :: es, 0, _ => by simp
 | x :: es, i + 1, h => by
   have hx := h x (by simp)
   have ih := pG es i (fun y hy => h y (by simp [hy]))
   rw [List.take_succ_cons, List.flatten_cons, List.flatten_cons, ih, show (i + 1) * k = x.length + i * k by rw [hx, Nat.add_mul]; omega, List.take_length_add_append]
theorem lG {k : Nat} : ∀ (es : List (List Value)) (i : Nat), (∀ x ∈ es, x.length = k) → (es.drop i).flatten = es.flatten.drop (i * k)
 | [], i, _ => by simp
 | x :: es, 0, _ => by simp
 | x :: es, i + 1, h => by
   have hx := h x (by simp)
   have ih := lG es i (fun y hy => h y (by simp [hy]))
   rw [List.drop_succ_cons, List.flatten_cons, ih, show (i + 1) * k = x.length + i * k by rw [hx, Nat.add_mul]; omega, List.drop_length_add_append]
theorem EO {α : Type} (c F : List α) (a n : Nat) (h : a + F.length ≤ n) (hn : n ≤ c.length) : (c.take a ++ F ++ c.drop (a + F.length)).take n = (c.take n).take a ++ F ++ (c.take n).drop (a + F.length) := by
 have hA : (c.take a ++ F).length = a + F.length := by simp; omega
 rw [List.take_append, hA, List.take_of_length_le (by omega), List.take_take, Nat.min_eq_left (by omega), List.drop_take]
theorem zN {α : Type} {z : List α} (hz : 0 < z.length) : ∀ (n i : Nat), i < n * z.length → (List.replicate n z).flatten[i]? = some (z[i % z.length]'(Nat.mod_lt _ hz))
 | 0, i, h => by simp at h
 | n + 1, i, h => by
   rw [List.replicate_succ, List.flatten_cons, List.getElem?_append]
   split
   ·rename_i hi
    rw [List.getElem?_eq_getElem hi]
    simp only [Nat.mod_eq_of_lt hi]
   ·rename_i hi
    have hge : z.length ≤ i := by omega
    rw [zN hz n (i - z.length) (by rw [Nat.add_mul] at h; omega)]
    have : (i - z.length) % z.length = i % z.length := by rw [← Nat.mod_eq_sub_mod hge]
    simp only [this]
theorem Own.over {B k e g cap i : Nat} {w : World} {es fs : List (List Value)} (h : Own B k e w (.slice (some ⟨g, 0, none⟩) es.length cap) es) (hi : i + fs.length ≤ es.length) (hf : ∀ f ∈ fs, f.length = k) :
 ∃ cur fz, w.heap[g]? = some (.cells cur e fz) ∧ (fz.2 ≤ fz.1 ∨ cur.size ≤ fz.1) ∧ es.length ≤ cap ∧ i * k + fs.flatten.length ≤ es.length * k ∧ es.length * k ≤ cur.size ∧
   Own B k e (w.setRow g (cur.toList.take (i * k) ++ fs.flatten ++ cur.toList.drop (i * k + fs.flatten.length)).toArray) (.slice (some ⟨g, 0, none⟩) es.length cap) (es.take i ++ fs ++ es.drop (i + fs.length)) ∧
   Mv (some g) w (w.setRow g (cur.toList.take (i * k) ++ fs.flatten ++ cur.toList.drop (i * k + fs.flatten.length)).toArray) := by
 rcases h.row.2 with ⟨h0, _⟩ | ⟨g', cap', cur, fz, hv, hb, hg, hfz, hnc, hcm, hcs, htake⟩
 ·cases h0
 ·simp only [Value.slice.injEq, Option.some.injEq, Addr.mk.injEq, and_true, true_and] at hv
  obtain ⟨rfl, rfl⟩ := hv
  have hall := h.each
  have hfl := bB hf
  have hil : i * k + fs.length * k ≤ es.length * k := by rw [← Nat.add_mul]; exact Nat.mul_le_mul_right k hi
  have hck : es.length * k ≤ cap * k := Nat.mul_le_mul_right k hnc
  have hlen : (es.take i ++ fs ++ es.drop (i + fs.length)).length = es.length := by simp; omega
  have hall2 : ∀ x ∈ es.take i ++ fs ++ es.drop (i + fs.length), x.length = k := by
   intro x hx
   rcases List.mem_append.1 hx with hx | hx
   ·rcases List.mem_append.1 hx with hx | hx
    ·exact hall x (List.mem_of_mem_take hx)
    ·exact hf x hx
   ·exact hall x (List.mem_of_mem_drop hx)
  have hsz : (cur.toList.take (i * k) ++ fs.flatten ++ cur.toList.drop (i * k + fs.flatten.length)).length = cur.size := by
   rw [List.length_append, List.length_append, List.length_take, List.length_drop, Array.length_toList, hfl, hcs]; omega
  refine ⟨cur, fz, hg, hfz, hnc, by rw [hfl]; exact hil, by rw [hcs]; exact hck, ⟨⟨?_, .inr ⟨g, cap, (cur.toList.take (i * k) ++ fs.flatten ++ cur.toList.drop (i * k + fs.flatten.length)).toArray, fz, ?_, hb, setRow_heap w g cur _ e _ hg, ?_, ?_, hcm, ?_, ?_⟩⟩, hall2⟩, ⟨rfl, rfl, rfl, by simp, fun k _ hk => setRow_other w g k _ (fun e => hk (by simp [e])), Nat.le_refl _⟩⟩
  ·rw [bB hall2]
  ·rw [hlen]
  ·rw [List.size_toArray, hsz]; exact hfz
  ·rw [hlen]; exact hnc
  ·rw [List.size_toArray, hsz]; exact hcs
  ·rw [hlen, List.flatten_append, List.flatten_append, pG es i hall, lG es _ hall, ← htake, List.toList_toArray]
   have e1 : (i + fs.length) * k = i * k + fs.flatten.length := by rw [hfl, Nat.add_mul]
   rw [e1]
   have hcl : cur.toList.length = cap * k := by rw [← hcs]; exact Array.length_toList
   exact EO _ _ _ _ (by rw [hfl]; exact hil) (by rw [hcl]; exact hck)
theorem zO {z : List Value} (hz : 0 < z.length) : ∀ n, (madeCells z.toArray (n * z.length)).toList = (List.replicate n z).flatten := by
 intro n
 apply List.ext_getElem?
 intro i
 have hl : (List.replicate n z).flatten.length = n * z.length := by simp
 by_cases hi : i < n * z.length
 ·have h1 : (madeCells z.toArray (n * z.length)).toList[i]? = some (z[i % z.length]'(Nat.mod_lt _ hz)) := by
   simp [madeCells, List.getElem?_range hi, Nat.mod_lt _ hz]
  rw [h1]
  symm
  exact zN hz n i hi
 ·rw [List.getElem?_eq_none (by simp [madeCells]; omega), List.getElem?_eq_none (by rw [hl]; omega)]
section
variable {P : Program} {ops : Array Oper} {Q : Exit → Act → World → Prop} {w : World} {rest : List Oper} {ts : List Value} {df : List Deferred} {ty : TypeId} {ps : String} {af : Array Edge}
end
end Go.Proofs.X
set_option linter.unusedVariables false
set_option linter.unusedSimpArgs false
namespace Go.Proofs.X
open Go.RowKit
section
variable {P : Program} {a : Act} {w : World} {d : Option Nat} {ty : TypeId} {ps : String} {af : Array Edge} {g : Option (Nat × Bool)}
theorem Runs.takeC {t : TypeId} {x hi : Operand} {k n l c : Nat} {ad : Option Addr} (hx : a.eval x = .slice ad l c) (h2 : a.eval hi = .int .i64 (n : Nat)) (hn : n ≤ c) (ht : eD P t k = true) :
 Runs P (Oper.mk d (.slice t x none (some hi) none) ty ps af g) a w (.slice (if c = 0 then ad else ad.map (·.add (0 * k))) (n - 0) (c - 0)) := by
 obtain ⟨e, ie, ht, hie, hz⟩ := dQ ht
 constructor
 simp [execOp, hx, h2, Instr.sliceAt, Instr.slice, run_underlying ht, Instr.sliceBounds, Instr.sliceBound, asIntOf, sizeOf, typeInfo, hie, hz, hn]
end
theorem Sl.news {k n cap : Nat} {w : World} {a : Addr} {fs : List (List Value)} (hx : Sl k w (.slice (some a) n cap) fs) (hk : 0 < k) : ∀ j u, fs.flatten[j]? = some u → w.cell? (a.add j) = some u := by
 obtain ⟨ad, cap', he, h2, h3, h4, h5, h6⟩ := hx
 cases he
 intro j u hj
 by_cases hne : fs = []
 ·subst hne; simp at hj
 ·obtain ⟨b, o, he, hc⟩ := h6 hne
  cases he
  have hlen := bB h4
  have hjl : j < fs.length * k := by rw [← hlen]; exact (List.getElem?_eq_some_iff.1 hj).1
  have hdm : j = (j / k) * k + j % k := by rw [Nat.mul_comm]; exact (Nat.div_add_mod j k).symm
  have hlt : j / k < fs.length := Nat.div_lt_of_lt_mul (by rw [Nat.mul_comm]; exact hjl)
  have hml : j % k < (fs[j / k]).length := by rw [h4 _ (List.getElem_mem hlt)]; exact Nat.mod_lt _ hk
  have hf := gJ h4 (i := j / k) (e := fs[j / k]) (j := j % k) (x := (fs[j / k])[j % k]) (List.getElem?_eq_getElem hlt) (List.getElem?_eq_getElem hml)
  rw [← hdm, hj] at hf
  have := hc (j / k) fs[j / k] (j % k) u (List.getElem?_eq_getElem hlt) (by rw [List.getElem?_eq_getElem hml]; exact hf.symm)
  rw [cY]
  rw [Nat.add_assoc, ← hdm] at this
  exact this
section
variable {P : Program} {ops : Array Oper} {Q : Exit → Act → World → Prop} {w : World} {rest : List Oper} {ts : List Value} {df : List Deferred} {ty : TypeId} {ps : String} {af : Array Edge}
theorem BZ {t e k B g cap m : Nat} {a : Act} {y : Operand} {z : List Value} {c : Nat} {es : List (List Value)} (hw : Own B k e w (.slice (some ⟨g, 0, none⟩) es.length cap) es)
 (hy : a.eval y = .slice (some ⟨g, m * k, none⟩) (es.length - m) c) (hm : m < es.length)
 (h : ∀ w', Own B k e w' (.slice (some ⟨g, 0, none⟩) m cap) (es.take m) → Mv (some g) w w' → wpList P ops Q rest a w')
 (ht : kH P t e k (gR P e) = true := by decide +kernel) (hz : xR P e z = true := by decide +kernel) (hzl : z.length = k := by rfl) (h1 : ∀ u ∈ z, u.oneCell' = true := by decide +kernel) :
 wpList P ops Q (Oper.mk none (.call ⟨.builtin .clear, #[y], #[t]⟩) ty ps af none :: rest) a w := by
 obtain ⟨hu, inf, z', hi, hzi, hzc, hsz, hb, hk⟩ := iS ht
 obtain ⟨i2, v2, hi2, hz2, hc2⟩ := rE hz
 rw [hi] at hi2; cases hi2
 rw [hzi] at hz2; cases hz2
 have hall : ∀ f ∈ List.replicate (es.length - m) z, f.length = k := by intro f hf; rw [List.eq_of_mem_replicate hf]; exact hzl
 obtain ⟨cur, fz, hg, hfz, hnc, h3, h4, ho, hmv⟩ := hw.over (i := m) (fs := List.replicate (es.length - m) z) (by simp; omega) hall
 have hcells : (Builtin.zeroCells z.toArray (es.length - m)).toList = (List.replicate (es.length - m) z).flatten := by
  have := zO (z := z) (by omega) (es.length - m)
  rw [← this]
  simp [Builtin.zeroCells, madeCells]
 have hst := dK P g (m * k) e fz (List.replicate (es.length - m) z).flatten 0 cur w hg hfz (by omega) (by
  intro u hu'
  obtain ⟨f, hf, hfu⟩ := List.mem_flatten.1 hu'
  rw [List.eq_of_mem_replicate hf] at hfu
  exact h1 u hfu)
 simp only [Nat.add_zero] at hst
 obtain ⟨n', hn'⟩ : ∃ n', es.length - m = n' + 1 := ⟨es.length - m - 1, by omega⟩
 have hr : (Builtin.clear_ #[t] ty #[.slice (some ⟨g, m * k, none⟩) (es.length - m) c]).run P w = .ok (.tuple #[]) (w.setRow g (cur.toList.take (m * k) ++ (List.replicate (es.length - m) z).flatten ++ cur.toList.drop (m * k + (List.replicate (es.length - m) z).flatten.length)).toArray) := by
  rw [hn'] at hcells hst ⊢
  simp [Builtin.clear_, run_underlying hu, zeroValue, typeInfo, hi, hzi, hc2, hcells, hst]
 have htk : (es.take m ++ List.replicate (es.length - m) z ++ es.drop (m + (List.replicate (es.length - m) z).length)).take m = es.take m := by
  rw [List.append_assoc, List.take_append_of_le_length (by simp; omega), List.take_take, Nat.min_self]
 have hs := ho.short (m := m) (by simp; omega)
 rw [htk] at hs
 refine wpList_plain rfl fun K hK => ?_
 unfold Oper.wp execOp
 simp only [resolve, invoke, builtin, Sem.run_bind, Sem.run_pure, Result.andThen_ok, List.map_toArray, List.map_cons, List.map_nil, hy, hr]
 exact hK _ _ (h _ hs hmv)
end
end Go.Proofs.X
set_option linter.unusedVariables false
set_option linter.unusedSimpArgs false
namespace Go.Proofs.X
open Go.RowKit
set_option maxRecDepth 100000
theorem LD {G A : Prop} (hA : A) (e : Hid A → G := by (intro kA; (repeat' first | ((with_reducible refine aJ ?_); go_step) | ((with_reducible refine aI ?_); refine bM ?_) | fail); (with_reducible exact kA.out))) : G := e ⟨hA⟩
theorem RW {G A : Prop} (hA : A) (e : Hid A → G := by (intro kA; (repeat' first | ((with_reducible refine aJ ?_); go_step) | ((with_reducible refine aI ?_); refine bM ?_) | fail); (rename_i z0 z1; revert z0 z1; with_reducible exact kA.out))) : G := e ⟨hA⟩
theorem OA {G A : Prop} (hA : A) (e : Hid A → G := by (intro kA; (try ((with_reducible refine vH ?_); refine JN ?_)); (with_reducible exact kA.out))) : G := e ⟨hA⟩
theorem RF {G A : Prop} (hA : A) (e : Hid A → G := by (intro kA; (try ((with_reducible refine vH ?_); refine EK ?_)); (with_reducible exact kA.out))) : G := e ⟨hA⟩
theorem PG {G A : Prop} (hA : A) (e : Hid A → G := by (intro kA; (repeat' (first | ((with_reducible refine aJ ?_); go_step) | fail)); (with_reducible exact kA.out))) : G := e ⟨hA⟩
theorem yA {G A : Prop} (hA : A) (e : Hid A → G := by (intro kA; (repeat' (first | ((with_reducible refine aJ ?_); go_step) | fail)); (rename_i z0 z1; revert z0 z1; with_reducible exact kA.out))) : G := e ⟨hA⟩
theorem NR {G A : Prop} (hA : A) (e : Hid A → G := by (intro kA; (repeat' (first | ((with_reducible refine aJ ?_); go_step) | fail)); (rename_i z0 z1 z2; revert z0 z1 z2; with_reducible exact kA.out))) : G := e ⟨hA⟩
theorem dE {G A : Prop} (hA : A) (e : Hid A → G := by (intro kA; (repeat' first | ((with_reducible refine aJ ?_); go_step) | ((with_reducible refine aI ?_); first | refine bM ?_ | (refine aL ?_ ?_ <;> intro _)) | fail); (with_reducible exact kA.out))) : G := e ⟨hA⟩
theorem sM {G A : Prop} (hA : A) (e : Hid A → G := by (intro kA; (repeat' first | ((with_reducible refine aJ ?_); go_step) | ((with_reducible refine aI ?_); first | refine bM ?_ | (refine aL ?_ ?_ <;> intro _)) | fail); (rename_i z0; revert z0; with_reducible exact kA.out))) : G := e ⟨hA⟩
theorem zP {G A B : Prop} (hB : B) (hA : A) (e : Hid A → Hid B → G := by (intro kA kB; (repeat' first | ((with_reducible refine aJ ?_); go_step) | ((with_reducible refine aI ?_); first | refine bM ?_ | (refine aL ?_ ?_ <;> intro _)) | fail); (rename_i z0; revert z0; with_reducible exact kA.out); (rename_i z0; revert z0; with_reducible exact kB.out))) : G := e ⟨hA⟩ ⟨hB⟩
theorem OB {G A B C : Prop} (hB : B) (hC : C) (hA : A) (e : Hid A → Hid B → Hid C → G := by (intro kA kB kC; (repeat' first | ((with_reducible refine aJ ?_); go_step) | ((with_reducible refine aI ?_); first | refine bM ?_ | (refine aL ?_ ?_ <;> intro _)) | fail); (rename_i z0; revert z0; with_reducible exact kA.out); (rename_i z0 z1; revert z0 z1; with_reducible exact kB.out); (rename_i z0 z1 z2 z3; revert z0 z1 z2 z3; with_reducible exact kC.out))) : G := e ⟨hA⟩ ⟨hB⟩ ⟨hC⟩
theorem EP {G A B : Prop} (hB : B) (hA : A) (e : Hid A → Hid B → G := by (intro kA kB; (repeat' first | ((with_reducible refine aJ ?_); go_step) | ((with_reducible refine aI ?_); first | refine bM ?_ | (refine aL ?_ ?_ <;> intro _)) | fail); (rename_i z0; revert z0; with_reducible exact kA.out); (rename_i z0 z1 z2; revert z0 z1 z2; with_reducible exact kB.out))) : G := e ⟨hA⟩ ⟨hB⟩
theorem LE {G A B C : Prop} (hB : B) (hC : C) (hA : A) (e : Hid A → Hid B → Hid C → G := by (intro kA kB kC; (repeat' first | ((with_reducible refine aJ ?_); go_step) | ((with_reducible refine aI ?_); first | refine bM ?_ | (refine aL ?_ ?_ <;> intro _)) | fail); (rename_i z0; revert z0; with_reducible exact kA.out); (rename_i z0 z1 z2 z3; revert z0 z1 z2 z3; with_reducible exact kB.out); (rename_i z0 z1; revert z0 z1; with_reducible exact kC.out))) : G := e ⟨hA⟩ ⟨hB⟩ ⟨hC⟩
theorem fD {G A : Prop} (hA : A) (e : Hid A → G := by (intro kA; (repeat' first | ((with_reducible refine aJ ?_); go_step) | ((with_reducible refine aI ?_); first | refine bM ?_ | (refine aL ?_ ?_ <;> intro _)) | fail); (rename_i z0 z1; revert z0 z1; with_reducible exact kA.out))) : G := e ⟨hA⟩
theorem LF {G A B C : Prop} (hB : B) (hC : C) (hA : A) (e : Hid A → Hid B → Hid C → G := by (intro kA kB kC; (repeat' first | ((with_reducible refine aJ ?_); go_step) | ((with_reducible refine aI ?_); first | refine bM ?_ | (refine aL ?_ ?_ <;> intro _)) | fail); (rename_i z0 z1; revert z0 z1; with_reducible exact kA.out); (rename_i z0 z1; revert z0 z1; with_reducible exact kB.out); (rename_i z0; revert z0; with_reducible exact kC.out))) : G := e ⟨hA⟩ ⟨hB⟩ ⟨hC⟩
theorem OC {G A B C : Prop} (hB : B) (hC : C) (hA : A) (e : Hid A → Hid B → Hid C → G := by (intro kA kB kC; (repeat' first | ((with_reducible refine aJ ?_); go_step) | ((with_reducible refine aI ?_); first | refine bM ?_ | (refine aL ?_ ?_ <;> intro _)) | fail); (rename_i z0 z1; revert z0 z1; with_reducible exact kA.out); (rename_i z0 z1 z2 z3; revert z0 z1 z2 z3; with_reducible exact kB.out); (rename_i z0; revert z0; with_reducible exact kC.out))) : G := e ⟨hA⟩ ⟨hB⟩ ⟨hC⟩
theorem PQ {G A B : Prop} (hB : B) (hA : A) (e : Hid A → Hid B → G := by (intro kA kB; (repeat' first | ((with_reducible refine aJ ?_); go_step) | ((with_reducible refine aI ?_); first | refine bM ?_ | (refine aL ?_ ?_ <;> intro _)) | fail); (rename_i z0 z1; revert z0 z1; with_reducible exact kA.out); (rename_i z0 z1 z2 z3 z4; revert z0 z1 z2 z3 z4; with_reducible exact kB.out))) : G := e ⟨hA⟩ ⟨hB⟩
theorem JS {G A : Prop} (hA : A) (e : Hid A → G := by (intro kA; (repeat' first | ((with_reducible refine aJ ?_); go_step) | ((with_reducible refine aI ?_); first | refine bM ?_ | (refine aL ?_ ?_ <;> intro _)) | fail); (rename_i z0 z1 z2; revert z0 z1 z2; with_reducible exact kA.out))) : G := e ⟨hA⟩
theorem OD {G A B : Prop} (hB : B) (hA : A) (e : Hid A → Hid B → G := by (intro kA kB; (repeat' first | ((with_reducible refine aJ ?_); go_step) | ((with_reducible refine aI ?_); first | refine bM ?_ | (refine aL ?_ ?_ <;> intro _)) | fail); (rename_i z0 z1 z2; revert z0 z1 z2; with_reducible exact kA.out); (rename_i z0; revert z0; with_reducible exact kB.out))) : G := e ⟨hA⟩ ⟨hB⟩
theorem PR {G A B : Prop} (hB : B) (hA : A) (e : Hid A → Hid B → G := by (intro kA kB; (repeat' first | ((with_reducible refine aJ ?_); go_step) | ((with_reducible refine aI ?_); first | refine bM ?_ | (refine aL ?_ ?_ <;> intro _)) | fail); (rename_i z0 z1 z2; revert z0 z1 z2; with_reducible exact kA.out); (rename_i z0 z1 z2; revert z0 z1 z2; with_reducible exact kB.out))) : G := e ⟨hA⟩ ⟨hB⟩
theorem MD {G A B C D : Prop} (hB : B) (hC : C) (hD : D) (hA : A) (e : Hid A → Hid B → Hid C → Hid D → G := by (intro kA kB kC kD; (repeat' first | ((with_reducible refine aJ ?_); go_step) | ((with_reducible refine aI ?_); first | refine bM ?_ | (refine aL ?_ ?_ <;> intro _)) | fail); (rename_i z0 z1 z2; revert z0 z1 z2; with_reducible exact kA.out); (rename_i z0 z1 z2; revert z0 z1 z2; with_reducible exact kB.out); (rename_i z0 z1; revert z0 z1; with_reducible exact kC.out); (rename_i z0; revert z0; with_reducible exact kD.out))) : G := e ⟨hA⟩ ⟨hB⟩ ⟨hC⟩ ⟨hD⟩
theorem zQ {G A : Prop} (hA : A) (e : Hid A → G := by (intro kA; (repeat' first | ((with_reducible refine aJ ?_); go_step) | ((with_reducible refine aI ?_); first | refine bM ?_ | (refine aL ?_ ?_ <;> intro _)) | fail); (rename_i z0 z1 z2 z3; revert z0 z1 z2 z3; with_reducible exact kA.out))) : G := e ⟨hA⟩
theorem JT {G A B : Prop} (hB : B) (hA : A) (e : Hid A → Hid B → G := by (intro kA kB; (repeat' first | ((with_reducible refine aJ ?_); go_step) | ((with_reducible refine aI ?_); first | refine bM ?_ | (refine aL ?_ ?_ <;> intro _)) | fail); (rename_i z0 z1 z2 z3; revert z0 z1 z2 z3; with_reducible exact kA.out); (rename_i z0 z1; revert z0 z1; with_reducible exact kB.out))) : G := e ⟨hA⟩ ⟨hB⟩
theorem LG {G A B C : Prop} (hB : B) (hC : C) (hA : A) (e : Hid A → Hid B → Hid C → G := by (intro kA kB kC; (repeat' first | ((with_reducible refine aJ ?_); go_step) | ((with_reducible refine aI ?_); first | refine bM ?_ | (refine aL ?_ ?_ <;> intro _)) | fail); (rename_i z0 z1 z2 z3; revert z0 z1 z2 z3; with_reducible exact kA.out); (rename_i z0 z1; revert z0 z1; with_reducible exact kB.out); (rename_i z0; revert z0; with_reducible exact kC.out))) : G := e ⟨hA⟩ ⟨hB⟩ ⟨hC⟩
theorem PS {G A B : Prop} (hB : B) (hA : A) (e : Hid A → Hid B → G := by (intro kA kB; (repeat' first | ((with_reducible refine aJ ?_); go_step) | ((with_reducible refine aI ?_); first | refine bM ?_ | (refine aL ?_ ?_ <;> intro _)) | fail); (rename_i z0 z1 z2 z3; revert z0 z1 z2 z3; with_reducible exact kA.out); (rename_i z0 z1 z2 z3; revert z0 z1 z2 z3; with_reducible exact kB.out))) : G := e ⟨hA⟩ ⟨hB⟩
theorem RG {G A : Prop} (hA : A) (e : Hid A → G := by (intro kA; (repeat' first | ((with_reducible refine aJ ?_); go_step) | ((with_reducible refine aI ?_); first | refine bM ?_ | (refine aL ?_ ?_ <;> intro _)) | fail); (rename_i z0 z1 z2 z3 z4; revert z0 z1 z2 z3 z4; with_reducible exact kA.out))) : G := e ⟨hA⟩
theorem PT {G A B : Prop} (hB : B) (hA : A) (e : Hid A → Hid B → G := by (intro kA kB; (repeat' first | ((with_reducible refine aJ ?_); go_step) | ((with_reducible refine aI ?_); first | refine bM ?_ | (refine aL ?_ ?_ <;> intro _)) | fail); (rename_i z0 z1 z2 z3 z4; revert z0 z1 z2 z3 z4; with_reducible exact kA.out); (rename_i z0 z1 z2; revert z0 z1 z2; with_reducible exact kB.out))) : G := e ⟨hA⟩ ⟨hB⟩
theorem EQ {G A : Prop} (hA : A) (e : Hid A → G := by (intro kA; (repeat' first | ((with_reducible refine aJ ?_); go_step) | ((with_reducible refine aI ?_); first | refine bM ?_ | (refine aL ?_ ?_ <;> intro _)) | fail); (rename_i z0 z1 z2 z3 z4 z5; revert z0 z1 z2 z3 z4 z5; with_reducible exact kA.out))) : G := e ⟨hA⟩
theorem RX {G A : Prop} (hA : A) (e : Hid A → G := by (intro kA; (repeat' first | ((with_reducible refine aJ ?_); go_step) | ((with_reducible refine aI ?_); first | refine bM ?_ | (refine aL ?_ ?_ <;> intro _)) | fail); (rename_i z0 z1 z2 z3 z4 z5 z6; revert z0 z1 z2 z3 z4 z5 z6; with_reducible exact kA.out))) : G := e ⟨hA⟩
theorem ME {G A B C D : Prop} (hB : B) (hC : C) (hD : D) (hA : A) (e : Hid A → Hid B → Hid C → Hid D → G := by (intro kA kB kC kD; (repeat' first | ((with_reducible refine aJ ?_); go_step) | ((with_reducible refine aI ?_); first | refine bM ?_ | (refine aL ?_ ?_ <;> intro _)) | fail); (rename_i z0 z1 z2 z3 z4 z5 z6; revert z0 z1 z2 z3 z4 z5 z6; with_reducible exact kA.out); (rename_i z0 z1 z2 z3 z4; revert z0 z1 z2 z3 z4; with_reducible exact kB.out); (rename_i z0 z1 z2 z3 z4 z5; revert z0 z1 z2 z3 z4 z5; with_reducible exact kC.out); (rename_i z0 z1 z2 z3 z4; revert z0 z1 z2 z3 z4; with_reducible exact kD.out))) : G := e ⟨hA⟩ ⟨hB⟩ ⟨hC⟩ ⟨hD⟩
theorem eP {G A : Prop} (hA : A) (e : Hid A → G := by (intro kA; (repeat' first | ((with_reducible refine aJ ?_); go_step) | ((with_reducible refine aI ?_); first | refine aW ?_ | (refine aL ?_ ?_ <;> intro _)) | fail); (with_reducible exact kA.out))) : G := e ⟨hA⟩
theorem RY {G A : Prop} (hA : A) (e : Hid A → G := by (intro kA; (repeat' first | ((with_reducible refine aJ ?_); go_step) | ((with_reducible refine aI ?_); first | refine aW ?_ | (refine aL ?_ ?_ <;> intro _)) | fail); (rename_i z0; revert z0; with_reducible exact kA.out))) : G := e ⟨hA⟩
theorem GN {G A B : Prop} (hB : B) (hA : A) (e : Hid A → Hid B → G := by (intro kA kB; (repeat' first | ((with_reducible refine aJ ?_); go_step) | ((with_reducible refine aI ?_); first | refine aW ?_ | (refine aL ?_ ?_ <;> intro _)) | fail); (rename_i z0; revert z0; with_reducible exact kA.out); (rename_i z0; revert z0; with_reducible exact kB.out))) : G := e ⟨hA⟩ ⟨hB⟩
theorem MF {G A B : Prop} (hB : B) (hA : A) (e : Hid A → Hid B → G := by (intro kA kB; (repeat' first | ((with_reducible refine aJ ?_); go_step) | ((with_reducible refine aI ?_); first | refine aW ?_ | (refine aL ?_ ?_ <;> intro _)) | fail); (rename_i z0; revert z0; with_reducible exact kA.out); (rename_i z0 z1 z2; revert z0 z1 z2; with_reducible exact kB.out))) : G := e ⟨hA⟩ ⟨hB⟩
theorem GO {G A B C : Prop} (hB : B) (hC : C) (hA : A) (e : Hid A → Hid B → Hid C → G := by (intro kA kB kC; (repeat' first | ((with_reducible refine aJ ?_); go_step) | ((with_reducible refine aI ?_); first | refine aW ?_ | (refine aL ?_ ?_ <;> intro _)) | fail); (rename_i z0; revert z0; with_reducible exact kA.out); (rename_i z0 z1 z2 z3; revert z0 z1 z2 z3; with_reducible exact kB.out); (rename_i z0 z1 z2 z3; revert z0 z1 z2 z3; with_reducible exact kC.out))) : G := e ⟨hA⟩ ⟨hB⟩ ⟨hC⟩
theorem NS {G A : Prop} (hA : A) (e : Hid A → G := by (intro kA; (repeat' first | ((with_reducible refine aJ ?_); go_step) | ((with_reducible refine aI ?_); first | refine aW ?_ | (refine aL ?_ ?_ <;> intro _)) | fail); (rename_i z0 z1; revert z0 z1; with_reducible exact kA.out))) : G := e ⟨hA⟩
theorem OE {G A B C : Prop} (hB : B) (hC : C) (hA : A) (e : Hid A → Hid B → Hid C → G := by (intro kA kB kC; (repeat' first | ((with_reducible refine aJ ?_); go_step) | ((with_reducible refine aI ?_); first | refine aW ?_ | (refine aL ?_ ?_ <;> intro _)) | fail); (rename_i z0 z1; revert z0 z1; with_reducible exact kA.out); (rename_i z0 z1 z2 z3; revert z0 z1 z2 z3; with_reducible exact kB.out); (rename_i z0; revert z0; with_reducible exact kC.out))) : G := e ⟨hA⟩ ⟨hB⟩ ⟨hC⟩
theorem RH {G A : Prop} (hA : A) (e : Hid A → G := by (intro kA; (repeat' first | ((with_reducible refine aJ ?_); go_step) | ((with_reducible refine aI ?_); first | refine aW ?_ | (refine aL ?_ ?_ <;> intro _)) | fail); (rename_i z0 z1 z2; revert z0 z1 z2; with_reducible exact kA.out))) : G := e ⟨hA⟩
theorem PU {G A B : Prop} (hB : B) (hA : A) (e : Hid A → Hid B → G := by (intro kA kB; (repeat' first | ((with_reducible refine aJ ?_); go_step) | ((with_reducible refine aI ?_); first | refine aW ?_ | (refine aL ?_ ?_ <;> intro _)) | fail); (rename_i z0 z1 z2; revert z0 z1 z2; with_reducible exact kA.out); (rename_i z0; revert z0; with_reducible exact kB.out))) : G := e ⟨hA⟩ ⟨hB⟩
theorem OF {G A B : Prop} (hB : B) (hA : A) (e : Hid A → Hid B → G := by (intro kA kB; (repeat' first | ((with_reducible refine aJ ?_); go_step) | ((with_reducible refine aI ?_); first | refine aW ?_ | (refine aL ?_ ?_ <;> intro _)) | fail); (rename_i z0 z1 z2; revert z0 z1 z2; with_reducible exact kA.out); (rename_i z0 z1 z2; revert z0 z1 z2; with_reducible exact kB.out))) : G := e ⟨hA⟩ ⟨hB⟩
theorem MG {G A B C D : Prop} (hB : B) (hC : C) (hD : D) (hA : A) (e : Hid A → Hid B → Hid C → Hid D → G := by (intro kA kB kC kD; (repeat' first | ((with_reducible refine aJ ?_); go_step) | ((with_reducible refine aI ?_); first | refine aW ?_ | (refine aL ?_ ?_ <;> intro _)) | fail); (rename_i z0 z1 z2; revert z0 z1 z2; with_reducible exact kA.out); (rename_i z0 z1 z2 z3 z4; revert z0 z1 z2 z3 z4; with_reducible exact kB.out); (rename_i z0 z1; revert z0 z1; with_reducible exact kC.out); (rename_i z0; revert z0; with_reducible exact kD.out))) : G := e ⟨hA⟩ ⟨hB⟩ ⟨hC⟩ ⟨hD⟩
theorem RI {G A : Prop} (hA : A) (e : Hid A → G := by (intro kA; (repeat' first | ((with_reducible refine aJ ?_); go_step) | ((with_reducible refine aI ?_); first | refine aW ?_ | (refine aL ?_ ?_ <;> intro _)) | fail); (rename_i z0 z1 z2 z3; revert z0 z1 z2 z3; with_reducible exact kA.out))) : G := e ⟨hA⟩
theorem PV {G A B : Prop} (hB : B) (hA : A) (e : Hid A → Hid B → G := by (intro kA kB; (repeat' first | ((with_reducible refine aJ ?_); go_step) | ((with_reducible refine aI ?_); first | refine aW ?_ | (refine aL ?_ ?_ <;> intro _)) | fail); (rename_i z0 z1 z2 z3; revert z0 z1 z2 z3; with_reducible exact kA.out); (rename_i z0 z1; revert z0 z1; with_reducible exact kB.out))) : G := e ⟨hA⟩ ⟨hB⟩
theorem RJ {G A : Prop} (hA : A) (e : Hid A → G := by (intro kA; (repeat' first | ((with_reducible refine aJ ?_); go_step) | ((with_reducible refine aI ?_); first | refine aW ?_ | (refine aL ?_ ?_ <;> intro _)) | fail); (rename_i z0 z1 z2 z3 z4 z5; revert z0 z1 z2 z3 z4 z5; with_reducible exact kA.out))) : G := e ⟨hA⟩
end Go.Proofs.X
set_option linter.unusedSimpArgs false
set_option linter.unusedVariables false
namespace Go.Proofs.X
open Go.RowKit
set_option maxRecDepth 100000
theorem JU {b : UInt8} (h : 65 ≤ b.toNat) (h2 : b.toNat ≤ 90) : IntKind.wrap .u8 (IntKind.wrap .u8 ((b.toNat : Int) - 65) + 97) = ((qL b).toNat : Int) := by
 rw [qL, if_pos ⟨h, h2⟩]
 rw [UInt8.toNat_add]
 simp only [IntKind.wrap, IntKind.bits, IntKind.signed]
 have : (32 : UInt8).toNat = 32 := rfl
 rw [this]
 simp
 omega
theorem tJ (l : List UInt8) (k : Nat) (b : UInt8) (h : l[k]? = some b) : (aQ l)[k]? = some [.int .u8 (b.toNat : Nat)] := by simp [aQ, h]
theorem tK (l : List UInt8) (k : Nat) (b : UInt8) : (aQ l).set k [.int .u8 (b.toNat : Nat)] = aQ (l.set k b) := by simp [aQ, List.map_set]
theorem RZ (l : List UInt8) (w : World) (hl : l.length ≤ 254) : Calls Tryz.prog 70 #[aH l] w (bO w (aH (low l))) := by
 go_enter Tryz.func70, Tryz.ntmps70
 refine_lift fD fun _ _ => ?_
 refine nD (e := 5) (l := l) rfl rfl (by decide +kernel) (by decide +kernel) (by omega) ?_
 intro v w1 x1 o1
 refine aA ?_
 have sl := o1.sl
 refine_lift fD fun _ _ => ?_
 clear sl
 have hlb : (aQ l).length = l.length := by simp [aQ]
 rw [hlb]
 go_loopw [10] (fun i wr => ∃ k : Nat, k ≤ l.length ∧ i = .int .i64 k ∧ Ext w wr ∧ Own w.heap.size 1 5 wr v (aQ (jT l k))) (fun i _ => l.length - (intOf i).toNat)
 case atStart => exact ⟨0, Nat.zero_le _, rfl, x1, by simpa [wE] using o1⟩
 case round =>
  obtain ⟨k, hk, rfl, hx, ho⟩ := hrel
  have hsl := ho.sl
  have hlen : (aQ (jT l k)).length = l.length := by simp [aQ, mH]
  by_cases hlt : k < l.length
  ·have hp := hsl.elem (tJ _ _ _ (tF l k hlt))
   (repeat' first | ((with_reducible refine aJ ?_); go_step) | ((with_reducible refine aI ?_); first | refine bM ?_ | (refine aL ?_ ?_ <;> intro hc)) | fail)
   ·rename_i h1 h2
    refine eX (c := .int .u8 _) (i := k) rfl rfl rfl ho (by omega) (by decide +kernel) rfl ?_
    intro w2 o2 m2
    have hx2 := ho.mvx m2 hx (Nat.le_refl _)
    have e2 : (aQ (jT l k)).set k [Value.int .u8 (IntKind.u8.wrap (IntKind.u8.wrap (↑l[k].toNat - 65) + 97))] = aQ (jT l (k + 1)) := by
     rw [qM l k hlt, ← tK, JU (by omega) (by omega)]
    rw [e2] at o2
    clear hx ho hsl hp
    refine_lift dE ?_
    exact ⟨⟨k + 1, by omega, rfl, hx2, o2⟩, by simp [intOf]; omega⟩
   ·refine ⟨⟨k + 1, by omega, rfl, hx, ?_⟩, by simp [intOf]; omega⟩
    rw [qN l k hlt (xY (by omega))]; exact ho
   ·refine ⟨⟨k + 1, by omega, rfl, hx, ?_⟩, by simp [intOf]; omega⟩
    rw [qN l k hlt (xY (by omega))]; exact ho
  ·have : k = l.length := by omega
   subst this
   rw [zK] at hsl
   refine_lift sM fun _ => ?_
   go_ret
   exact ⟨rfl, hx⟩
def yB (w : World) (b : Nat) : Nat := match w.cell? ⟨b, 0, none⟩ with | some (.string s) => s.size | _ => 0
theorem tL {w : World} {b : Nat} {l : List UInt8} {t : TypeId} {fr : Nat × Nat} (h : w.heap[b]? = some (.cells #[aH l] t fr)) : yB w b = l.length := by
 unfold yB
 rw [cell_of_row w b 0 _ t fr h]
 simp [aH, eE, -ByteArray.size_data]
def DG (P : Program) (l b : Nat) (lp : Loop) (J : List (List UInt8) → World → Prop) (Jx : World → Prop) : Prop :=
 (∀ pre x rest W, pre.length < 254 → J pre W → W.heap[b]? = some (.cells #[aH rest] 47 (0, 0)) → RoundIn Fence.wide 0 P l lp.fn ((lp.params.zip #[aH x, .bool true]).foldl (fun tmps (t, a) => tmps.setIfInBounds t a) lp.tmps) lp.assign lp.body W
    fun e W' => e = .returned (.bool true) ∧ J (pre ++ [x]) W' ∧ W'.heap[b]? = some (.cells #[aH rest] 47 (0, 0))) ∧
 (∀ pre W, J pre W → RoundIn Fence.wide 0 P l lp.fn ((lp.params.zip #[aH [], .bool false]).foldl (fun tmps (t, a) => tmps.setIfInBounds t a) lp.tmps) lp.assign lp.body W fun e W' => e = .returned (.bool false) ∧ Jx W')
set_option maxHeartbeats 1000000 in
theorem SA (l b : Nat) (lp : Loop) (J : List (List UInt8) → World → Prop) (Jx : World → Prop) (hp : lp.params.size = 2) (hL : ∀ pre W, J pre W → W.heap[l]? = some (.loop lp))
 (hput : ∀ pre W W' o, J pre W → Put W W' b o → J pre W') (hy : DG Tryz.prog l b lp J Jx) (nm : List UInt8) (w : World) (h0 : J [] w) (hb : w.heap[b]? = some (.cells #[aH nm] 47 (0, 0))) (hlen : nm.length ≤ 254) :
 Calls Tryz.prog 177 #[.func (.yield l) #[] #[], .pointer (some ⟨b, 0, none⟩)] w fun e w' => e = .returned (.tuple #[]) ∧ match fJ nm with | some ls => J ls w' | none => Jx w' := by
 go_enter Tryz.func177, Tryz.ntmps177
 iterate 2 go_step
 go_loopw [3] (fun _ wr => ∃ pre rest, J pre wr ∧ wr.heap[b]? = some (.cells #[aH rest] 47 (0, 0)) ∧ pre.length + rest.length ≤ 254 ∧ fJ nm = (fJ rest).map (pre ++ ·)) (fun _ wr => yB wr b)
 case atStart => exact ⟨[], nm, h0, hb, by simpa using hlen, by simp⟩
 case round =>
  obtain ⟨pre, rest, hJ, hbr, hrl, hpar⟩ := hrel
  have hc := aD (cs := [aH rest]) hbr
  cases rest with
  | nil =>
   refine_lift dE ?_
   refine bodyPost_end (results_none rfl _ _ _) rfl ⟨rfl, ?_⟩
   rw [hpar, qK]
   simpa using hJ
  | cons k t =>
   have hk : k.toNat < 256 := k.toNat_lt
   have hlt : t.length ≤ 253 := by simp only [List.length_cons] at hrl; omega
   have hfalse : (k.toNat < 1 ∨ 63 < k.toNat ∨ t.length < k.toNat) → fJ nm = none := by
    intro h
    rw [hpar, iW, if_pos h]; rfl
   have htrue : ¬ (k.toNat < 1 ∨ 63 < k.toNat ∨ t.length < k.toNat) → fJ nm = (fJ (t.drop k.toNat)).map ((pre ++ [t.take k.toNat]) ++ ·) := by
    intro h
    rw [hpar, iW, if_neg h, Option.map_map]
    congr 1
    funext x
    simp
   have Hp := Lib.hid hpar
   clear hpar
   repeat' (first | (refine fE (id := 3) ?_) | (refine fE (id := 4) ?_) | ((with_reducible apply sU); (rfl); exact rn; refine aA ?_) | (with_reducible (apply sX)) | ((with_reducible refine aI ?_); (first | (refine hV ?_; refine BX ?_) | (refine lY ?_; first | refine nP ?_ | refine EH ?_ | refine EJ ?_ | refine EI ?_ | ((first | refine DB ?_ ?_ | refine DC ?_ ?_) <;> intro hc)))) | ((fail_if_success (with_reducible refine aI ?_)); go_step))
   rotate_left
   ·refine sV (lp := lp) rfl rfl rfl (hL _ _ hJ) (by simp [hp]) (hy.1 _ _ _ _ (by simp only [List.length_cons] at hrl; omega) hJ hbr) ?_
    rintro e W' ⟨rfl, hJ', hb'⟩
    refine ⟨_, rfl, ?_⟩
    simp only [List.set_cons_succ, List.set_cons_zero]
    rw [show List.drop 1 (List.take (k.toNat + 1) (k :: t)) = t.take k.toNat by simp] at hJ'
    have hc2 := aD (cs := [aH (k :: t)]) hb'
    clear hJ
    have hlt2 : k.toNat ≤ t.length := by simp only [List.length_cons] at *; omega
    repeat' (first | (refine fE (id := 3) ?_) | (refine fE (id := 4) ?_) | ((with_reducible apply sU); (rfl); exact rn; refine aA ?_) | (with_reducible (apply sX)) | ((with_reducible refine aI ?_); (first | (refine hV ?_; refine BX ?_) | (refine lY ?_; first | refine nP ?_ | refine EH ?_ | refine EJ ?_ | refine EI ?_ | ((first | refine DB ?_ ?_ | refine DC ?_ ?_) <;> intro hc)))) | ((fail_if_success (with_reducible refine aI ?_)); go_step))
    refine dZ (v := aH (List.drop (k.toNat + 1) (k :: t))) rfl rfl rfl hb' (by decide +kernel) rfl ?_
    intro W2 hput2
    refine_lift dE ?_
    have hb2 := hput2.this
    have hJ2 := hput _ _ _ _ hJ' hput2
    have hd : List.drop (k.toNat + 1) (k :: t) = t.drop k.toNat := by simp
    go_roundw
    case rel => exact ⟨pre ++ [t.take k.toNat], t.drop k.toNat, hJ2, by rw [← hd]; exact hb2, by simp at hrl ⊢; omega, htrue (by omega)⟩
    case measure =>
     rw [tL hb2, tL hbr]
     simp; omega
   all_goals
    refine sV (lp := lp) rfl rfl rfl (hL _ _ hJ) (by simp [hp]) (hy.2 _ _ hJ) ?_
    rintro e W' ⟨rfl, hx⟩
    refine ⟨_, rfl, ?_⟩
    simp only [List.set_cons_succ, List.set_cons_zero]
    repeat' (first | (refine fE (id := 3) ?_) | (refine fE (id := 4) ?_) | ((with_reducible apply sU); (rfl); exact rn; refine aA ?_) | (with_reducible (apply sX)) | ((with_reducible refine aI ?_); (first | (refine hV ?_; refine BX ?_) | (refine lY ?_; first | refine nP ?_ | refine EH ?_ | refine EJ ?_ | refine EI ?_ | ((first | refine DB ?_ ?_ | refine DC ?_ ?_) <;> intro hc)))) | ((fail_if_success (with_reducible refine aI ?_)); go_step))
    refine bodyPost_ret (results_none rfl _ _ _) rfl ⟨rfl, ?_⟩
    rw [hfalse (by simp only [List.length_cons] at *; omega)]
    exact hx
theorem SB (nm : List UInt8) (w : World) : Calls Tryz.prog 126 #[aH nm] w fun e w' => e = .returned (.func (.func 177) #[] #[.pointer (some ⟨w.heap.size, 0, none⟩)]) ∧ Ext w w' ∧ w'.heap.size = w.heap.size + 1 ∧ w'.heap[w.heap.size]? = some (.cells #[aH nm] 47 (0, 0)) := by
 go_enter Tryz.func126, Tryz.ntmps126
 refine_lift NR ?_; intro _ _ _
 refine dP (vs := [aH nm]) rfl rfl ?_
 intro w1 x1 s1 h1
 refine aA ?_
 refine_lift dE ?_
 go_ret
 exact ⟨rfl, x1, s1, h1⟩
def aS (ls : List (List UInt8)) : List (List Value) := ls.map fun x => [aH x]
structure CutMid (w : World) (s : Nat) (lp : Loop) (pre : List (List UInt8)) (W : World) : Prop where
 ext : Ext w W
 hs : w.heap.size = s
 c0 : W.heap[s]? = some (.cells #[.slice none 0 0] 93 (0, 0))
 c1 : W.heap[s + 1]? = some (.cells #[.bool false] 4 (0, 0))
 loc : ∃ v, W.heap[s + 2]? = some (.cells #[v] 93 (0, 0)) ∧ Own (s + 6) 1 9 W v (aS pre)
 df : W.heap[s + 4]? = some (.deferred (some []))
 lp : W.heap[s + 5]? = some (.loop lp)
 size : s + 6 ≤ W.heap.size
structure CutOut (w : World) (s : Nat) (lp : Loop) (W : World) : Prop where
 ext : Ext w W
 hs : w.heap.size = s
 c0 : W.heap[s]? = some (.cells #[.slice none 0 0] 93 (0, 0))
 c1 : W.heap[s + 1]? = some (.cells #[.bool false] 4 (0, 0))
 df : W.heap[s + 4]? = some (.deferred (some []))
 lp : W.heap[s + 5]? = some (.loop { lp with state := .done, pending := some .ret })
theorem CutMid.put {w : World} {s : Nat} {lp : Loop} {pre : List (List UInt8)} {W W' : World} (h : CutMid w s lp pre W) {o : Obj} (hp : Put W W' (s + 3) o) : CutMid w s lp pre W' := by
 have hm := hp.mv
 have ne : ∀ k, k ≠ s + 3 → some k ≠ some (s + 3) := fun k hk e => hk (Option.some.inj e)
 obtain ⟨v, hv, ho⟩ := h.loc
 refine ⟨h.ext.move hm (by rintro k ⟨⟩; have := h.hs; omega), h.hs, hm.at h.c0 (ne _ (by omega)), hm.at h.c1 (ne _ (by omega)), ⟨v, hm.at hv (ne _ (by omega)), ho.mv hm ?_⟩, hm.at h.df (ne _ (by omega)), hm.at h.lp (ne _ (by omega)), Nat.le_trans h.size hm.size⟩
 cases hb : v.ownBlock with
 | none => exact .inl rfl
 | some r => have := ho.block r hb; exact .inr (ne r (by omega))
set_option maxHeartbeats 1000000 in
theorem PH (nm : List UInt8) (w : World) : Calls Tryz.prog 69 #[aH nm] w (oT w fun v w' => match aV nm with
 | some ls => ∃ s, v = .tuple #[s, .bool true] ∧ Own w.heap.size 1 9 w' s (aS ls)
 | none => v = .tuple #[.slice none 0 0, .bool false]) := by
 refine oX Tryz.func69 rfl ?_
 simp only [Tryz.ntmps69, List.size_toArray, List.length_cons, List.length_nil, Nat.reduceAdd, Nat.reduceSub, Array.replicate_succ, Array.replicate_zero, List.push_toArray, List.append_toArray, List.nil_append, List.cons_append]
 refine_lift NR ?_; intro _ _ _
 refine aP (z := [.slice none 0 0]) rfl (by decide +kernel) ?_
 intro w1 x1 s1 h1
 refine aA ?_
 refine aP (z := [.bool false]) rfl (by decide +kernel) ?_
 intro w2 x2 s2 h2
 refine aA ?_
 rw [s1] at h2 ⊢
 have h1' := x2.at h1
 refine_lift PT (fun _ _ _ => ?_) (fun _ _ _ _ _ => ?_)
 ·rename_i hc
  refine dZ (v := .slice none 0 0) rfl rfl rfl h1' (by decide +kernel) rfl ?_
  intro w3 p3
  have h23 := (p3.other _ (by omega)).trans h2
  refine dZ (v := .bool false) rfl rfl rfl h23 (by decide +kernel) rfl ?_
  intro w4 p4
  have h14 := (p4.other _ (by omega)).trans p3.this
  refine_lift dE ?_
  refine sY (iU rfl rfl rfl h14 p4.this (by decide +kernel) (by decide +kernel)) ⟨_, rfl, ?_, ?_⟩
  ·exact ((x1.trans x2).move p3.mv (by rintro k ⟨⟩; omega)).move p4.mv (by rintro k ⟨⟩; omega)
  ·rw [aV, if_pos (by omega)]
 ·rename_i hc
  refine aP (z := [.slice none 0 0]) rfl (by decide +kernel) ?_
  intro w3 x3 s3 h3
  rw [s2, s1] at h3 s3 ⊢
  refine_lift zQ fun _ _ _ _ => ?_
  refine aF (enters_of Tryz.func126 rfl rfl) rfl rfl (SB nm _) ?_
  rintro e w4 ⟨rfl, x4, s4, h4⟩
  refine ⟨_, rfl, ?_⟩
  rw [s3] at h4 s4
  refine aA ?_
  refine_lift PG ?_
  simp only [s3]
  have e4 : w4.heap.size = w.heap.size + 4 := by omega
  generalize hs : w.heap.size = s at *
  have g0 : w4.heap[s]? = _ := x4.at (x3.at h1')
  have g1 : w4.heap[s + 1]? = _ := x4.at (x3.at h2)
  have g2 : w4.heap[s + 2]? = _ := x4.at h3
  have g3 : w4.heap[s + 3]? = _ := h4
  have gx : Ext w w4 := ((x1.trans x2).trans x3).trans x4
  clear h1 h2 h1' h3 h4 x1 x2 x3 x4 s1 s2 s3 s4
  refine sE (caps := #[.pointer (some ⟨s + 3, 0, none⟩)]) rfl (enters_of Tryz.func177 rfl rfl) e4 ?_
  intro fn W lp hlp xW k4 k5 sW
  have hJ : CutMid w s lp [] W := ⟨gx.trans xW, hs, xW.at g0, xW.at g1, ⟨_, xW.at g2, Own.nil _ _ _ _⟩, k4, k5, by omega⟩
  have gb := xW.at g3
  have hrdy : lp.state = .ready ∧ lp.pending = none := by subst hlp; exact ⟨rfl, rfl⟩
  have hlab : aV nm = fJ nm := by rw [aV, if_neg (by omega)]
  have hy : DG Tryz.prog (s + 5) (s + 3) lp (CutMid w s lp) (CutOut w s lp) := by
   constructor
   ·intro pre x rest W hpre hM hb
    subst hlp
    simp only [List.zip_toArray, List.zip_cons_cons, List.zip_nil_right, List.foldl_toArray', List.foldl_cons, List.foldl_nil, List.setIfInBounds_toArray, List.set_cons_succ, List.set_cons_zero, List.foldl_toArray, List.size_toArray, List.zip_toArray, List.length_cons, List.length_nil]
    have m0 := hM.c0
    have m1 := hM.c1
    obtain ⟨v, m2, mo⟩ := hM.loc
    have md := hM.df
    have ml := hM.lp
    have mx := hM.ext
    have ms := hM.size
    clear hM hJ gb xW k4 k5 sW g0 g1 g2 g3
    refine zG ?_
    repeat' (first | refine gK (by rfl) (by intro _ _ h; exact h) ?_ | ((with_reducible refine aI ?_); (first | (refine hV ?_; refine BX ?_) | (refine lY ?_; first | refine nP ?_ | refine EH ?_ | refine EJ ?_ | refine EI ?_ | ((first | refine DB ?_ ?_ | refine DC ?_ ?_) <;> intro hc)))) | ((fail_if_success (with_reducible refine aI ?_)); first | go_step | gi_step))
    refine ⟨_, ml, rfl, ?_⟩
    intro w2 p2
    have n0 := p2.at m0 (by omega)
    have n1 := p2.at m1 (by omega)
    have n2 := p2.at m2 (by omega)
    have no := mo.put p2 (by omega)
    have nb := p2.at hb (by omega)
    have nd := p2.at md (by omega)
    have nl := p2.this
    have nx := mx.move p2.mv (by rintro k ⟨⟩; omega)
    have ns : s + 6 ≤ w2.heap.size := Nat.le_trans ms p2.mv.size
    clear m0 m1 m2 mo hb md ml mx ms p2
    have hp2 := aD (cs := [v]) n2
    repeat' (first | refine gK (by rfl) (by intro _ _ h; exact h) ?_ | ((with_reducible refine aI ?_); (first | (refine hV ?_; refine BX ?_) | (refine lY ?_; first | refine nP ?_ | refine EH ?_ | refine EJ ?_ | refine EI ?_ | ((first | refine DB ?_ ?_ | refine DC ?_ ?_) <;> intro hc)))) | ((fail_if_success (with_reducible refine aI ?_)); first | go_step | gi_step))
    refine bK (xs := [aH x]) (k := 1) (e := 9) (bytes := 16) rfl rfl rfl (by intro y hy; simp at hy; subst hy; rfl) (by decide +kernel) (by simp) ?_
    intro v' w3 x3 s3 sl3 _
    refine aA ?_
    refine iT (B := s + 6) (k := 1) (e := 9) (bytes := 16) (x := v') rfl (no.ext x3) rfl sl3 (by decide +kernel) (by simp [aH, Value.cells]; rfl) (by have := x3.size; omega) (by simp [aS]; omega) (by simp [aS]; omega) ?_
    intro v2 w4 o4 mv4
    refine aA ?_
    have hv : Mv v.ownBlock w3 w4 := mv4
    have no3 := no.ext x3
    have q2 := no3.mvs hv (x3.at n2) (by omega)
    refine dZ (v := v2) rfl rfl rfl q2 (by decide +kernel) o4.one ?_
    intro w5 p5
    have q0 := p5.at (no3.mvs hv (x3.at n0) (by omega)) (by omega)
    have q1 := p5.at (no3.mvs hv (x3.at n1) (by omega)) (by omega)
    have q3 := p5.at (no3.mvs hv (x3.at nb) (by omega)) (by omega)
    have q4 := p5.at (no3.mvs hv (x3.at nd) (by omega)) (by omega)
    have q5 := p5.at (no3.mvs hv (x3.at nl) (by omega)) (by omega)
    have qx := (no3.mvx hv (nx.trans x3) (by omega)).move p5.mv (by rintro k ⟨⟩; omega)
    have qs : s + 6 ≤ w5.heap.size := by have := x3.size; have := hv.size; have := p5.mv.size; omega
    have qo := o4.put p5 (by omega)
    have q2' := p5.this
    repeat' (first | refine gK (by rfl) (by intro _ _ h; exact h) ?_ | ((with_reducible refine aI ?_); (first | (refine hV ?_; refine BX ?_) | (refine lY ?_; first | refine nP ?_ | refine EH ?_ | refine EJ ?_ | refine EI ?_ | ((first | refine DB ?_ ?_ | refine DC ?_ ?_) <;> intro hc)))) | ((fail_if_success (with_reducible refine aI ?_)); first | go_step | gi_step))
    refine xU q5 fun w6 p6 => ⟨rfl, ⟨qx.move p6.mv (by rintro k ⟨⟩; omega), hs, p6.at q0 (by omega), p6.at q1 (by omega), ⟨v2, p6.at q2' (by omega), ?_⟩, p6.at q4 (by omega), p6.this, Nat.le_trans qs p6.mv.size⟩, p6.at q3 (by omega)⟩
    have := qo.put p6 (by omega)
    simpa [aS, aH, Value.cells] using this
   ·intro pre W hM
    subst hlp
    simp only [List.zip_toArray, List.zip_cons_cons, List.zip_nil_right, List.foldl_toArray', List.foldl_cons, List.foldl_nil, List.setIfInBounds_toArray, List.set_cons_succ, List.set_cons_zero, List.foldl_toArray, List.size_toArray, List.length_cons, List.length_nil]
    have m0 := hM.c0
    have m1 := hM.c1
    have md := hM.df
    have ml := hM.lp
    have mx := hM.ext
    clear hM hJ gb xW k4 k5 sW g0 g1 g2 g3
    refine zG ?_
    repeat' (first | refine gK (by rfl) (by intro _ _ h; exact h) ?_ | ((with_reducible refine aI ?_); (first | (refine hV ?_; refine BX ?_) | (refine lY ?_; first | refine nP ?_ | refine EH ?_ | refine EJ ?_ | refine EI ?_ | ((first | refine DB ?_ ?_ | refine DC ?_ ?_) <;> intro hc)))) | ((fail_if_success (with_reducible refine aI ?_)); first | go_step | gi_step))
    refine ⟨_, ml, rfl, ?_⟩
    intro w2 p2
    have n0 := p2.at m0 (by omega)
    have n1 := p2.at m1 (by omega)
    have nd := p2.at md (by omega)
    have nl := p2.this
    have nx := mx.move p2.mv (by rintro k ⟨⟩; omega)
    clear m0 m1 md ml mx p2
    repeat' (first | refine gK (by rfl) (by intro _ _ h; exact h) ?_ | ((with_reducible refine aI ?_); (first | (refine hV ?_; refine BX ?_) | (refine lY ?_; first | refine nP ?_ | refine EH ?_ | refine EJ ?_ | refine EI ?_ | ((first | refine DB ?_ ?_ | refine DC ?_ ?_) <;> intro hc)))) | ((fail_if_success (with_reducible refine aI ?_)); first | go_step | gi_step))
    refine dZ (v := .slice none 0 0) rfl rfl rfl n0 (by decide +kernel) rfl ?_
    intro w3 p3
    refine dZ (v := .bool false) rfl rfl rfl (p3.at n1 (by omega)) (by decide +kernel) rfl ?_
    intro w4 p4
    have q0 := p4.at p3.this (by omega)
    have q1 := p4.this
    have q4 := p4.at (p3.at nd (by omega)) (by omega)
    have q5 := p4.at (p3.at nl (by omega)) (by omega)
    have qx := (nx.move p3.mv (by rintro k ⟨⟩; omega)).move p4.mv (by rintro k ⟨⟩; omega)
    repeat' (first | refine gK (by rfl) (by intro _ _ h; exact h) ?_ | ((with_reducible refine aI ?_); (first | (refine hV ?_; refine BX ?_) | (refine lY ?_; first | refine nP ?_ | refine EH ?_ | refine EJ ?_ | refine EI ?_ | ((first | refine DB ?_ ?_ | refine DC ?_ ?_) <;> intro hc)))) | ((fail_if_success (with_reducible refine aI ?_)); first | go_step | gi_step))
    exact EF q5 fun w6 p6 => ⟨rfl, ⟨qx.move p6.mv (by rintro k ⟨⟩; omega), hs, p6.at q0 (by omega), p6.at q1 (by omega), p6.at q4 (by omega), p6.this⟩⟩
  refine (SA (s + 5) (s + 3) lp (CutMid w s lp) (CutOut w s lp) (by subst hlp; rfl) (fun _ _ h => h.lp) (fun _ _ _ _ h hp => h.put hp) hy nm W hJ gb (by omega)).mono ?_
  rintro e W' ⟨rfl, hR⟩
  refine ⟨⟨_, rfl⟩, ?_⟩
  clear hJ gb xW k4 k5 sW hy g0 g1 g2 g3
  cases hpn : fJ nm with
  | some ls =>
   rw [hpn] at hR
   refine ⟨lp, hR.lp, by rw [hrdy.1]; simp, ?_⟩
   intro W2 hput
   rw [hrdy.2]
   clear hlp hrdy
   simp only
   have hm := hput.mv
   have ne : ∀ k, k ≠ s + 4 + 1 → some k ≠ some (s + 4 + 1) := fun k hk e => hk (Option.some.inj e)
   have f0 := hm.at hR.c0 (ne _ (by omega))
   have f1 := hm.at hR.c1 (ne _ (by omega))
   have fd := hm.at hR.df (ne _ (by omega))
   obtain ⟨v, f2, ho⟩ := hR.loc
   have fo : Own (s + 6) 1 9 W2 v (aS ls) := ho.put hput (by omega)
   have f2 := hm.at f2 (ne _ (by omega))
   have fx : Ext w W2 := hR.ext.move hm (by rintro k ⟨⟩; omega)
   have fs := Nat.le_trans hR.size hm.size
   clear hR hput hm
   have hp2 := aD (cs := [v]) f2
   refine_lift fD fun _ _ => ?_
   refine dZ (v := v) rfl rfl rfl f0 (by decide +kernel) fo.one ?_
   intro W3 p3
   refine dZ (v := .bool true) rfl rfl rfl ((p3.other _ (by omega)).trans f1) (by decide +kernel) rfl ?_
   intro W4 p4
   have q0 := (p4.other _ (by omega)).trans p3.this
   have qd := (p4.other _ (by omega)).trans ((p3.other _ (by omega)).trans fd)
   have qx : Ext w W4 := (fx.move p3.mv (by rintro k ⟨⟩; omega)).move p4.mv (by rintro k ⟨⟩; omega)
   have qo : Own (s + 6) 1 9 W4 v (aS ls) := (fo.put p3 (by omega)).put p4 (by omega)
   have qf := (p4.this)
   refine_lift dE ?_
   refine rH qd fun W5 p5 => ⟨_, iU rfl rfl rfl (p5.at q0 (by omega)) (p5.at qf (by omega)) (by decide +kernel) (by decide +kernel), _, rfl, qx.move p5.mv (by rintro k ⟨⟩; omega), ?_⟩
   rw [hlab, hpn, hs]
   exact ⟨v, rfl, (qo.put p5 (by omega)).weaken (by omega)⟩
  | none =>
   rw [hpn] at hR
   refine ⟨_, hR.lp, by simp, ?_⟩
   intro W2 hput
   simp only
   have hm := hput.mv
   have ne : ∀ k, k ≠ s + 4 + 1 → some k ≠ some (s + 4 + 1) := fun k hk e => hk (Option.some.inj e)
   have f0 := hm.at hR.c0 (ne _ (by omega))
   have f1 := hm.at hR.c1 (ne _ (by omega))
   have fd := hm.at hR.df (ne _ (by omega))
   have fx : Ext w W2 := hR.ext.move hm (by rintro k ⟨⟩; omega)
   clear hlp hrdy
   refine_lift PG ?_
   refine rH fd fun W5 p5 => ⟨_, iU rfl rfl rfl (p5.at f0 (by omega)) (p5.at f1 (by omega)) (by decide +kernel) (by decide +kernel), _, rfl, fx.move p5.mv (by rintro k ⟨⟩; omega), ?_⟩
   rw [hlab, hpn]
open Go.RowKit Go.Proofs
theorem LH : (Tryz.prog.info? 188).map (·.size) = some 2 := by kernel_rfl
theorem OG : liesAt Tryz.prog Tryz.prog.depth 188 (2 / Tryz.prog.cellsOf 188) 0 188 1 = true := by kernel_rfl
theorem LI : (Tryz.prog.info? 5).map (fun i => (i.zero, i.size, i.bytes)) = some (some (.int .u8 0), 1, 1) := by kernel_rfl
set_option maxHeartbeats 1000000 in
set_option maxRecDepth 100000 in
theorem T.Builder_copyCheck_used (b : Nat) (w : World) (h0 : w.cell? ⟨b, 0, none⟩ = some (.pointer (some ⟨b, 0, none⟩))) :
 Calls Tryz.prog 178 #[.pointer (some ⟨b, 0, none⟩)] w fun e w' => e = .returned (.tuple #[]) ∧ w' = w := by
 obtain ⟨j, hj, _⟩ := Option.map_eq_some_iff.1 LH
 go_enter Tryz.func178, Tryz.ntmps178
 go_wp2
 rw [Lib.run_neq_ptr_same w _ Tryz.underlying186 hj]
 go_wp2
 go_end0
 exact ⟨rfl, rfl⟩
set_option maxHeartbeats 1000000 in
set_option maxRecDepth 100000 in
theorem T.Builder_copyCheck_fresh (b : Nat) (w : World) (h0 : w.cell? ⟨b, 0, none⟩ = some (.pointer none)) (hsh : w.shape? b = some (188, 2)) (hfz : w.frozen? ⟨b, 0, none⟩ = false) :
 Calls Tryz.prog 178 #[.pointer (some ⟨b, 0, none⟩)] w fun e w' => e = .returned (.tuple #[]) ∧ w' = w.setCell ⟨b, 0, none⟩ (.pointer (some ⟨b, 0, none⟩)) := by
 obtain ⟨j, hj, hjs⟩ := Option.map_eq_some_iff.1 LH
 go_enter Tryz.func178, Tryz.ntmps178
 go_wp2
 rw [Lib.run_to_unsafe w ⟨b, 0, none⟩ Tryz.underlying186 Tryz.underlying247 hj (by rw [hjs]; decide) hsh (Nat.zero_lt_succ 1)]
 simp only [Result.andThen]
 rw [Oper.upon_value]
 go_wp2
 rw [run_callFunc_extern Tryz.func214 (by kernel_rfl) (by kernel_rfl) (by kernel_rfl) (e := Extern.AbiNoEscape.same) (by kernel_rfl)]
 rw [Lib.run_noEscape]
 simp only [Result.andThen]
 rw [Oper.upon_value]
 go_wp2
 rw [Lib.run_from_unsafe w ⟨b, 0, none⟩ Tryz.underlying247 Tryz.underlying186 hj hsh OG]
 simp only [Result.andThen]
 rw [Oper.upon_value]
 go_wp2
 go_end0
 exact ⟨rfl, rfl⟩
theorem T.Builder_copyCheck (B b : Nat) (bs : List Value) (w : World) (h : Lib.IsBuilder 188 5 B b bs w) :
 Calls Tryz.prog 178 #[.pointer (some ⟨b, 0, none⟩)] w fun e w' => e = .returned (.tuple #[]) ∧ (Lib.BuilderAt 188 5 B b (.pointer (some ⟨b, 0, none⟩)) bs w' ∧ Below B w w' ∧ w.drawn ≤ w'.drawn) := by
 rcases h with h | h
 ·refine (T.Builder_copyCheck_fresh b w h.cell0 h.shape h.frozen0).mono ?_
  rintro e w' ⟨rfl, rfl⟩
  exact ⟨rfl, h.used _, (Below.refl B w).setCell (p := ⟨b, 0, none⟩) h.1 _, Nat.le_refl _⟩
 ·refine (T.Builder_copyCheck_used b w h.cell0).mono ?_
  rintro e w' ⟨rfl, rfl⟩
  exact ⟨rfl, h, Below.refl B _, Nat.le_refl _⟩
set_option maxHeartbeats 2000000 in
set_option maxRecDepth 100000 in
theorem T.Builder_WriteByte (B b : Nat) (bs : List Value) (c : Int) (w : World) (h : Lib.IsBuilder 188 5 B b bs w) (hlen : bs.length + 1 ≤ 140737488355328) (hBw : B ≤ w.heap.size) :
 Calls Tryz.prog 128 #[.pointer (some ⟨b, 0, none⟩), .int .u8 c] w fun e w' => e = .returned .nilIface ∧ (Lib.BuilderAt 188 5 B b (.pointer (some ⟨b, 0, none⟩)) (bs ++ [.int .u8 c]) w' ∧ Below B w w' ∧ w.drawn ≤ w'.drawn) := by
 obtain ⟨i0, hi, hz0, hz1, hz2⟩ := info_parts LI
 go_enter Tryz.func128, Tryz.ntmps128
 go_wp2_with (go_at_call 178; refine (T.Builder_copyCheck B b bs _ h).mono ?_)
 rintro e w1 ⟨rfl, h1, hb1, hd1⟩
 obtain ⟨hB, v, hbk, hown, hne⟩ := h1
 have c0 : w1.cell? ⟨b, 0, none⟩ = some (.pointer (some ⟨b, 0, none⟩)) := by rw [Lib.cell_of_heap hbk]; rfl
 have c1 : w1.cell? ⟨b, 1, none⟩ = some v := by rw [Lib.cell_of_heap hbk]; rfl
 go_wp2_with (at_builtin; refine BV rfl _ _ 97 rfl B 5 i0 (.int .u8 0) 1 1 Tryz.underlying97 hi hz0 hz1 hz2 rfl (by decide) _ _ _ rfl (hown.alloc _) ⟨w1.heap.size, 0, none⟩ 1 1 [.int .u8 c] rfl rfl ?c1 ?c2 ?c3 ?c4 ?c5 ?_)
 case c1 =>
  intro j u hj
  match j, hj with
  | 0, hj => simp at hj; subst hj; simp [Addr.add]
 case c2 => intro u hu; simp at hu; subst hu; rfl
 case c3 => unfold maxLen; omega
 case c4 => omega
 case c5 => have := hb1.size; simp; omega
 intro v' w2 hown' hgrow hd2
 have hlt : b < w1.heap.size := by
  rcases Nat.lt_or_ge b w1.heap.size with h' | h'
  ·exact h'
  ·simp [Array.getElem?_eq_none h'] at hbk
 have hb2 : w2.heap[b]? = some (.cells #[.pointer (some ⟨b, 0, none⟩), v] 188 (0, 0)) := by
  rw [hgrow.block b (by simp; omega) (fun e => hne e.symm), Lib.alloc_old w1 _ b hlt]
  exact hbk
 have d0 : w2.cell? ⟨b, 0, none⟩ = some (.pointer (some ⟨b, 0, none⟩)) := by rw [Lib.cell_of_heap hb2]; rfl
 have d1 : w2.cell? ⟨b, 1, none⟩ = some v := by rw [Lib.cell_of_heap hb2]; rfl
 have f1 : w2.frozen? ⟨b, 1, none⟩ = false := Lib.frozen_of_heap hb2 1
 obtain ⟨g, cap, rfl⟩ : ∃ g cap, v' = .slice (some ⟨g, 0, none⟩) (bs.length + 1) cap := by
  rcases hown'.2 with ⟨_, h0⟩ | ⟨g, cap, cur, hv, _⟩
  ·omega
  ·exact ⟨g, cap, hv⟩
 go_wp2
 go_ret
 refine ⟨rfl, ?_, ?_⟩
 ·exact Lib.BuilderAt.put (T := 188) (e := 5) hB hb2 (bs' := bs ++ [.int .u8 c]) (by simpa using hown') (by decide)
 ·exact ⟨((hb1.alloc (by have := hb1.size; omega) _).grown hgrow (by have := hb1.size; simp; omega) (fun k hk => (hown.lt k hk).1)).setCell (p := ⟨b, 1, none⟩) hB _, Nat.le_trans hd1 hd2⟩
set_option maxHeartbeats 2000000 in
set_option maxRecDepth 100000 in
theorem T.Builder_WriteString (B b : Nat) (bs : List Value) (s : ByteArray) (w : World) (h : Lib.IsBuilder 188 5 B b bs w) (hlen : bs.length + s.size ≤ 140737488355328) (hBw : B ≤ w.heap.size) :
 Calls Tryz.prog 129 #[.pointer (some ⟨b, 0, none⟩), .string s] w fun e w' => e = .returned (.tuple #[.int .i64 s.size, .nilIface]) ∧ (Lib.BuilderAt 188 5 B b (.pointer (some ⟨b, 0, none⟩)) (bs ++ Lib.strCells s) w' ∧ Below B w w' ∧ w.drawn ≤ w'.drawn) := by
 obtain ⟨i0, hi, hz0, hz1, hz2⟩ := info_parts LI
 go_enter Tryz.func129, Tryz.ntmps129
 go_wp2_with (go_at_call 178; refine (T.Builder_copyCheck B b bs _ h).mono ?_)
 rintro e w1 ⟨rfl, h1, hb1, hd1⟩
 obtain ⟨hB, v, hbk, hown, hne⟩ := h1
 have c0 : w1.cell? ⟨b, 0, none⟩ = some (.pointer (some ⟨b, 0, none⟩)) := by rw [Lib.cell_of_heap hbk]; rfl
 have c1 : w1.cell? ⟨b, 1, none⟩ = some v := by rw [Lib.cell_of_heap hbk]; rfl
 go_wp2_with (at_builtin; refine zH rfl _ _ 97 9 rfl B 5 i0 Tryz.underlying97 Tryz.underlying9 hi hz0 hz1 hz2 _ _ _ rfl hown s rfl ?c3 ?c4 ?c5 ?_)
 case c3 => unfold maxLen; omega
 case c4 => omega
 case c5 => have := hb1.size; omega
 intro v' w2 hown' hgrow hd2
 have hlt : b < w1.heap.size := by
  rcases Nat.lt_or_ge b w1.heap.size with h' | h'
  ·exact h'
  ·simp [Array.getElem?_eq_none h'] at hbk
 have hb2 : w2.heap[b]? = some (.cells #[.pointer (some ⟨b, 0, none⟩), v] 188 (0, 0)) := by
  rw [hgrow.block b hlt (fun e => hne e.symm)]
  exact hbk
 have d0 : w2.cell? ⟨b, 0, none⟩ = some (.pointer (some ⟨b, 0, none⟩)) := by rw [Lib.cell_of_heap hb2]; rfl
 have d1 : w2.cell? ⟨b, 1, none⟩ = some v := by rw [Lib.cell_of_heap hb2]; rfl
 have f1 : w2.frozen? ⟨b, 1, none⟩ = false := Lib.frozen_of_heap hb2 1
 obtain ⟨ao, n', cap, rfl⟩ : ∃ ao n' cap, v' = .slice ao n' cap := by
  rcases hown'.2 with ⟨hv, _⟩ | ⟨g, cap, cur, hv, _⟩
  ·exact ⟨_, _, _, hv⟩
  ·exact ⟨_, _, _, hv⟩
 go_wp2
 go_ret2
 refine ⟨rfl, ?_, ?_⟩
 ·exact Lib.BuilderAt.put (T := 188) (e := 5) hB hb2 (bs' := bs ++ Lib.strCells s) (by simpa [Lib.strCells_length] using hown') (by decide)
 ·exact ⟨(hb1.grown hgrow (by have := hb1.size; omega) (fun k hk => (hown.lt k hk).1)).setCell (p := ⟨b, 1, none⟩) hB _, Nat.le_trans hd1 hd2⟩
end Go.Proofs.X
