/- A part of the proof of a statement on sets of records: what some functions of the program do, walked step by step. -/
import Derived.Test.YtmemlckaklckpaaXLib
import Derived.Lib.Strings
namespace Go.Proofs.X
open Go
/-! names -/
def cutF : Nat → List UInt8 → Option (List (List UInt8))
  | _, [] => some []
  | 0, _ :: _ => none
  | f + 1, k :: t => if k.toNat < 1 ∨ 63 < k.toNat ∨ t.length < k.toNat then none else (cutF f (t.drop k.toNat)).map (t.take k.toNat :: ·)
theorem cutF_more : ∀ (f : Nat) (l : List UInt8), l.length ≤ f → cutF f l = cutF l.length l
  | 0, [], _ => rfl
  | f + 1, [], _ => rfl
  | f + 1, k :: t, h => by
    simp only [List.length_cons] at h ⊢
    unfold cutF
    split
    · rfl
    · rw [cutF_more f (t.drop k.toNat) (by simp; omega), cutF_more t.length (t.drop k.toNat) (by simp)]
/-- the labels whose bytes these are -/
def parse (l : List UInt8) : Option (List (List UInt8)) := cutF l.length l
theorem parse_nil : parse [] = some [] := rfl
theorem parse_cons (k : UInt8) (t : List UInt8) : parse (k :: t) = if k.toNat < 1 ∨ 63 < k.toNat ∨ t.length < k.toNat then none else (parse (t.drop k.toNat)).map (t.take k.toNat :: ·) := by
  unfold parse
  simp only [List.length_cons]
  rw [cutF]
  split
  · rfl
  · rw [cutF_more t.length (t.drop k.toNat) (by simp)]
/-- a name's labels -/
def labels (n : List UInt8) : Option (List (List UInt8)) := if 254 < n.length then none else parse n
/-- a byte, small -/
def lowB (b : UInt8) : UInt8 := if 65 ≤ b.toNat ∧ b.toNat ≤ 90 then b + 32 else b
def low (l : List UInt8) : List UInt8 := l.map lowB
/-- labels one behind the other -/
def enc (ls : List (List UInt8)) : List UInt8 := (ls.map fun x => UInt8.ofNat x.length :: x).flatten
def fitL (x : List UInt8) : Bool := decide (1 ≤ x.length) && decide (x.length ≤ 63)
def join (ls : List (List UInt8)) : Option (List UInt8) := if ls.all fitL = true ∧ (enc ls).length ≤ 254 then some (enc ls) else none
/-- a name, small -/
def fold (n : List UInt8) : List UInt8 := match labels n with | none => n | some ls => (join (ls.map low)).getD []
/-- the first k are small -/
def lowP (l : List UInt8) (k : Nat) : List UInt8 := low (l.take k) ++ l.drop k
theorem lowP_length (l : List UInt8) (k : Nat) : (lowP l k).length = l.length := by simp [lowP, low]; omega
theorem lowP_zero (l : List UInt8) : lowP l 0 = l := by simp [lowP, low]
theorem lowP_all (l : List UInt8) : lowP l l.length = low l := by simp [lowP]
theorem lowP_get (l : List UInt8) (k : Nat) (h : k < l.length) : (lowP l k)[k]? = some l[k] := by
  have hm : (low (l.take k)).length = k := by simp [low]; omega
  rw [lowP, List.getElem?_append_right (by omega), hm]
  simp [h]
theorem lowP_succ (l : List UInt8) (k : Nat) (h : k < l.length) : lowP l (k + 1) = (lowP l k).set k (lowB l[k]) := by
  have hm : (low (l.take k)).length = k := by simp [low]; omega
  have h1 : l.take (k + 1) = l.take k ++ [l[k]] := by rw [List.take_add_one, List.getElem?_eq_getElem h]; rfl
  have h2 : l.drop k = l[k] :: l.drop (k + 1) := List.drop_eq_getElem_cons h
  unfold lowP
  rw [List.set_append_right _ _ (by omega), hm, h2, h1, Nat.sub_self, List.set_cons_zero]
  simp only [low, List.map_append, List.map_cons, List.map_nil, List.append_assoc, List.singleton_append]
theorem lowP_same (l : List UInt8) (k : Nat) (h : k < l.length) (hs : lowB l[k] = l[k]) : lowP l (k + 1) = lowP l k := by
  rw [lowP_succ l k h, hs]
  apply List.ext_getElem?
  intro j
  by_cases hj : k = j
  · subst hj; rw [List.getElem?_set_self (by rw [lowP_length]; exact h), lowP_get l k h]
  · rw [List.getElem?_set_ne hj]
theorem lowB_no {b : UInt8} (h : ¬ (65 ≤ b.toNat ∧ b.toNat ≤ 90)) : lowB b = b := by rw [lowB, if_neg h]
/-- the first k are turned -/
def mapP {α : Type} (f : α → α) (l : List α) (k : Nat) : List α := (l.take k).map f ++ l.drop k
theorem mapP_length {α : Type} (f : α → α) (l : List α) (k : Nat) : (mapP f l k).length = l.length := by simp [mapP]; omega
theorem mapP_zero {α : Type} (f : α → α) (l : List α) : mapP f l 0 = l := by simp [mapP]
theorem mapP_all {α : Type} (f : α → α) (l : List α) : mapP f l l.length = l.map f := by simp [mapP]
theorem mapP_get {α : Type} (f : α → α) (l : List α) (k : Nat) (h : k < l.length) : (mapP f l k)[k]? = some l[k] := by
  have hm : ((l.take k).map f).length = k := by simp; omega
  rw [mapP, List.getElem?_append_right (by omega), hm]
  simp [h]
theorem mapP_succ {α : Type} (f : α → α) (l : List α) (k : Nat) (h : k < l.length) : mapP f l (k + 1) = (mapP f l k).set k (f l[k]) := by
  have hm : ((l.take k).map f).length = k := by simp; omega
  have h1 : l.take (k + 1) = l.take k ++ [l[k]] := by rw [List.take_add_one, List.getElem?_eq_getElem h]; rfl
  have h2 : l.drop k = l[k] :: l.drop (k + 1) := List.drop_eq_getElem_cons h
  unfold mapP
  rw [List.set_append_right _ _ (by omega), hm, h2, h1, Nat.sub_self, List.set_cons_zero]
  simp only [List.map_append, List.map_cons, List.map_nil, List.append_assoc, List.singleton_append]
/-- labels that were parsed -/
theorem parse_fit : ∀ (n : Nat) (l : List UInt8), l.length ≤ n → ∀ ls, parse l = some ls → ls.all fitL = true ∧ enc ls = l
  | _, [], _, ls, h => by
    rw [parse_nil] at h; cases h; exact ⟨rfl, rfl⟩
  | 0, _ :: _, hn, _, _ => by simp at hn
  | n + 1, k :: t, hn, ls, h => by
    rw [parse_cons] at h
    split at h
    · cases h
    · rename_i hk
      cases hp : parse (t.drop k.toNat) with
      | none => rw [hp] at h; cases h
      | some ms =>
        rw [hp] at h
        cases h
        obtain ⟨h1, h2⟩ := parse_fit n (t.drop k.toNat) (by simp at hn ⊢; omega) ms hp
        have hlen : (t.take k.toNat).length = k.toNat := by simp; omega
        refine ⟨?_, ?_⟩
        · simp only [List.all_cons, h1, Bool.and_true, fitL, hlen, Bool.and_eq_true, decide_eq_true_eq]; omega
        · have : enc (t.take k.toNat :: ms) = UInt8.ofNat (t.take k.toNat).length :: (t.take k.toNat) ++ enc ms := by simp [enc]
          rw [this, h2, hlen]
          simp
theorem labels_fit {l : List UInt8} {ls : List (List UInt8)} (h : labels l = some ls) : ls.all fitL = true ∧ enc ls = l ∧ l.length ≤ 254 := by
  unfold labels at h
  split at h
  · cases h
  · have := parse_fit l.length l (Nat.le_refl _) ls h
    exact ⟨this.1, this.2, by omega⟩
theorem low_length (l : List UInt8) : (low l).length = l.length := by simp [low]
theorem enc_length : ∀ ls : List (List UInt8), (enc ls).length = (ls.map fun x => x.length + 1).sum
  | [] => rfl
  | x :: ls => by
    have := enc_length ls
    have e : enc (x :: ls) = UInt8.ofNat x.length :: x ++ enc ls := by simp [enc]
    rw [e]
    simp [this]; omega
theorem enc_low_length (ls : List (List UInt8)) : (enc (ls.map low)).length = (enc ls).length := by
  rw [enc_length, enc_length, List.map_map]
  congr 1
  apply List.map_congr_left
  intro x _
  simp [low_length]
theorem len_le_enc (ls : List (List UInt8)) : ls.length ≤ (enc ls).length := by
  rw [enc_length]
  induction ls with
  | nil => simp
  | cons x ls ih => simp; omega
theorem mem_enc_le {x : List UInt8} : ∀ {ls : List (List UInt8)}, x ∈ ls → x.length < (enc ls).length
  | y :: ls, h => by
    have e : enc (y :: ls) = UInt8.ofNat y.length :: y ++ enc ls := by simp [enc]
    rw [e]
    rcases List.mem_cons.1 h with rfl | h
    · simp; omega
    · have := mem_enc_le h
      simp; omega
def cmpB (a b : List UInt8) : Int := if Op.bytesLess a b = true then -1 else if Op.bytesLess a b = false ∧ a ≠ b then 1 else 0
def cmpL : List (List UInt8) → List (List UInt8) → Int
  | [], [] => 0
  | [], _ :: _ => -1
  | _ :: _, [] => 1
  | x :: xs, y :: ys => if cmpB x y ≠ 0 then cmpB x y else cmpL xs ys
/-- a name's labels, small, from its end -/
def turned (n : List UInt8) : Option (List (List UInt8)) := (labels (fold n)).map List.reverse
def cmpN (a b : List UInt8) : Int := match turned a, turned b with
  | none, none => cmpB a b
  | none, some _ => -1
  | some _, none => 1
  | some x, some y => cmpL x y
/-! data -/
def hostN (s : List UInt8) : Option (List UInt8) := if Lib.hasSuffix s [0] = true ∧ (labels (Lib.trimSuffix s [0])).isSome = true then some (Lib.trimSuffix s [0]) else none
def ahead (k : Int) : Int := if k = 33 then 6 else if k = 15 then 2 else if k = 2 ∨ k = 5 ∨ k = 12 then 0 else -1
def parseHost (k : Int) (d : List UInt8) : List UInt8 × Int :=
  if ahead k < 0 then ([], 5) else if (d.length : Int) < ahead k then ([], 2) else match hostN (d.drop (ahead k).toNat) with
    | none => ([], 2)
    | some n => (n, 0)
def walkF : Nat → List UInt8 → Nat
  | _, [] => 0
  | 0, _ :: _ => 0
  | f + 1, k :: t => if k.toNat = 0 then 0 else 1 + k.toNat + walkF f (t.drop k.toNat)
theorem walkF_more : ∀ (f : Nat) (l : List UInt8), l.length ≤ f → walkF f l = walkF l.length l
  | 0, [], _ => rfl
  | f + 1, [], _ => rfl
  | f + 1, k :: t, h => by
    simp only [List.length_cons] at h ⊢
    unfold walkF
    split
    · rfl
    · rw [walkF_more f (t.drop k.toNat) (by simp; omega), walkF_more t.length (t.drop k.toNat) (by simp)]
def walkN (l : List UInt8) : Nat := walkF l.length l
theorem walkN_nil : walkN [] = 0 := rfl
theorem walkN_cons (k : UInt8) (t : List UInt8) : walkN (k :: t) = if k.toNat = 0 then 0 else 1 + k.toNat + walkN (t.drop k.toNat) := by
  unfold walkN
  simp only [List.length_cons]
  rw [walkF]
  split
  · rfl
  · rw [walkF_more t.length (t.drop k.toNat) (by simp)]
def firstN (s : List UInt8) : List UInt8 × List UInt8 × Bool :=
  if s.length ≤ walkN s then ([], [], false) else ((hostN (s.take (walkN s + 1))).getD [], s.drop (walkN s + 1), (hostN (s.take (walkN s + 1))).isSome)
def textsF : Nat → List UInt8 → Bool
  | _, [] => true
  | 0, _ :: _ => true
  | f + 1, k :: t => if t.length < k.toNat then false else textsF f (t.drop k.toNat)
theorem textsF_more : ∀ (f : Nat) (l : List UInt8), l.length ≤ f → textsF f l = textsF l.length l
  | 0, [], _ => rfl
  | f + 1, [], _ => rfl
  | f + 1, k :: t, h => by
    simp only [List.length_cons] at h ⊢
    unfold textsF
    split
    · rfl
    · rw [textsF_more f (t.drop k.toNat) (by simp; omega), textsF_more t.length (t.drop k.toNat) (by simp)]
def textsN (l : List UInt8) : Bool := textsF l.length l
theorem textsN_cons (k : UInt8) (t : List UInt8) : textsN (k :: t) = if t.length < k.toNat then false else textsN (t.drop k.toNat) := by
  unfold textsN
  simp only [List.length_cons]
  rw [textsF]
  split
  · rfl
  · rw [textsF_more t.length (t.drop k.toNat) (by simp)]
def textsB (l : List UInt8) : Bool := !decide (l = []) && textsN l
/-- the i-th number of four bytes: of its first k -/
def numP (r : List UInt8) (i : Nat) : Nat → Nat
  | 0 => 0
  | k + 1 => numP r i k * 256 + (r.getD (4 * i + k) 0).toNat
theorem numP_lt (r : List UInt8) (i : Nat) : ∀ k, numP r i k < 256 ^ k
  | 0 => by simp [numP]
  | k + 1 => by
    have h1 := numP_lt r i k
    have h2 : (r.getD (4 * i + k) 0).toNat < 256 := UInt8.toNat_lt _
    rw [numP, Nat.pow_succ]
    omega
/-- four bytes of a number -/
def be4 (n : Nat) : List UInt8 := [UInt8.ofNat (n / 16777216), UInt8.ofNat (n / 65536), UInt8.ofNat (n / 256), UInt8.ofNat n]
structure SoaR where
  main : List UInt8
  mail : List UInt8
  serial : Int
  refresh : Int
  retry : Int
  expire : Int
  minimum : Int
  deriving DecidableEq, Inhabited
def SoaR.cells (s : SoaR) : List Value := [str s.main, str s.mail, .int .i64 s.serial, .int .i64 s.refresh, .int .i64 s.retry, .int .i64 s.expire, .int .i64 s.minimum]
def ttlOk (n : Int) : Bool := decide (0 ≤ n) && decide (n ≤ 2147483647)
def SoaR.ok (s : SoaR) : Bool := (labels s.main).isSome && (labels s.mail).isSome && decide (0 ≤ s.serial) && decide (s.serial ≤ 4294967295) && ttlOk s.refresh && ttlOk s.retry && ttlOk s.expire && ttlOk s.minimum
def SoaR.data (s : SoaR) : List UInt8 := s.main ++ [0] ++ (s.mail ++ [0]) ++ be4 s.serial.toNat ++ be4 s.refresh.toNat ++ be4 s.retry.toNat ++ be4 s.expire.toNat ++ be4 s.minimum.toNat
def soaOf (d : List UInt8) : SoaR :=
  let f := firstN d
  let g := firstN f.2.1
  { main := f.1, mail := g.1, serial := numP g.2.1 0 4, refresh := numP g.2.1 1 4, retry := numP g.2.1 2 4, expire := numP g.2.1 3 4, minimum := numP g.2.1 4 4 }
def parseSoa (d : List UInt8) : Option SoaR :=
  let f := firstN d
  let g := firstN f.2.1
  if f.2.2 = true ∧ g.2.2 = true ∧ g.2.1.length = 20 ∧ (soaOf d).ok = true then some (soaOf d) else none
def fits (k : Int) (d : List UInt8) : Bool :=
  if k = 1 then decide (d.length = 4) else if k = 28 then decide (d.length = 16) else if k = 16 then textsB d else if k = 6 then (parseSoa d).isSome else decide ((parseHost k d).2 ≠ 2)
structure Rec where
  name : List UInt8
  kind : Int
  ttl : Int
  data : List UInt8
  deriving DecidableEq, Inhabited
def checkR (r : Rec) : Int :=
  if r.kind = 41 ∨ r.kind = 251 ∨ r.kind = 252 ∨ r.kind = 255 then 1
  else if r.kind < 1 ∨ 65535 < r.kind ∨ r.ttl < 0 ∨ 2147483647 < r.ttl ∨ 4000 < r.data.length ∨ fits r.kind r.data = false then 1
  else if (labels r.name).isSome = true then 0 else 1
end Go.Proofs.X
