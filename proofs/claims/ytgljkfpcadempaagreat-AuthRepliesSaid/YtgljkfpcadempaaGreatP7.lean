/- Laws and walks that the proof of the statement is made of (part 7). -/
import Derived.Test.YtgljkfpcadempaaGreatP6
set_option linter.unusedSimpArgs false
set_option linter.unusedVariables false
namespace Go.Proofs.X
open Go.RowKit
set_option maxRecDepth 100000
theorem xY (d:Array (List UInt8)) (x:List UInt8):∀ m,x ∈ Lib.compactUpTo d m↔∃ j,j < m∧d[j]! = x
 | 0=>by simp [Lib.compactUpTo]
 | m + 1=>by
   have ih:=xY d x m
   rw [Lib.compactUpTo_succ,List.mem_append,ih]
   constructor
   ·rintro (⟨j,h1,h2⟩ | h)
    ·exact ⟨j,by omega,h2⟩
    ·split at h
     ·exact ⟨m,by omega,(List.mem_singleton.1 h).symm⟩
     ·cases h
   ·rintro ⟨j,h1,h2⟩
    by_cases hj:j < m
    ·exact .inl ⟨j,hj,h2⟩
    ·have:j=m:=by omega
     subst this
     by_cases hk:Lib.keeps d j=true
     ·right;rw [if_pos hk];simp [h2]
     ·left
      simp only [Lib.keeps,decide_eq_true_eq,not_or,ne_eq,Classical.not_not] at hk
      exact ⟨j - 1,by omega,by rw [← hk.2];exact h2⟩
theorem uU {a b:List UInt8} (h:a≤b) (hn:a≠b):a < b:=by
 rcases Std.lt_trichotomy a b with h1 | h1 | h1
 ·exact h1
 ·exact absurd h1 hn
 ·exact absurd h (List.not_le.2 h1)
theorem uV (d:Array (List UInt8)) (hd:∀ i j,i < j→j < d.size→d[i]! ≤ d[j]!):∀ m,m≤d.size→(Lib.compactUpTo d m).Pairwise (· < ·)
 | 0,_=>by simp [Lib.compactUpTo]
 | m + 1,hm=>by
   have ih:=uV d hd m (by omega)
   rw [Lib.compactUpTo_succ,List.pairwise_append]
   refine ⟨ih,by split <;> simp,fun x hx y hy => ?_⟩
   split at hy
   ·rename_i hk
    have hy:=List.mem_singleton.1 hy
    subst hy
    obtain ⟨j,hj,rfl⟩:=(xY d x m).1 hx
    simp only [Lib.keeps,decide_eq_true_eq] at hk
    have hne:d[m]! ≠ d[m - 1]! := hk.resolve_left (by omega)
    have h1:d[j]! ≤ d[m - 1]! := by
     by_cases e:j=m - 1
     ·rw [e];exact List.le_refl _
     ·exact hd j (m - 1) (by omega) (by omega)
    have h2:=uU (hd (m - 1) m (by omega) (by omega)) (Ne.symm hne)
    exact Std.lt_of_le_of_lt h1 h2
   ·cases hy
def UN (l:List (List UInt8)):List (List UInt8):=Lib.compact (l.mergeSort fun x y=>decide (x≤y))
theorem OT {l:List (List UInt8)} {x:List UInt8}:x ∈ UN l↔x ∈ l:=by
 unfold UN Lib.compact
 rw [xY]
 rw [← List.mem_mergeSort (le:=fun x y:List UInt8=>decide (x≤y)) (l:=l)]
 generalize l.mergeSort (fun x y=>decide (x≤y))=s
 constructor
 ·rintro ⟨j,hj,h⟩
  rw [getElem!_pos s.toArray j (by simpa using hj)] at h
  rw [← h]
  simp
 ·intro h
  obtain ⟨j,hj⟩:=List.mem_iff_getElem?.1 h
  obtain ⟨hj1,hj2⟩:=List.getElem?_eq_some_iff.1 hj
  exact ⟨j,hj1,by rw [getElem!_pos s.toArray j (by simpa using hj1)];simpa using hj2⟩
theorem GY (l:List (List UInt8)):(UN l).Pairwise (· < ·):=by
 unfold UN Lib.compact
 have hs:=List.pairwise_mergeSort (le:=fun x y:List UInt8=>decide (x≤y)) (fun a b c h1 h2=>by simp at *;exact Std.le_trans h1 h2) (fun a b=>by simp;exact Std.le_total) l
 generalize l.mergeSort (fun x y=>decide (x≤y))=s at hs ⊢
 refine uV _ (fun i j hij hj => ?_) _ (by simp)
 have hj':j < s.length:=by simpa using hj
 rw [getElem!_pos s.toArray j hj,getElem!_pos s.toArray i (by simp;omega)]
 have:=List.pairwise_iff_getElem.1 hs i j (by omega) hj' hij
 simpa using this
theorem JR:∀ {a b:List (List UInt8)},a.Pairwise (· < ·)→b.Pairwise (· < ·)→(∀ x,x ∈ a↔x ∈ b)→a=b:=by
 intro a b ha hb h
 have na:a.Nodup:=ha.imp (fun h e=>by subst e;exact Std.lt_irrefl h)
 have nb:b.Nodup:=hb.imp (fun h e=>by subst e;exact Std.lt_irrefl h)
 have hp:a.Perm b:=(List.perm_ext_iff_of_nodup na nb).2 h
 exact hp.eq_of_pairwise (le:=(· < ·)) (fun x y _ _ h1 h2=>absurd (Std.lt_trans h1 h2) (Std.lt_irrefl)) ha hb
def RZ (gs:List RSet) (r:Rec):Prop:=∃ s ∈ gs,bS s r=true∧s.ttl≤r.ttl∧r.data ∈ s.data
theorem uW {s:RSet} {r q:Rec}:bS (jQ s r) q=bS s q:=rfl
theorem qY:∀ {gs:List RSet} {r:Rec},RZ (eD gs r) r
 | [],r=>⟨⟨fold r.name,r.kind,r.ttl,[r.data]⟩,by simp [eD],by simp [bS],Int.le_refl _,by simp⟩
 | a :: l,r=>by
   by_cases h:bS a r=true
   ·exact ⟨jQ a r,by simp [eD,h],by rw [uW];exact h,Int.min_le_right _ _,by simp [jQ]⟩
   ·obtain ⟨s,h1,h2⟩:=qY (gs:=l) (r:=r)
    exact ⟨s,by simp [eD,h,h1],h2⟩
theorem AR:∀ {gs:List RSet} {r q:Rec},RZ gs q→RZ (eD gs r) q
 | [],r,q,⟨s,h,_⟩=>by simp at h
 | a :: l,r,q,⟨s,h1,h2,h3,h4⟩=>by
   by_cases h:bS a r=true
   ·rcases List.mem_cons.1 h1 with rfl | h1
    ·exact ⟨jQ s r,by simp [eD,h],by rw [uW];exact h2,Int.le_trans (Int.min_le_left _ _) h3,by simp [jQ,h4]⟩
    ·exact ⟨s,by simp [eD,h,h1],h2,h3,h4⟩
   ·rcases List.mem_cons.1 h1 with rfl | h1
    ·exact ⟨s,by simp [eD,h],h2,h3,h4⟩
    ·obtain ⟨t,g1,g2⟩:=AR (gs:=l) (r:=r) ⟨s,h1,h2,h3,h4⟩
     exact ⟨t,by simp [eD,h,g1],g2⟩
theorem xZ (l:List Rec):∀ gs,(∀ q,RZ gs q→RZ (l.foldl eD gs) q)∧∀ q ∈ l,RZ (l.foldl eD gs) q:=by
 induction l with
 | nil=>intro gs;exact ⟨fun _ h=>h,by simp⟩
 | cons r l ih =>
  intro gs
  obtain ⟨h1,h2⟩:=ih (eD gs r)
  refine ⟨fun q h=>h1 q (AR h),fun q hq => ?_⟩
  rcases List.mem_cons.1 hq with rfl | hq
  ·exact h1 q qY
  ·exact h2 q hq
theorem yA {l:List Rec} {q:Rec} (h:q ∈ l):RZ (dC l) q:=(xZ l []).2 q h
theorem AS:∀ {ls:List (List UInt8)},ls.all iI=true→gT (enc ls)=some ls
 | [],_=>rfl
 | x :: ls,h=>by
   simp only [List.all_cons,Bool.and_eq_true] at h
   obtain ⟨hx,hl⟩:=h
   have e:enc (x :: ls)=UInt8.ofNat x.length :: (x ++ enc ls):=by simp [enc]
   simp only [iI,Bool.and_eq_true,decide_eq_true_eq] at hx
   have hn:(UInt8.ofNat x.length).toNat=x.length:=by rw [UInt8.toNat_ofNat'];exact Nat.mod_eq_of_lt (by omega)
   rw [e,lD,hn,if_neg (by rw [List.length_append];omega),List.drop_left,List.take_left,AS hl]
   rfl
theorem iC {ls:List (List UInt8)} (h:ls.all iI=true) (hl:(enc ls).length≤254):aV (enc ls)=some ls:=by
 rw [aV,if_neg (by omega),AS h]
theorem JS (b:UInt8):tP (tP b)=tP b:=by
 unfold tP
 by_cases h:65≤b.toNat∧b.toNat≤90
 ·rw [if_pos h,if_neg]
  have:(b + 32).toNat=b.toNat + 32:=by rw [UInt8.toNat_add];have:(32:UInt8).toNat=32:=rfl;rw [this];omega
  omega
 ·rw [if_neg h,if_neg h]
theorem LY (l:List UInt8):low (low l)=low l:=by simp [low,JS]
theorem OU {ls:List (List UInt8)} (h:ls.all iI=true):(ls.map low).all iI=true:=by
 simp only [List.all_map,List.all_eq_true] at *
 intro x hx
 have:=h x hx
 simpa [iI,wZ] using this
theorem rO {n:List UInt8} {ls:List (List UInt8)} (h:aV n=some ls):fold n=enc (ls.map low)∧aV (fold n)=some (ls.map low)∧fold (fold n)=fold n:=by
 obtain ⟨h1,h2,h3⟩:=dG h
 have hf:=OU h1
 have hl:(enc (ls.map low)).length≤254:=by rw [xB,h2];exact h3
 have e1:fold n=enc (ls.map low):=by
  unfold fold
  rw [h]
  simp only [jG]
  rw [if_pos ⟨hf,hl⟩]
  rfl
 have e2:aV (fold n)=some (ls.map low):=by rw [e1];exact iC hf hl
 refine ⟨e1,e2,?_⟩
 have hmm:(ls.map low).map low=ls.map low:=by simp [List.map_map,Function.comp_def,LY]
 show (match aV (fold n) with | none=>fold n | some ls=>(jG (ls.map low)).getD [])=fold n
 rw [e2]
 simp only [hmm,jG]
 rw [if_pos ⟨hf,hl⟩,e1]
 rfl
def Small (n:List UInt8):Prop:=∃ m ls,aV m=some ls∧n=fold m
theorem Small.turned {n:List UInt8} (h:Small n):∃ ls,dB n=some ls.reverse∧n=enc ls:=by
 obtain ⟨m,ls,h1,rfl⟩:=h
 obtain ⟨e1,e2,e3⟩:=rO h1
 exact ⟨ls.map low,by rw [X.dB,e3,e2];rfl,e1⟩
theorem AT {a b:List UInt8} (h:jH a b=0):a=b:=by
 rw [lE] at h
 split at h
 ·omega
 ·split at h
  ·assumption
  ·omega
theorem AU:∀ {a b:List (List UInt8)},gP a b=0→a=b
 | [],[],_=>rfl
 | [],_ :: _,h=>by simp [gP] at h
 | _ :: _,[],h=>by simp [gP] at h
 | x :: xs,y :: ys,h=>by
   simp only [gP] at h
   split at h
   ·rename_i hn;exact absurd h hn
   ·rename_i hn
    have hz:jH x y=0:=by omega
    rw [AT hz,AU h]
theorem JT {a b:List UInt8} (ha:Small a) (hb:Small b) (h:gQ a b=0):a=b:=by
 obtain ⟨x,hx,rfl⟩:=ha.turned
 obtain ⟨y,hy,rfl⟩:=hb.turned
 unfold gQ at h
 rw [hx,hy] at h
 have:=AU h
 rw [List.reverse_inj.1 this]
theorem lV {a b:List UInt8} {j k:Int} (ha:Small a) (hb:Small b) (h:eJ a b j k=0):a=b∧j=k:=by
 unfold eJ at h
 split at h
 ·rename_i hn;exact absurd h hn
 ·rename_i hn
  refine ⟨JT ha hb (by omega),?_⟩
  unfold GW at h
  split at h
  ·omega
  ·split at h <;> omega
theorem sR {l:List Rec} (h:l.all AP=true) {s:RSet} (hs:s ∈ eV l):Small s.name:=by
 obtain ⟨t,ht,rfl⟩:=List.mem_map.1 hs
 obtain ⟨r,hr,e1,_⟩:=AQ ht
 have hrc:bC r=0:=by simpa [AP] using List.all_eq_true.1 h r hr
 obtain ⟨hlab,_⟩:=kF (n:=[]) hrc
 obtain ⟨ls,hls⟩:=Option.isSome_iff_exists.1 hlab
 exact ⟨r.name,ls,hls,e1⟩
theorem sS (l:List Rec):(eV l).Pairwise fun s t=>¬ (s.name=t.name∧s.kind=t.kind):=List.pairwise_map.2 (gV.1 (jZ l))
def WI (s t:RSet):Prop:=0≤eJ t.name s.name t.kind s.kind
theorem AV {l:List RSet} (h:rN l):l.Pairwise WI:=by
 rw [List.pairwise_iff_getElem]
 intro i j hi hj hij
 exact h i j _ _ hij (List.getElem?_eq_getElem hi) (List.getElem?_eq_getElem hj)
theorem GZ {l:List Rec} (hok:l.all AP=true) {a b:List RSet} (ha:a.Perm (eV l)) (hb:b.Perm (eV l)) (sa:rN a) (sb:rN b):a=b:=by
 have key:∀ s t,s ∈ a→t ∈ b→WI s t→WI t s→s=t:=by
  intro s t hs ht h1 h2
  have hs':=ha.mem_iff.1 hs
  have ht':=hb.mem_iff.1 ht
  have an:eJ t.name s.name t.kind s.kind=- eJ s.name t.name s.kind t.kind:=lG.anti (s.name,s.kind) (t.name,t.kind)
  have h1':0≤eJ t.name s.name t.kind s.kind:=h1
  have h2':0≤eJ s.name t.name s.kind t.kind:=h2
  clear h1 h2
  have hz:eJ s.name t.name s.kind t.kind=0:=by
   generalize eJ s.name t.name s.kind t.kind=p at *
   generalize eJ t.name s.name t.kind s.kind=q at *
   omega
  obtain ⟨e1,e2⟩:=lV (sR hok hs') (sR hok ht') hz
  by_cases e:s=t
  ·exact e
  ·exfalso
   obtain ⟨i,hi⟩:=List.mem_iff_getElem?.1 hs'
   obtain ⟨j,hj⟩:=List.mem_iff_getElem?.1 ht'
   have hij:i≠j:=by
    rintro rfl
    rw [hi] at hj
    exact e (Option.some.inj hj)
   exact gV.2 (sS l) i j s t hi hj hij ⟨e1,e2⟩
 exact List.Perm.eq_of_pairwise key (AV sa) (AV sb) (ha.trans hb.symm)
theorem fN (n:List UInt8):dB n=(aV n).map fun ls=>(ls.map low).reverse:=by
 cases h:aV n with
 | none=>simp [dB,fold,h]
 | some ls=>simp [dB,(rO h).2.1]
set_option maxHeartbeats 6000000 in
theorem kG (nm:List UInt8) (w:World):Calls Tryz.prog 36 #[aI nm] w (bM w (aI (fold nm))):=by
 go_enter Tryz.func36,Tryz.ntmps36
 refine_lift dR fun _ _ => ?_
 refine aK (enters_of Tryz.func85 rfl rfl) rfl rfl (mF nm _) ?_
 intro v w1 x1 hv
 cases hl:aV nm with
 | none =>
  rw [hl] at hv
  subst hv
  refine_lift bR ?_
  go_ret
  exact ⟨by simp [fold,hl],x1⟩
 | some ls =>
  rw [hl] at hv
  obtain ⟨s,rfl,hs⟩:=hv
  have hfit:=dG hl
  have hlen:=fH ls
  rw [hfit.2.1] at hlen
  refine_lift dR fun _ _ => ?_
  go_loopw [5] (fun i wr=>∃ k:Nat,k≤ls.length∧i=.int .i64 k∧Ext w wr∧Own w.heap.size 1 9 wr s (aP (rI low ls k))) (fun i _=>ls.length - (intOf i).toNat)
  case atStart=>exact ⟨0,Nat.zero_le _,rfl,x1,by simpa [AG] using hs⟩
  case round =>
   obtain ⟨k,hk,rfl,hx,ho⟩:=hrel
   have hsl:=ho.sl
   have hlen2:(aP (rI low ls k)).length=ls.length:=by rw [bA,uQ]
   by_cases hlt:k < ls.length
   ·have hp:=hsl.elem (iW _ _ _ (DU low ls k hlt))
    have h254:ls[k].length≤254:=by have:=iA (List.getElem_mem hlt);rw [hfit.2.1] at this;omega
    refine_lift oQ ?_;intro _ _ _ _
    refine aD (enters_of Tryz.func86 rfl rfl) rfl rfl (pF _ _ (by omega)) ?_;intro w2 x2;refine aA ?_
    have hsl:=hsl.ext x2
    have ho:=ho.ext x2
    have hx:=hx.trans x2
    clear hp
    refine_lift bR ?_
    refine fE (c:=aI (low ls[k])) (i:=k) rfl rfl rfl ho (by omega) (by decide +kernel) rfl ?_
    intro w3 o3 m3
    have hx3:=ho.mvx m3 hx (Nat.le_refl _)
    rw [xN,← AH low ls k hlt] at o3
    clear hx ho hsl
    refine_lift bR ?_
    exact ⟨⟨k + 1,by omega,by go_num,hx3,o3⟩,by simp [intOf];omega⟩
   ·have:k=ls.length:=by omega
    subst this
    rw [DT] at hsl hlen2
    refine_lift zO fun _ _ _ => ?_
    refine aD (enters_of Tryz.func87 rfl rfl) rfl rfl (CD _ _ _ hsl) ?_;intro w2 x2;refine aA ?_
    cases hj:jG (ls.map low) with
    | none =>
     refine_lift bR ?_
     go_ret
     exact ⟨by simp [fold,hl,hj],hx.trans x2⟩
    | some n =>
     refine_lift bR ?_
     go_ret
     exact ⟨by simp [fold,hl,hj],hx.trans x2⟩
def bQ (n t:List UInt8):Bool:=match dB n with
 | none=>false
 | some a=>match dB t with
   | none=>false
   | some b=>decide (a.take b.length=b)
def kH (ls:List (List UInt8)):List (List UInt8):=(ls.map low).reverse
theorem eY (ls:List (List UInt8)):(kH ls).length=ls.length:=by simp [kH]
theorem sT {ls:List (List UInt8)} {k:Nat} (h:k < ls.length):(kH ls)[k]'(by rw [eY];exact h)=low (ls[ls.length - 1 - k]'(by omega)):=by
 simp [kH]
theorem wD {w:World} {v:Value} {ls:List (List UInt8)} (h:Sl 1 w v (aP ls)) {k:Nat} (hk:k < ls.length):Pts w (dN v ((((aP ls).length:Int) - 1 - k).toNat * 1)) [aI (ls[ls.length - 1 - k]'(by omega))]:=by
 have:=h.elem (i:=ls.length - 1 - k) (e:=[aI (ls[ls.length - 1 - k]'(by omega))]) (fM (by omega))
 rwa [show (((aP ls).length:Int) - 1 - k).toNat=ls.length - 1 - k by rw [bA];omega]
theorem EG {α:Type} {a b:List α} {k:Nat} (h:a.take b.length=b) (hk:k < b.length) (ha:k < a.length):a[k]=b[k]:=by
 have h1:(a.take b.length)[k]? = b[k]? := by rw [h]
 rw [List.getElem?_take,if_pos hk,List.getElem?_eq_getElem ha,List.getElem?_eq_getElem hk] at h1
 exact Option.some.inj h1
set_option maxHeartbeats 12000000 in
theorem mS (a b:List UInt8) (w:World):Calls Tryz.prog 52 #[aI a,aI b] w (bM w (.bool (bQ a b))):=by
 go_enter Tryz.func52,Tryz.ntmps52
 refine_lift dR fun _ _ => ?_
 refine aK (enters_of Tryz.func85 rfl rfl) rfl rfl (mF a _) ?_
 intro v w1 x1 hv
 cases hl:aV a with
 | none =>
  rw [hl] at hv
  subst hv
  refine_lift dR fun _ _ => ?_
  refine aK (enters_of Tryz.func85 rfl rfl) rfl rfl (mF b _) ?_
  intro v2 w2 x2 hv2
  have hu:bQ a b=false:=by simp [bQ,fN,hl]
  cases hm:aV b with
  | none =>
   rw [hm] at hv2
   subst hv2
   refine_lift bR ?_
   go_ret
   exact ⟨by rw [hu];rfl,x1.trans x2⟩
  | some ms =>
   rw [hm] at hv2
   obtain ⟨s2,rfl,o2⟩:=hv2
   refine_lift bR ?_
   go_ret
   exact ⟨by rw [hu];rfl,x1.trans x2⟩
 | some ls =>
  rw [hl] at hv
  obtain ⟨s1,rfl,o1⟩:=hv
  refine_lift dR fun _ _ => ?_
  refine aK (enters_of Tryz.func85 rfl rfl) rfl rfl (mF b _) ?_
  intro v2 w2 x2 hv2
  cases hm:aV b with
  | none =>
   have hu:bQ a b=false:=by simp [bQ,fN,hm,hl]
   rw [hm] at hv2
   subst hv2
   refine_lift bR ?_
   go_ret
   exact ⟨by rw [hu];rfl,x1.trans x2⟩
  | some ms =>
   rw [hm] at hv2
   obtain ⟨s2,rfl,o2⟩:=hv2
   have hu:bQ a b=true↔(kH ls).take ms.length=kH ms:=by
    simp only [bQ,fN,hm,hl,Option.map_some,decide_eq_true_eq]
    rw [show ((ms.map low).reverse).length=ms.length by simp];rfl
   have hA:=o1.sl.ext x2
   have hB:=o2.sl
   have tl:=bA ls
   have tm:=bA ms
   have fl:=dG hl
   have fm:=dG hm
   have ll:=fH ls
   have lm:=fH ms
   rw [fl.2.1] at ll
   rw [fm.2.1] at lm
   by_cases hlt:ls.length < ms.length
   ·have hno:(kH ls).take ms.length≠kH ms:=fun h=>by
     have:=congrArg List.length h
     simp [eY] at this;omega
    refine_lift jP fun _ => ?_
    go_ret
    have hno':bQ a b=false:=by cases h:bQ a b with | false=>rfl | true=>exact absurd (hu.1 h) hno
    exact ⟨by rw [hno'];rfl,x1.trans x2⟩
   ·have x12:=x1.trans x2
    refine_lift zO fun _ _ _ => ?_
    go_loopw [9] (fun i wr=>∃ k:Nat,k≤ms.length∧i=.int .i64 k∧Ext w2 wr∧(kH ls).take k=(kH ms).take k) (fun i _=>ms.length - (intOf i).toNat)
    case atStart=>exact ⟨0,Nat.zero_le _,rfl,Ext.refl _,rfl⟩
    case round =>
     obtain ⟨k,hk,rfl,hx,hall⟩:=hrel
     by_cases hk2:k < ms.length
     ·have hA:=hA.ext hx
      have hB:=hB.ext hx
      have hkl:k < ls.length:=by omega
      have hpA:=wD hA hkl
      have hpB:=wD hB hk2
      have lA:(ls[ls.length - 1 - k]'(by omega)).length≤254:=by have:=iA (List.getElem_mem (l:=ls) (n:=ls.length - 1 - k) (by omega));rw [fl.2.1] at this;omega
      have lB:(ms[ms.length - 1 - k]'(by omega)).length≤254:=by have:=iA (List.getElem_mem (l:=ms) (n:=ms.length - 1 - k) (by omega));rw [fm.2.1] at this;omega
      have gA:=sT hkl
      have gB:=sT hk2
      generalize hx1:ls[ls.length - 1 - k]'(by omega)=x at *
      generalize hy1:ms[ms.length - 1 - k]'(by omega)=y at *
      refine_lift xG ?_;intro _ _ _ _ _ _
      refine cB (by decide +kernel) (by decide +kernel) ?_
      refine_lift jN ?_
      refine dX (enters_of Tryz.func86 rfl rfl) rfl rfl (fun w' _=>pF x w' (by omega)) ?_
      refine aA ?_
      refine_lift jN ?_
      refine dX (enters_of Tryz.func86 rfl rfl) rfl rfl (fun w' _=>pF y w' (by omega)) ?_
      refine aA ?_
      refine_lift jN ?_
      intro w3 x3
      refine_lift xD (fun _ => ?_) (fun _ => ?_)
      ·have hne:=‹(!decide (low x=low y))=true›
       have hno:bQ a b=false:=by
        cases h:bQ a b with
        | false=>rfl
        | true =>
         have h2:=hu.1 h
         rw [← eY ms] at h2
         have:=EG h2 (by rw [eY];exact hk2) (by rw [eY];exact hkl)
         rw [gA,gB] at this
         simp [this] at hne
       go_ret
       exact ⟨by rw [hno];rfl,x12.trans (hx.trans x3)⟩
      ·have heq:=‹(!decide (low x=low y))=false›
       refine ⟨⟨k + 1,by omega,by go_num,hx.trans x3,?_⟩,by simp [intOf];omega⟩
       refine iJ hall (by rw [eY];exact hkl) (by rw [eY];exact hk2) ?_
       rw [gA,gB]
       simpa using heq
     ·have:k=ms.length:=by omega
      subst this
      have hyes:bQ a b=true:=hu.2 (by rw [hall,← eY,List.take_length])
      refine_lift jP fun _ => ?_
      go_ret
      exact ⟨by rw [hyes];rfl,x12.trans hx⟩
theorem tT:∀ (k:Nat) (a b:List (List UInt8)),a.take k=b.take k→k≤a.length→k≤b.length→gP a b=gP (a.drop k) (b.drop k)
 | 0,a,b,_,_,_=>by simp
 | k + 1,x :: a,y :: b,h,h1,h2=>by
   simp only [List.take_succ_cons,List.cons.injEq] at h
   obtain ⟨rfl,h⟩:=h
   have e:jH x x=0:=gU.refl x
   rw [gP,e]
   simp only [ne_eq,not_true_eq_false,if_false,List.drop_succ_cons]
   exact tT k a b h (by simpa using h1) (by simpa using h2)
 | k + 1,[],_,_,h1,_=>by simp at h1
 | k + 1,_ :: _,[],_,_,h2=>by simp at h2
theorem OV {k:Nat} {a b:List (List UInt8)} (h:a.take k=b.take k) (ha:k < a.length) (hb:k < b.length) (hne:jH a[k] b[k]≠0):gP a b=jH a[k] b[k]:=by
 rw [tT k a b h (by omega) (by omega),List.drop_eq_getElem_cons ha,List.drop_eq_getElem_cons hb,gP,if_pos hne]
theorem sU {k:Nat} {a b:List (List UInt8)} (h:a.take k=b.take k) (h1:k≤a.length) (h2:k≤b.length) (he:k=a.length∨k=b.length):gP a b=if a.length < b.length then -1 else if b.length < a.length then 1 else 0:=by
 rw [tT k a b h h1 h2]
 rcases he with rfl | rfl
 ·rw [List.drop_length]
  cases hd:b.drop a.length with
  | nil =>
   have:=List.drop_eq_nil_iff.1 hd
   rw [gP,if_neg (by omega),if_neg (by omega)]
  | cons y l =>
   have:a.length < b.length:=by
    rcases Nat.lt_or_ge a.length b.length with h | h
    ·exact h
    ·rw [List.drop_eq_nil_iff.2 h] at hd;cases hd
   rw [gP,if_pos this]
 ·rw [List.drop_length]
  cases hd:a.drop b.length with
  | nil =>
   have:=List.drop_eq_nil_iff.1 hd
   rw [gP,if_neg (by omega),if_neg (by omega)]
  | cons y l =>
   have:b.length < a.length:=by
    rcases Nat.lt_or_ge b.length a.length with h | h
    ·exact h
    ·rw [List.drop_eq_nil_iff.2 h] at hd;cases hd
   rw [gP,if_neg (by omega),if_pos this]
set_option maxHeartbeats 24000000 in
theorem HA (a b:List UInt8) (w:World):Calls Tryz.prog 216 #[aI a,aI b] w (bM w (.int .i64 (gQ a b))):=by
 go_enter Tryz.func216,Tryz.ntmps216
 refine_lift dR fun _ _ => ?_
 refine aK (enters_of Tryz.func85 rfl rfl) rfl rfl (mF a _) ?_
 intro v w1 x1 hv
 cases hl:aV a with
 | none =>
  rw [hl] at hv
  subst hv
  refine_lift dR fun _ _ => ?_
  refine aK (enters_of Tryz.func85 rfl rfl) rfl rfl (mF b _) ?_
  intro v2 w2 x2 hv2
  cases hm:aV b with
  | none =>
   rw [hm] at hv2
   subst hv2
   refine_lift oQ fun _ _ _ _ => ?_
   refine aD (enters_of Tryz.func232 rfl rfl) rfl rfl (EB a b _) ?_;intro w3 x3;refine aA ?_
   refine_lift bR ?_
   go_ret
   exact ⟨by simp [gQ,fN,hl,hm],(x1.trans x2).trans x3⟩
  | some ms =>
   rw [hm] at hv2
   obtain ⟨s2,rfl,o2⟩:=hv2
   refine_lift bR ?_
   go_ret
   exact ⟨by simp [gQ,fN,hl,hm],x1.trans x2⟩
 | some ls =>
  rw [hl] at hv
  obtain ⟨s1,rfl,o1⟩:=hv
  refine_lift dR fun _ _ => ?_
  refine aK (enters_of Tryz.func85 rfl rfl) rfl rfl (mF b _) ?_
  intro v2 w2 x2 hv2
  cases hm:aV b with
  | none =>
   rw [hm] at hv2
   subst hv2
   refine_lift bR ?_
   go_ret
   exact ⟨by simp [gQ,fN,hl,hm],x1.trans x2⟩
  | some ms =>
   rw [hm] at hv2
   obtain ⟨s2,rfl,o2⟩:=hv2
   have hu:gQ a b=gP (kH ls) (kH ms):=by simp [gQ,fN,hm,hl,kH]
   have hA:=o1.sl.ext x2
   have hB:=o2.sl
   have tl:=bA ls
   have tm:=bA ms
   have fl:=dG hl
   have fm:=dG hm
   have ll:=fH ls
   have lm:=fH ms
   rw [fl.2.1] at ll
   rw [fm.2.1] at lm
   have x12:=x1.trans x2
   have rl:=eY ls
   have rm:=eY ms
   refine_lift dR fun _ _ => ?_
   go_loopw [9,10] (fun i _ wr=>∃ k:Nat,k≤ls.length∧k≤ms.length∧i=.int .i64 k∧Ext w2 wr∧(kH ls).take k=(kH ms).take k) (fun i _ _=>ms.length - (intOf i).toNat)
   case atStart=>exact ⟨0,Nat.zero_le _,Nat.zero_le _,rfl,Ext.refl _,rfl⟩
   case round =>
    obtain ⟨k,hk,hk2,rfl,hx,hall⟩:=hrel
    have hA:=hA.ext hx
    have hB:=hB.ext hx
    by_cases hin:k < ls.length∧k < ms.length
    ·obtain ⟨hkl,hkm⟩:=hin
     have hpA:=wD hA hkl
     have hpB:=wD hB hkm
     have lA:(ls[ls.length - 1 - k]'(by omega)).length≤254:=by have:=iA (List.getElem_mem (l:=ls) (n:=ls.length - 1 - k) (by omega));rw [fl.2.1] at this;omega
     have lB:(ms[ms.length - 1 - k]'(by omega)).length≤254:=by have:=iA (List.getElem_mem (l:=ms) (n:=ms.length - 1 - k) (by omega));rw [fm.2.1] at this;omega
     have gA:=sT hkl
     have gB:=sT hkm
     generalize hx1:ls[ls.length - 1 - k]'(by omega)=x at *
     generalize hy1:ms[ms.length - 1 - k]'(by omega)=y at *
     refine_lift XI ?_;intro _ hc _ _ _ _ _
     refine cB (by decide +kernel) (by decide +kernel) ?_
     refine_lift jN ?_
     refine dX (enters_of Tryz.func86 rfl rfl) rfl rfl (fun w' _=>pF x w' (by omega)) ?_
     refine aA ?_
     refine_lift jN ?_
     refine dX (enters_of Tryz.func86 rfl rfl) rfl rfl (fun w' _=>pF y w' (by omega)) ?_
     refine aA ?_
     refine_lift jN ?_
     refine dX (enters_of Tryz.func232 rfl rfl) rfl rfl (fun w' _=>EB (low x) (low y) w') ?_
     refine aA ?_
     refine_lift jN ?_
     intro w3 x3
     refine_lift xD (fun _ => ?_) (fun _ => ?_)
     ·have hne:=‹(!decide (jH (low x) (low y)=0))=true›
      go_ret
      refine ⟨?_,x12.trans (hx.trans x3)⟩
      rw [hu,OV hall (by omega) (by omega) (by rw [gA,gB];simpa using hne),gA,gB]
      rfl
     ·have heq:=‹(!decide (jH (low x) (low y)=0))=false›
      refine ⟨⟨k + 1,by omega,by omega,by go_num,hx.trans x3,?_⟩,by simp [intOf];omega⟩
      refine iJ hall (by omega) (by omega) ?_
      rw [gA,gB]
      exact AT (by simpa using heq)
    ·have he:gQ a b=if ls.length < ms.length then -1 else if ms.length < ls.length then 1 else 0:=by
      rw [hu,sU hall (by omega) (by omega) (by omega),rl,rm]
     refine_lift TX (fun hc _ _ _ => ?_) (fun hc _ _ => ?_) (fun hc _ _ _ _ _ => ?_)
     all_goals
      go_ret
      refine ⟨?_,x12.trans hx⟩
      rw [he]
      first
       | (rw [if_pos (by omega)];rfl)
       | (rw [if_neg (by omega),if_pos (by omega)];rfl)
       | (rw [if_neg (by omega),if_neg (by omega)];rfl)
def nQ (o:List UInt8) (l:List RSet) (n:List UInt8):Bool:=bQ n o && l.any fun s=>bQ s.name n
theorem iL {α:Type} {p:α→Bool} {l:List α} {k:Nat} (hk:k < l.length) (h:(l.take k).any p=false) (hp:p l[k]=false):(l.take (k + 1)).any p=false:=by
 rw [List.take_succ_eq_append_getElem hk,List.any_append,h];simp [hp]
theorem CG {α:Type} {p:α→Bool} {l:List α} {k:Nat} (hk:k < l.length) (hp:p l[k]=true):l.any p=true :=
 List.any_eq_true.mpr ⟨_,List.getElem_mem hk,hp⟩
theorem HB (l:List UInt8) (a:UInt8):Lib.hasSuffix (l ++ [a]) [0]=decide (a=0):=by
 have h:Lib.hasSuffix (l ++ [a]) [0]=true↔a=0:=by
  unfold Lib.hasSuffix
  rw [List.isSuffixOf_iff_suffix]
  constructor
  ·rintro ⟨t,ht⟩
   have:=congrArg List.reverse ht
   simp at this
   exact this.1.symm
  ·rintro rfl;exact ⟨l,rfl⟩
 by_cases ha:a=0
 ·rw [h.2 ha,decide_eq_true ha]
 ·cases hh:Lib.hasSuffix (l ++ [a]) [0] with
  | true=>exact absurd (h.1 hh) ha
  | false=>rw [decide_eq_false ha]
theorem AW:eX []=none:=by simp [eX,Lib.hasSuffix]
theorem sV (l:List UInt8) (a:UInt8):eX (l ++ [a])=if a=0∧(aV l).isSome=true then some l else none:=by
 have hs:=HB l a
 by_cases ha:a=0
 ·subst ha
  have ht:Lib.trimSuffix (l ++ [0]) [0]=l:=by simp [Lib.trimSuffix,hs]
  simp [eX,hs,ht]
 ·simp [eX,hs,ha]
theorem JU {s n:List UInt8} (h:eX s=some n):n=s.take (s.length - 1):=by
 rcases List.eq_nil_or_concat s with rfl | ⟨l,a,rfl⟩
 ·rw [AW] at h;cases h
 ·rw [List.concat_eq_append,sV] at h
  split at h
  ·cases h;simp
  ·cases h
set_option maxHeartbeats 1000000 in
theorem tU (s:List UInt8) (w:World) (hl:s.length≤4611686018427387904):Calls Tryz.prog 141 #[aI s] w (bM w (.bool (eX s).isSome)):=by
 rcases List.eq_nil_or_concat s with rfl | ⟨l,a,rfl⟩
 ·rw [AW]
  go_enter Tryz.func141,Tryz.ntmps141
  refine_lift bR ?_
  go_ret
  exact ⟨rfl,Ext.refl _⟩
 ·rw [List.concat_eq_append] at *
  have hlen:(l ++ [a]).length=l.length + 1:=by simp
  have hn:(((l ++ [a]).length:Int) - 1).toNat=l.length:=by rw [hlen];omega
  have e1:(l ++ [a]).getD (((l ++ [a]).length:Int) - 1).toNat 0=a:=by rw [hn];simp
  have e2:(l ++ [a]).take (((l ++ [a]).length:Int) - 1).toNat=l:=by rw [hn];simp
  have hh:(eX (l ++ [a])).isSome=(decide (a=0) && (aV l).isSome):=by
   rw [sV];by_cases h1:a=0 <;> cases h2:(aV l).isSome <;> simp [h1]
  generalize l ++ [a]=s at *
  rw [hh]
  go_enter Tryz.func141,Tryz.ntmps141
  refine_lift DZ (fun hc hc => ?_) (fun hc => ?_) (fun _ _ hc hc => ?_)
  ·have hz:=‹((s.getD ((s.length:Int) - 1).toNat 0).toNat:Int)=0›
   rw [e1] at hz
   have ha:a=0:=by apply UInt8.toNat_inj.1;simpa using hz
   rw [e2]
   refine aD (enters_of Tryz.func75 rfl rfl) rfl rfl (pE l _) ?_;intro w1 x1;refine aA ?_
   cases hls:(aV l).isSome with
   | true =>
    refine_lift bR ?_
    go_ret
    exact ⟨by simp [ha,hls],x1⟩
   | false =>
    refine_lift bR ?_
    go_ret
    exact ⟨by simp [ha,hls],x1⟩
  ·have hz:=‹¬((s.getD ((s.length:Int) - 1).toNat 0).toNat:Int)=0›
   rw [e1] at hz
   have ha:¬ a=0:=by rintro rfl;simp at hz
   go_ret
   exact ⟨by simp [ha],Ext.refl _⟩
  ·omega
theorem EH (k:Int) (w:World):Calls Tryz.prog 140 #[.int .i64 k] w (bM w (.int .i64 (dY k))):=by
 go_enter Tryz.func140,Tryz.ntmps140
 (repeat' first | ((with_reducible refine cY ?_);go_step) | ((with_reducible refine cJ ?_);first | refine eS ?_ | (refine dD ?_ ?_ <;> intro hc)) | fail)
 all_goals
  go_ret
  exact ⟨by unfold dY;simp_all,Ext.refl _⟩
theorem IG (nm:List UInt8) (w:World) (hl:nm.length≤9223372036854775806):Calls Tryz.prog 219 #[aI nm] w (bM w (if (aV nm).isSome=true then .tuple #[aI (nm ++ [0]), .int .i64 0] else .tuple #[aI [], .int .i64 1])):=by
 go_enter Tryz.func219,Tryz.ntmps219
 refine_lift oQ fun _ _ _ _ => ?_
 refine aD (enters_of Tryz.func75 rfl rfl) rfl rfl (pE nm _) ?_;intro w1 x1;refine aA ?_
 cases hls:(aV nm).isSome with
 | true =>
  simp only [↓reduceIte]
  refine_lift bR ?_
  go_ret2
  exact ⟨by rw [hls];rfl,x1⟩
 | false =>
  simp only [↓reduceIte,Bool.false_eq_true]
  refine_lift jP fun _ => ?_
  go_ret2
  exact ⟨by rw [hls];rfl,x1⟩
def qH (s:List UInt8) (i:Nat):Bool:=if s.length < i then false else mE (s.drop i)
theorem CH {s:List UInt8} {i:Nat} (h:i < s.length):qH s i=qH s (i + 1 + (s.getD i 0).toNat):=by
 unfold qH
 rw [if_neg (by omega),xO h,oY,sN h,List.drop_drop]
 simp only [List.length_drop]
 by_cases hc:s.length - (i + 1) < s[i].toNat
 ·rw [if_pos hc,if_pos (by omega)]
 ·rw [if_neg hc,if_neg (by omega)]
set_option maxHeartbeats 1000000 in
theorem LZ (s:List UInt8) (w:World) (hl:s.length≤4611686018427387904):Calls Tryz.prog 215 #[aI s] w (bM w (.bool (rL s))):=by
 go_enter Tryz.func215,Tryz.ntmps215
 refine_lift dR fun _ _ => ?_
 go_loopw [3] (fun a wr=>∃ i:Nat,i≤s.length + 256∧a=.int .i64 i∧Ext w wr∧mE s=qH s i∧(s.length < i→i≤s.length + 256)) (fun a _=>s.length - (intOf a).toNat)
 case atStart=>exact ⟨0,by omega,rfl,Ext.refl _,by simp [qH],by omega⟩
 case round =>
  obtain ⟨i,hi,rfl,hx,ht,_⟩:=hrel
  by_cases hlt:i < s.length
  ·rw [CH hlt] at ht
   have hb:(s.getD i 0).toNat < 256:=UInt8.toNat_lt _
   refine_lift jP fun _ => ?_
   exact ⟨⟨i + 1 + (s.getD i 0).toNat,by omega,by go_num,hx,ht,by omega⟩,by simp [intOf];omega⟩
  ·have hv:rL s=(decide (s≠[]) && decide (i=s.length)):=by
    unfold rL
    rw [ht,qH]
    by_cases he:s.length < i
    ·rw [if_pos he,decide_eq_false (show ¬ i=s.length by omega)];simp
    ·have:i=s.length:=by omega
     subst this
     rw [if_neg he,List.drop_length]
     simp [mE,oW]
   refine_lift VT (fun _ hc => ?_) (fun _ hc => ?_)
   ·have h0:=‹(!decide (s=[]))=true›
    go_ret
    exact ⟨by simp [hv] at h0 ⊢;simp [h0];omega,hx⟩
   ·have h0:=‹(!decide (s=[]))=false›
    go_ret
    exact ⟨by simp [hv] at h0 ⊢;simp [h0],hx⟩
def numU (s:List UInt8) (k:Nat):Nat:=(s.take k).foldl (fun n c=>256 * n + c.toNat) 0
theorem kP {s:List UInt8} {k:Nat} (h:k < s.length):numU s (k + 1)=256 * numU s k + (s.getD k 0).toNat:=by
 rw [numU,List.take_add_one,List.getElem?_eq_getElem h,Option.toList_some,List.foldl_append,sN h]
 rfl
theorem IH (s:List UInt8):∀ k,k≤s.length→numU s k < 256 ^ k
 | 0,_=>by simp [numU]
 | k + 1,h=>by
   have h1:=IH s k (by omega)
   have h2:(s.getD k 0).toNat < 256:=UInt8.toNat_lt _
   rw [kP (by omega),Nat.pow_succ]
   omega
set_option maxHeartbeats 1000000 in
theorem JV (s:List UInt8) (w:World) (hl:s.length≤4):Calls Tryz.prog 142 #[aI s] w (bM w (.int .i64 (numU s s.length:Nat))):=by
 go_enter Tryz.func142,Tryz.ntmps142
 refine_lift dR fun _ _ => ?_
 go_loopw [3,4] (fun n i wr=>∃ k:Nat,k≤s.length∧i=.int .i64 k∧Ext w wr∧n=.int .i64 (numU s k:Nat)) (fun _ i _=>s.length - (intOf i).toNat)
 case atStart=>exact ⟨0,by omega,rfl,Ext.refl _,rfl⟩
 case round =>
  obtain ⟨k,hk,rfl,hx,rfl⟩:=hrel
  by_cases hlt:k < s.length
  ·have hb:(s.getD k 0).toNat < 256:=UInt8.toNat_lt _
   have hn:numU s k < 4294967296:=Nat.lt_of_lt_of_le (IH s k hk) (by calc 256 ^ k≤256 ^ 4:=Nat.pow_le_pow_right (by omega) (by omega)
                                                                          _=_:=by decide)
   refine_lift jP fun _ => ?_
   refine ⟨⟨k + 1,by omega,by go_num,hx,?_⟩,by simp [intOf];omega⟩
   rw [kP hlt]
   go_num
  ·have:k=s.length:=by omega
   subst this
   refine_lift jP fun _ => ?_
   go_ret
   exact ⟨rfl,hx⟩
def oG (n j:Nat):List UInt8:=[if 4≤j then UInt8.ofNat (n / 16777216) else 0,if 3≤j then UInt8.ofNat (n / 65536) else 0,if 2≤j then UInt8.ofNat (n / 256) else 0,if 1≤j then UInt8.ofNat n else 0]
theorem HC (n:Nat):aS (oG n 0)=List.replicate 4 [.int .u8 0]:=by simp [oG,aS,List.replicate]
theorem HD (n:Nat):oG n 4=zJ n:=by simp [oG,zJ]
theorem HE (n j:Nat) (h:j < 4):(aS (oG n j)).set (3 - j) [.int .u8 ((UInt8.ofNat (n / 256 ^ j)).toNat:Nat)]=aS (oG n (j + 1)):=by
 have:j=0∨j=1∨j=2∨j=3:=by omega
 rcases this with rfl | rfl | rfl | rfl <;> simp [oG,aS]
set_option maxHeartbeats 2000000 in
theorem OW (n:Nat) (w:World) (hn:n < 4294967296):Calls Tryz.prog 145 #[.int .i64 (n:Nat), .int .i64 4] w (bM w (aI (zJ n))):=by
 go_enter Tryz.func145,Tryz.ntmps145
 refine_lift dR fun _ _ => ?_
 refine JL (e:=5) (n:=4) (z:=.int .u8 0) ?_ rfl rfl (by omega)
 intro v w1 x1 o1
 refine aA ?_
 refine_lift dR fun _ _ => ?_
 rw [← HC n] at o1
 go_loopw [0,6] (fun m i wr=>∃ j:Nat,j≤4∧i=.int .i64 (3 - (j:Int))∧m=.int .i64 (n / 256 ^ j:Nat)∧Ext w wr∧Own w.heap.size 1 5 wr v (aS (oG n j))) (fun _ i _=>(intOf i + 1).toNat)
 case atStart=>exact ⟨0,by omega,rfl,by simp,x1,o1⟩
 case round =>
  obtain ⟨j,hj,rfl,rfl,hx,ho⟩:=hrel
  have hsl:=ho.sl
  have hle:n / 256 ^ j≤n:=Nat.div_le_self _ _
  have hbl:(aS (oG n j)).length=4:=by simp [aS,oG]
  by_cases hlt:j < 4
  ·generalize hq:n / 256 ^ j=q at *
   refine_lift xG ?_;intro _ _ _ _ _ _
   refine cH rfl (Runs.remN (n:=256) rfl rfl (by omega) (by omega)) ?_
   refine aA ?_
   refine_lift bR ?_
   refine fE (c:=.int .u8 _) (i:=(3 - (j:Int)).toNat) rfl rfl rfl ho (by omega) (by decide +kernel) rfl ?_
   intro w2 o2 m2
   have hx2:=ho.mvx m2 hx (Nat.le_refl _)
   have e2:(aS (oG n j)).set (3 - (j:Int)).toNat [Value.int .u8 (IntKind.wrap .u8 ((q % 256:Nat):Int))]=aS (oG n (j + 1)):=by
    rw [show (3 - (j:Int)).toNat=3 - j by omega,xP,← HE n j hlt,hq]
    congr 4
    simp
   rw [e2] at o2
   clear ho hsl
   refine_lift bR ?_
   refine cH rfl (Runs.quoN (n:=256) rfl rfl (by omega) (by omega)) ?_
   refine aA ?_
   refine_lift bR ?_
   refine ⟨⟨j + 1,by omega,by go_num,?_,hx2,o2⟩,by simp [intOf];omega⟩
   rw [← hq,Nat.div_div_eq_div_mul,Nat.pow_succ]
  ·have:j=4:=by omega
   subst this
   rw [HD] at hsl
   refine_lift jP fun _ => ?_
   go_ret
   exact ⟨rfl,hx⟩
theorem MA {s:List UInt8} {i:Nat} (h:i < s.length):fT (s.drop i)=if (s.getD i 0).toNat=0 then 0 else 1 + (s.getD i 0).toNat + fT (s.drop (i + 1 + (s.getD i 0).toNat)):=by
 rw [xO h,rK,sN h,List.drop_drop]
def firstR (s:List UInt8):Nat:=if s.length≤fT s then 0 else if (eX (s.take (fT s + 1))).isSome=true then fT s + 1 else 0
theorem jB (s:List UInt8):cL s=if firstR s=0 then (if s.length≤fT s then ([],[],false) else ([],s.drop (fT s + 1),false)) else (s.take (firstR s - 1),s.drop (firstR s),true):=by
 unfold firstR cL
 by_cases h:s.length≤fT s
 ·simp [h]
 ·simp only [h,if_false]
  cases hh:eX (s.take (fT s + 1)) with
  | none=>simp
  | some n =>
   have:=JU hh
   simp only [Option.isSome_some,if_true,Option.getD_some]
   rw [if_neg (by omega),this]
   rw [List.length_take,List.take_take]
   congr 2
   omega
theorem qI (s:List UInt8):firstR s≤s.length:=by
 unfold firstR;split
 ·omega
 ·split <;> omega
set_option maxHeartbeats 1000000 in
theorem EI (s:List UInt8) (w:World) (hl:s.length≤4611686018427387904):Calls Tryz.prog 217 #[aI s] w (bM w (.int .i64 (firstR s:Nat))):=by
 go_enter Tryz.func217,Tryz.ntmps217
 refine_lift dR fun _ _ => ?_
 go_loopw [3] (fun a wr=>∃ i:Nat,a=.int .i64 i∧i≤s.length + 256∧Ext w wr∧fT s=i + fT (s.drop i)) (fun a _=>s.length - (intOf a).toNat)
 case atStart=>exact ⟨0,rfl,by omega,Ext.refl _,by simp⟩
 case round =>
  obtain ⟨i,rfl,hi,hx,hw⟩:=hrel
  by_cases hlt:i < s.length
  ·rw [MA hlt] at hw
   have hb:(s.getD i 0).toNat < 256:=UInt8.toNat_lt _
   by_cases hz:(s.getD i 0).toNat=0
   ·rw [if_pos hz] at hw
    refine_lift XZ ?_;intro _ _ _ _ _ _ _ _ _
    refine aD (enters_of Tryz.func141 rfl rfl) rfl rfl (tU (s.take (i + 1)) _ (by simp;omega)) ?_;intro w2 x2;refine aA ?_
    cases hh:(eX (s.take (i + 1))).isSome with
    | true =>
     refine_lift bR ?_
     go_ret
     exact ⟨by rw [firstR,hw,if_neg (by omega),Nat.add_zero,hh];rfl,hx.trans x2⟩
    | false =>
     refine_lift bR ?_
     go_ret
     exact ⟨by rw [firstR,hw,if_neg (by omega),Nat.add_zero,hh];rfl,hx.trans x2⟩
   ·rw [if_neg hz] at hw
    refine_lift dR fun _ _ => ?_
    exact ⟨⟨i + 1 + (s.getD i 0).toNat,by go_num,by omega,hx,by omega⟩,by simp [intOf];omega⟩
  ·refine_lift jP fun _ => ?_
   go_ret
   exact ⟨by rw [firstR,if_pos (by omega)];rfl,hx⟩
def yB (l:List Int):List (List Value):=l.map fun n=>[.int .i64 n]
theorem JW {l:List Int} {k:Nat} (h:k < l.length):(yB l)[k]? = some [.int .i64 l[k]]:=by simp [yB,h]
theorem EJ (m:Int) (w:World) (h0:0≤m) (h1:m < 4294967296):Calls Tryz.prog 145 #[.int .i64 m, .int .i64 4] w (bM w (aI (zJ m.toNat))):=by
 obtain ⟨n,rfl⟩:=Int.eq_ofNat_of_zero_le h0
 rw [Int.toNat_natCast]
 exact OW n w (by omega)
theorem CI (n:Nat):(zJ n).length=4:=rfl
set_option maxHeartbeats 4000000 in
theorem SA (s:SoaR) (w:World) (h1:s.main.length≤4611686018427387904) (h2:s.mail.length≤4611686018427387904):Calls Tryz.prog 218 #[.agg s.cells.toArray] w (bM w (if s.ok=true then .tuple #[aI s.data, .int .i64 0] else .tuple #[aI [], .int .i64 1])):=by
 have hA:=fun w=>IG s.main w (by omega)
 have hB:=fun w=>IG s.mail w (by omega)
 rw [LW]
 cases hm:(aV s.main).isSome with
 | false =>
  simp only [hm,Bool.false_eq_true,↓reduceIte] at hA
  go_enter Tryz.func218,Tryz.ntmps218
  refine_lift lF fun _ _ => ?_
  refine bJ (vs:=s.cells) rfl rfl ?_
  intro p w1 x1 hp
  refine aA ?_
  have hp':Pts w1 p [aI s.main,aI s.mail, .int .i64 s.serial, .int .i64 s.refresh, .int .i64 s.retry, .int .i64 s.expire, .int .i64 s.minimum]:=hp
  refine_lift dR fun _ _ => ?_
  refine aD (enters_of Tryz.func219 rfl rfl) rfl rfl (hA _) ?_;intro w2 x2;refine aA ?_
  have hp':=hp'.ext x2
  refine_lift dR fun _ _ => ?_
  refine aD (enters_of Tryz.func219 rfl rfl) rfl rfl (hB _) ?_;intro w3 x3;refine aA ?_
  cases hl:(aV s.mail).isSome
  all_goals
   have hp':=hp'.ext x3
   simp only [↓reduceIte,Bool.false_eq_true]
   refine_lift bR ?_
   go_ret2
   exact ⟨rfl,(x1.trans x2).trans x3⟩
 | true =>
  simp only [hm,↓reduceIte] at hA
  cases hl:(aV s.mail).isSome with
  | false =>
   simp only [hl,Bool.false_eq_true,↓reduceIte] at hB
   go_enter Tryz.func218,Tryz.ntmps218
   refine_lift lF fun _ _ => ?_
   refine bJ (vs:=s.cells) rfl rfl ?_
   intro p w1 x1 hp
   refine aA ?_
   have hp':Pts w1 p [aI s.main,aI s.mail, .int .i64 s.serial, .int .i64 s.refresh, .int .i64 s.retry, .int .i64 s.expire, .int .i64 s.minimum]:=hp
   refine_lift dR fun _ _ => ?_
   refine aD (enters_of Tryz.func219 rfl rfl) rfl rfl (hA _) ?_;intro w2 x2;refine aA ?_
   have hp':=hp'.ext x2
   refine_lift dR fun _ _ => ?_
   refine aD (enters_of Tryz.func219 rfl rfl) rfl rfl (hB _) ?_;intro w3 x3;refine aA ?_
   have hp':=hp'.ext x3
   refine_lift bR ?_
   go_ret2
   exact ⟨rfl,(x1.trans x2).trans x3⟩
  | true =>
   simp only [hl,↓reduceIte] at hB
   obtain ⟨ls,hls⟩:=Option.isSome_iff_exists.1 hm
   obtain ⟨ms,hms⟩:=Option.isSome_iff_exists.1 hl
   have hfm:=dG hls
   have hfm2:=dG hms
   simp only [Bool.true_and]
   go_enter Tryz.func218,Tryz.ntmps218
   refine_lift lF fun _ _ => ?_
   refine bJ (vs:=s.cells) rfl rfl ?_
   intro p w1 x1 hp
   refine aA ?_
   have hp':Pts w1 p [aI s.main,aI s.mail, .int .i64 s.serial, .int .i64 s.refresh, .int .i64 s.retry, .int .i64 s.expire, .int .i64 s.minimum]:=hp
   refine_lift dR fun _ _ => ?_
   refine aD (enters_of Tryz.func219 rfl rfl) rfl rfl (hA _) ?_;intro w2 x2;refine aA ?_
   have hp':=hp'.ext x2
   refine_lift dR fun _ _ => ?_
   refine aD (enters_of Tryz.func219 rfl rfl) rfl rfl (hB _) ?_;intro w3 x3;refine aA ?_
   have hp':=hp'.ext x3
   have x13:=(x1.trans x2).trans x3
   clear x1 x2 x3 hp hA hB
   refine_lift QJ (fun hc _ _ _ => ?_) (fun hc => ?_) (fun hc _ => ?_)
   rotate_left
   ·have hc:=‹s.serial≤4294967295›
    have hc0:=‹¬s.serial < 0›
    have hser:(decide (0≤s.serial) && decide (s.serial≤4294967295))=true:=by simp;omega
    refine bN (e:=3) (k:=1) (bytes:=8) (xs:=(bY s).map (.int .i64)) rfl rfl rfl (by intro x hx;obtain ⟨n,_,rfl⟩:=List.mem_map.1 hx;rfl) (by decide +kernel) (by simp [bY]) ?_
    intro v4 w4 x4 _ s4 _
    have s4:Sl 1 w4 v4 (yB (bY s)):=by simpa [yB,bY,Value.cells] using s4
    refine aA ?_
    have hp':=hp'.ext x4
    refine_lift dR fun _ _ => ?_
    refine aD (enters_of Tryz.func145 rfl rfl) rfl rfl (EJ s.serial _ (by omega) (by omega)) ?_;intro w5 x5;refine aA ?_
    refine cH rfl (Runs.addS rfl rfl (by simp [CI];omega)) ?_
    refine aA ?_
    refine_lift dR fun _ _ => ?_
    have x15:=(x13.trans x4).trans x5
    have s5:=s4.ext x5
    have hb0:(gK s).length≤600:=by simp [gK,CI];omega
    rw [show s.main ++ [0] ++ (s.mail ++ [0]) ++ zJ s.serial.toNat=gK s from rfl]
    have hlen:(bY s).length=4:=rfl
    have hlen2:(yB (bY s)).length=4:=rfl
    clear s4 x4 hp' x5
    go_loopw [9,10] (fun o i wr=>∃ k:Nat,k≤4∧i=.int .i64 k∧Ext w5 wr∧o=aI (gK s ++ oO ((bY s).take k))∧((bY s).take k).all fZ=true) (fun _ i _=>4 - (intOf i).toNat)
    case atStart=>exact ⟨0,by omega,rfl,Ext.refl _,by simp [oO],rfl⟩
    case round =>
     obtain ⟨k,hk,rfl,hx,rfl,hall⟩:=hrel
     have hsl:=s5.ext hx
     by_cases hlt:k < 4
     ·have hlt2:k < (bY s).length:=hlt
      have hp:=hsl.elem (JW hlt2)
      have hsplit:(bY s).all fZ=true→fZ (bY s)[k]=true:=fun h=>List.all_eq_true.1 h _ (List.getElem_mem hlt2)
      have hbs:(oO ((bY s).take k)).length≤16:=by rw [EC];simp;omega
      (repeat' first | ((with_reducible refine cY ?_);go_step) | ((with_reducible refine cJ ?_);first | refine eS ?_ | (refine dD ?_ ?_ <;> intro hc)) | fail)
      rotate_left
      ·refine aD (enters_of Tryz.func145 rfl rfl) rfl rfl (EJ (bY s)[k] _ (by omega) (by omega)) ?_;intro w6 x6;refine aA ?_
       refine cH rfl (Runs.addS rfl rfl (by simp [CI];omega)) ?_
       refine aA ?_
       rw [show gK s ++ oO ((bY s).take k) ++ zJ (bY s)[k].toNat=gK s ++ oO ((bY s).take (k + 1)) by rw [AN _ _ hlt2,List.append_assoc]]
       refine_lift bR ?_
       refine ⟨⟨k + 1,by omega,by go_num,hx.trans x6,rfl,?_⟩,by simp [intOf];omega⟩
       rw [List.take_add_one,List.getElem?_eq_getElem hlt2,Option.toList_some,List.all_append,hall]
       simp only [List.all_cons,List.all_nil,fZ,Bool.true_and,Bool.and_true,Bool.and_eq_true,decide_eq_true_eq]
       omega
      all_goals
       have hno:(bY s).all fZ=false:=by
        cases h:(bY s).all fZ with
        | false=>rfl
        | true=>have:=hsplit h;simp [fZ] at this;omega
       go_ret2
       refine ⟨?_,x15.trans hx⟩
       simp only [hser,hno,Bool.and_false,Bool.false_eq_true,if_false]
       rfl
     ·have:k=4:=by omega
      subst this
      rw [show (bY s).take 4=bY s from rfl] at hall ⊢
      refine_lift jP fun _ => ?_
      go_ret2
      refine ⟨?_,x15.trans hx⟩
      simp only [hser,hall,Bool.and_self,if_true]
      rw [xU]
      rfl
   all_goals
    have hno:(decide (0≤s.serial) && decide (s.serial≤4294967295))=false:=by simp only [Bool.and_eq_false_iff,decide_eq_false_iff_not];omega
    go_ret2
    refine ⟨?_,x13⟩
    simp only [hno,Bool.false_and,Bool.false_eq_true,if_false]
    rfl
theorem UO {r:List UInt8} {i:Nat} (hr:r.length=20) (hi:i < 5):(numU ((r.take (4 * i + 4)).drop (4 * i)) 4:Nat)=numP r i 4:=by
 have hl:((r.take (4 * i + 4)).drop (4 * i)).length=4:=by simp;omega
 have hg:∀ k,k < 4→((r.take (4 * i + 4)).drop (4 * i)).getD k 0=r.getD (4 * i + k) 0:=by
  intro k hk
  simp only [List.getD_eq_getElem?_getD,List.getElem?_drop,List.getElem?_take]
  rw [if_pos (by omega)]
 have h0:numU ((r.take (4 * i + 4)).drop (4 * i)) 0=0:=rfl
 rw [kP (by omega),kP (by omega),kP (by omega),kP (by omega),h0,hg 0 (by omega),hg 1 (by omega),hg 2 (by omega),hg 3 (by omega)]
 simp only [numP]
 omega
theorem OX (s:List UInt8) (w:World) (hl:s.length=4):Calls Tryz.prog 142 #[aI s] w (bM w (.int .i64 (numU s 4:Nat))):=by
 have:=JV s w (by omega)
 rwa [hl] at this
theorem CJ (d:List UInt8):cS d=if firstR d=0 then none else if firstR (d.drop (firstR d))=0∨d.length≠firstR d + firstR (d.drop (firstR d)) + 20 then none
 else if (dE d).ok=true then some (dE d) else none:=by
 have hd:=jB d
 have he:=jB (d.drop (firstR d))
 by_cases h0:firstR d=0
 ·rw [if_pos h0] at hd ⊢
  have:(cL d).2.2=false:=by rw [hd];split <;> rfl
  simp [cS,this]
 ·rw [if_neg h0] at hd ⊢
  have h1:(cL d).2.2=true:=by rw [hd]
  have h2:(cL d).2.1=d.drop (firstR d):=by rw [hd]
  unfold cS
  simp only [h1,h2,true_and]
  by_cases hm:firstR (d.drop (firstR d))=0
  ·rw [if_pos hm] at he
   have:(cL (d.drop (firstR d))).2.2=false:=by rw [he];split <;> rfl
   simp [this,hm]
  ·rw [if_neg hm] at he
   have h3:(cL (d.drop (firstR d))).2.2=true:=by rw [he]
   have h4:(cL (d.drop (firstR d))).2.1=(d.drop (firstR d)).drop (firstR (d.drop (firstR d))):=by rw [he]
   have l1:=qI d
   have l2:=qI (d.drop (firstR d))
   rw [List.length_drop] at l2
   simp only [h3,h4,true_and,hm,false_or,List.length_drop]
   by_cases hl:d.length=firstR d + firstR (d.drop (firstR d)) + 20
   ·have:d.length - firstR d - firstR (d.drop (firstR d))=20:=by omega
    simp [hl,this]
    rw [← hl]
    simp [this]
   ·have:¬ d.length - firstR d - firstR (d.drop (firstR d))=20:=by omega
    simp [hl,this]
theorem eE (r:List UInt8) (i:Nat) (w:World) (hr:r.length=20) (hi:i < 5):Calls Tryz.prog 142 #[aI ((r.take (4 * i + 4)).drop (4 * i))] w (bM w (.int .i64 (numP r i 4:Nat))):=by
 rw [← UO hr hi]
 exact OX _ w (by simp;omega)
set_option maxHeartbeats 24000000 in
theorem uX (d:List UInt8) (w:World) (hl:d.length≤4611686018427387904):Calls Tryz.prog 182 #[aI d] w (bM w (match cS d with | some s=>.tuple #[.agg s.cells.toArray, .int .i64 0] | none=>.tuple #[.agg bK.toArray, .int .i64 2])):=by
 have hps:=CJ d
 have l1:=qI d
 have l2:=qI (d.drop (firstR d))
 rw [List.length_drop] at l2
 have hd:=jB d
 have he:=jB (d.drop (firstR d))
 go_enter Tryz.func182,Tryz.ntmps182
 refine_lift zN ?_;intro _ _ _
 refine aL (z:=bK) rfl (by decide +kernel) ?_
 intro w1 x1 s1 h1
 refine aA ?_
 refine_lift dR fun _ _ => ?_
 refine aD (enters_of Tryz.func217 rfl rfl) rfl rfl (EI d _ hl) ?_;intro w2 x2;refine aA ?_
 have h1:=x2.at h1
 have x12:=x1.trans x2
 refine_lift RM (fun _ _ _ => ?_) (fun _ _ _ _ _ => ?_)
 ·have hz:=‹((firstR d:Nat):Int)=0›
  refine cH (v:=.agg bK.toArray) rfl (Runs.build (parts:=[]) (vals:=[]) rfl (by kernel_rfl)) ?_
  refine aA ?_
  refine aG (v:=.agg bK.toArray) rfl rfl rfl h1 (by decide +kernel) rfl (by decide +kernel) ?_
  intro w7 p7
  have x7:Ext w w7:=x12.move p7.mv (by rintro k ⟨⟩;omega)
  have h17:w7.heap[w.heap.size]? = some (.cells bK.toArray 160 (0,0)):=p7.this
  refine_lift bR ?_
  refine bodyPost_ret (aU (cs:=bK) rfl rfl h17 (by decide +kernel)) rfl ⟨?_,x7⟩
  rw [hps,if_pos (by omega)]
  rfl
 ·have hz:=‹¬((firstR d:Nat):Int)=0›
  rw [if_neg (by omega)] at hps
  refine aD (enters_of Tryz.func217 rfl rfl) rfl rfl (EI (d.drop (firstR d)) _ (by simp;omega)) ?_;intro w3 x3;refine aA ?_
  have h1:=x3.at h1
  have x13:=x12.trans x3
  clear x1 x2 x3 x12
  have hsoa:(dE d).cells=[aI (d.take (firstR d - 1)),aI ((d.drop (firstR d)).take (firstR (d.drop (firstR d)) - 1)), .int .i64 (numP ((d.drop (firstR d)).drop (firstR (d.drop (firstR d)))) 0 4:Nat), .int .i64 (numP ((d.drop (firstR d)).drop (firstR (d.drop (firstR d)))) 1 4:Nat), .int .i64 (numP ((d.drop (firstR d)).drop (firstR (d.drop (firstR d)))) 2 4:Nat), .int .i64 (numP ((d.drop (firstR d)).drop (firstR (d.drop (firstR d)))) 3 4:Nat), .int .i64 (numP ((d.drop (firstR d)).drop (firstR (d.drop (firstR d)))) 4 4:Nat)]∨firstR (d.drop (firstR d))=0:=by
   by_cases hm:firstR (d.drop (firstR d))=0
   ·exact .inr hm
   ·rw [if_neg (by omega)] at hd
    rw [if_neg hm] at he
    left
    simp only [SoaR.cells,dE,hd,he]
  refine_lift TY (fun hc _ _ _ => ?_) (fun _ _ hc _ _ => ?_) (fun _ _ hc _ _ _ => ?_)
  rotate_left
  ·have hm:=‹¬((firstR (d.drop (firstR d)):Nat):Int)=0›
   have hlen:=‹(!decide ((d.length:Int)=((firstR d:Nat):Int) + ((firstR (d.drop (firstR d)):Nat):Int) + 20))=false›
   have hlen:d.length=firstR d + firstR (d.drop (firstR d)) + 20:=by simp at hlen;omega
   rw [if_neg (by omega)] at hps
   have hsoa:=hsoa.resolve_right (by omega)
   generalize hn:firstR d=n at *
   generalize hmm:firstR (d.drop n)=m at *
   have ht:(d.drop ((n:Int) + (m:Int)).toNat)=(d.drop n).drop m:=by rw [List.drop_drop];congr 1
   rw [ht]
   have htl:((d.drop n).drop m).length=20:=by simp;omega
   generalize hr:(d.drop n).drop m=r at *
   refine dS (S:=fun w'=>Ext w3 w') (by decide +kernel) ?_
   intro w4 x4 hh4
   refine tk 0 ?_;refine aA ?_;refine tk 1 ?_;refine aA ?_;refine tk 2 ?_;refine aA ?_;refine tk 3 ?_;refine aA ?_;refine tk 4 ?_;refine aA ?_;refine tk 5 ?_;refine aA ?_;refine tk 6 ?_;refine aA ?_;refine tk 7 ?_;refine aA ?_;refine tk 8 ?_;refine aA ?_;refine tk 9 ?_;refine aA ?_;refine tk 10 ?_;refine aA ?_;refine tk 11 ?_;refine aA ?_;refine tk 12 ?_;refine aA ?_;refine tk 14 ?_;refine aA ?_;refine tk 15 ?_;refine aA ?_;refine tk 17 ?_;refine aA ?_;refine tk 18 ?_;refine aA ?_;refine tk 20 ?_;refine aA ?_;refine tk 21 ?_;refine aA ?_;refine tk 23 ?_;refine aA ?_;refine tk 24 ?_;refine aA ?_
   have hx:=x4
   have hA:d.take ((n:Int) - 1).toNat=d.take (n - 1):=by congr 1;omega
   rw [hA]
   have hB:(d.take ((n:Int) + (m:Int) - 1).toNat).drop n=(d.drop n).take (m - 1):=by
    rw [List.drop_take];congr 1;omega
   rw [hB]
   apply QH (F:=fun (b:Nat) w'=>Ext w3 w'∧w4.heap.size≤b∧w'.heap[b]? = some (.cells bK.toArray 160 (0,0)))
   ·intro hG
    have hx0:=hx
    have hx:Ext w4 w4:=Ext.refl _
    refine qE (i:=13) (j:=27) (by decide +kernel) rfl rfl rfl ?_ ?_
    ·refine aD (enters_of Tryz.func142 rfl rfl) rfl rfl (eE r 0 _ htl (by omega)) ?_
     intro w_1 x_1
     have hx:=hx.trans x_1
     refine aA ?_
     refine aJ ⟨hx0.trans hx,?_⟩
     refine qE (i:=16) (j:=27) (by decide +kernel) rfl rfl rfl ?_ ?_
     ·refine aD (enters_of Tryz.func142 rfl rfl) rfl rfl (eE r 1 _ htl (by omega)) ?_
      intro w_2 x_2
      have hx:=hx.trans x_2
      refine aA ?_
      refine aJ ⟨hx0.trans hx,?_⟩
      refine qE (i:=19) (j:=27) (by decide +kernel) rfl rfl rfl ?_ ?_
      ·refine aD (enters_of Tryz.func142 rfl rfl) rfl rfl (eE r 2 _ htl (by omega)) ?_
       intro w_3 x_3
       have hx:=hx.trans x_3
       refine aA ?_
       refine aJ ⟨hx0.trans hx,?_⟩
       refine qE (i:=22) (j:=27) (by decide +kernel) rfl rfl rfl ?_ ?_
       ·refine aD (enters_of Tryz.func142 rfl rfl) rfl rfl (eE r 3 _ htl (by omega)) ?_
        intro w_4 x_4
        have hx:=hx.trans x_4
        refine aA ?_
        refine aJ ⟨hx0.trans hx,?_⟩
        refine qE (i:=25) (j:=27) (by decide +kernel) rfl rfl rfl ?_ ?_
        ·refine aD (enters_of Tryz.func142 rfl rfl) rfl rfl (eE r 4 _ htl (by omega)) ?_
         intro w_5 x_5
         have hx:=hx.trans x_5
         refine aA ?_
         refine aJ ⟨hx0.trans hx,?_⟩
         refine cO (i:=26) (v:=.agg (dE d).cells.toArray) rfl rfl (by decide +kernel) (by decide +kernel) (by decide +kernel) rfl (hx0.trans hx) (fun w' _=>by rw [hsoa];exact Runs.build rfl (by kernel_rfl)) (fun _ _ _ h=>h) ?_;refine aA ?_
         refine cA (i:=27) (by decide +kernel) rfl rfl ?_
         refine aL (z:=bK) rfl (by decide +kernel) ?_
         intro w_6 x_6 s_6 ha
         have hb:=hx.size
         have hx:=hx.trans x_6
         generalize w_5.heap.size=b at *
         refine aA ?_
         refine aJ ⟨hx0.trans hx,?_⟩
         exact hG _ _ ⟨hx0.trans hx,hb,ha⟩
        ·refine aL (z:=bK) rfl (by decide +kernel) ?_
         intro w_7 x_7 s_7 ha
         have hb:=hx.size
         have hx:=hx.trans x_7
         generalize w_4.heap.size=b at *
         refine aA ?_
         refine aJ ⟨hx0.trans hx,?_⟩
         refine cA (i:=25) (by decide +kernel) rfl rfl ?_
         refine aD (enters_of Tryz.func142 rfl rfl) rfl rfl (eE r 4 _ htl (by omega)) ?_
         intro w_8 x_8
         have hx:=hx.trans x_8
         have ha:=x_8.at ha
         refine aA ?_
         refine aJ ⟨hx0.trans hx,?_⟩
         refine cO (i:=26) (v:=.agg (dE d).cells.toArray) rfl rfl (by decide +kernel) (by decide +kernel) (by decide +kernel) rfl (hx0.trans hx) (fun w' _=>by rw [hsoa];exact Runs.build rfl (by kernel_rfl)) (fun _ _ _ h=>h) ?_;refine aA ?_
         exact hG _ _ ⟨hx0.trans hx,hb,ha⟩
       ·refine aL (z:=bK) rfl (by decide +kernel) ?_
        intro w_9 x_9 s_9 ha
        have hb:=hx.size
        have hx:=hx.trans x_9
        generalize w_3.heap.size=b at *
        refine aA ?_
        refine aJ ⟨hx0.trans hx,?_⟩
        refine cA (i:=22) (by decide +kernel) rfl rfl ?_
        refine aD (enters_of Tryz.func142 rfl rfl) rfl rfl (eE r 3 _ htl (by omega)) ?_
        intro w_10 x_10
        have hx:=hx.trans x_10
        have ha:=x_10.at ha
        refine aA ?_
        refine aJ ⟨hx0.trans hx,?_⟩
        refine cA (i:=25) (by decide +kernel) rfl rfl ?_
        refine aD (enters_of Tryz.func142 rfl rfl) rfl rfl (eE r 4 _ htl (by omega)) ?_
        intro w_11 x_11
        have hx:=hx.trans x_11
        have ha:=x_11.at ha
        refine aA ?_
        refine aJ ⟨hx0.trans hx,?_⟩
        refine cO (i:=26) (v:=.agg (dE d).cells.toArray) rfl rfl (by decide +kernel) (by decide +kernel) (by decide +kernel) rfl (hx0.trans hx) (fun w' _=>by rw [hsoa];exact Runs.build rfl (by kernel_rfl)) (fun _ _ _ h=>h) ?_;refine aA ?_
        exact hG _ _ ⟨hx0.trans hx,hb,ha⟩
      ·refine aL (z:=bK) rfl (by decide +kernel) ?_
       intro w_12 x_12 s_12 ha
       have hb:=hx.size
       have hx:=hx.trans x_12
       generalize w_2.heap.size=b at *
       refine aA ?_
       refine aJ ⟨hx0.trans hx,?_⟩
       refine cA (i:=19) (by decide +kernel) rfl rfl ?_
       refine aD (enters_of Tryz.func142 rfl rfl) rfl rfl (eE r 2 _ htl (by omega)) ?_
       intro w_13 x_13
       have hx:=hx.trans x_13
       have ha:=x_13.at ha
       refine aA ?_
       refine aJ ⟨hx0.trans hx,?_⟩
       refine cA (i:=22) (by decide +kernel) rfl rfl ?_
       refine aD (enters_of Tryz.func142 rfl rfl) rfl rfl (eE r 3 _ htl (by omega)) ?_
       intro w_14 x_14
       have hx:=hx.trans x_14
       have ha:=x_14.at ha
       refine aA ?_
       refine aJ ⟨hx0.trans hx,?_⟩
       refine cA (i:=25) (by decide +kernel) rfl rfl ?_
       refine aD (enters_of Tryz.func142 rfl rfl) rfl rfl (eE r 4 _ htl (by omega)) ?_
       intro w_15 x_15
       have hx:=hx.trans x_15
       have ha:=x_15.at ha
       refine aA ?_
       refine aJ ⟨hx0.trans hx,?_⟩
       refine cO (i:=26) (v:=.agg (dE d).cells.toArray) rfl rfl (by decide +kernel) (by decide +kernel) (by decide +kernel) rfl (hx0.trans hx) (fun w' _=>by rw [hsoa];exact Runs.build rfl (by kernel_rfl)) (fun _ _ _ h=>h) ?_;refine aA ?_
       exact hG _ _ ⟨hx0.trans hx,hb,ha⟩
     ·refine aL (z:=bK) rfl (by decide +kernel) ?_
      intro w_16 x_16 s_16 ha
      have hb:=hx.size
      have hx:=hx.trans x_16
      generalize w_1.heap.size=b at *
      refine aA ?_
      refine aJ ⟨hx0.trans hx,?_⟩
      refine cA (i:=16) (by decide +kernel) rfl rfl ?_
      refine aD (enters_of Tryz.func142 rfl rfl) rfl rfl (eE r 1 _ htl (by omega)) ?_
      intro w_17 x_17
      have hx:=hx.trans x_17
      have ha:=x_17.at ha
      refine aA ?_
      refine aJ ⟨hx0.trans hx,?_⟩
      refine cA (i:=19) (by decide +kernel) rfl rfl ?_
      refine aD (enters_of Tryz.func142 rfl rfl) rfl rfl (eE r 2 _ htl (by omega)) ?_
      intro w_18 x_18
      have hx:=hx.trans x_18
      have ha:=x_18.at ha
      refine aA ?_
      refine aJ ⟨hx0.trans hx,?_⟩
      refine cA (i:=22) (by decide +kernel) rfl rfl ?_
      refine aD (enters_of Tryz.func142 rfl rfl) rfl rfl (eE r 3 _ htl (by omega)) ?_
      intro w_19 x_19
      have hx:=hx.trans x_19
      have ha:=x_19.at ha
      refine aA ?_
      refine aJ ⟨hx0.trans hx,?_⟩
      refine cA (i:=25) (by decide +kernel) rfl rfl ?_
      refine aD (enters_of Tryz.func142 rfl rfl) rfl rfl (eE r 4 _ htl (by omega)) ?_
      intro w_20 x_20
      have hx:=hx.trans x_20
      have ha:=x_20.at ha
      refine aA ?_
      refine aJ ⟨hx0.trans hx,?_⟩
      refine cO (i:=26) (v:=.agg (dE d).cells.toArray) rfl rfl (by decide +kernel) (by decide +kernel) (by decide +kernel) rfl (hx0.trans hx) (fun w' _=>by rw [hsoa];exact Runs.build rfl (by kernel_rfl)) (fun _ _ _ h=>h) ?_;refine aA ?_
      exact hG _ _ ⟨hx0.trans hx,hb,ha⟩
    ·refine aL (z:=bK) rfl (by decide +kernel) ?_
     intro w_21 x_21 s_21 ha
     have hb:=hx.size
     have hx:=hx.trans x_21
     generalize w4.heap.size=b at *
     refine aA ?_
     refine aJ ⟨hx0.trans hx,?_⟩
     refine cA (i:=13) (by decide +kernel) rfl rfl ?_
     refine aD (enters_of Tryz.func142 rfl rfl) rfl rfl (eE r 0 _ htl (by omega)) ?_
     intro w_22 x_22
     have hx:=hx.trans x_22
     have ha:=x_22.at ha
     refine aA ?_
     refine aJ ⟨hx0.trans hx,?_⟩
     refine cA (i:=16) (by decide +kernel) rfl rfl ?_
     refine aD (enters_of Tryz.func142 rfl rfl) rfl rfl (eE r 1 _ htl (by omega)) ?_
     intro w_23 x_23
     have hx:=hx.trans x_23
     have ha:=x_23.at ha
     refine aA ?_
     refine aJ ⟨hx0.trans hx,?_⟩
     refine cA (i:=19) (by decide +kernel) rfl rfl ?_
     refine aD (enters_of Tryz.func142 rfl rfl) rfl rfl (eE r 2 _ htl (by omega)) ?_
     intro w_24 x_24
     have hx:=hx.trans x_24
     have ha:=x_24.at ha
     refine aA ?_
     refine aJ ⟨hx0.trans hx,?_⟩
     refine cA (i:=22) (by decide +kernel) rfl rfl ?_
     refine aD (enters_of Tryz.func142 rfl rfl) rfl rfl (eE r 3 _ htl (by omega)) ?_
     intro w_25 x_25
     have hx:=hx.trans x_25
     have ha:=x_25.at ha
     refine aA ?_
     refine aJ ⟨hx0.trans hx,?_⟩
     refine cA (i:=25) (by decide +kernel) rfl rfl ?_
     refine aD (enters_of Tryz.func142 rfl rfl) rfl rfl (eE r 4 _ htl (by omega)) ?_
     intro w_26 x_26
     have hx:=hx.trans x_26
     have ha:=x_26.at ha
     refine aA ?_
     refine aJ ⟨hx0.trans hx,?_⟩
     refine cO (i:=26) (v:=.agg (dE d).cells.toArray) rfl rfl (by decide +kernel) (by decide +kernel) (by decide +kernel) rfl (hx0.trans hx) (fun w' _=>by rw [hsoa];exact Runs.build rfl (by kernel_rfl)) (fun _ _ _ h=>h) ?_;refine aA ?_
     exact hG _ _ ⟨hx0.trans hx,hb,ha⟩
   ·intro b w5 hF
    obtain ⟨x5,hbb,h5⟩:=hF
    have hsz:=x4.size
    have hs1:w.heap.size < w3.heap.size:=(Array.getElem?_eq_some_iff.1 h1).1
    refine cA (i:=28) (by decide +kernel) rfl rfl ?_
    refine aG (v:=.agg (dE d).cells.toArray) rfl rfl rfl h5 (show aR Tryz.prog 160 7=true by decide +kernel) rfl (by rw [hsoa];simp [Value.cells,Value.oneCell',aI]) ?_
    intro w6 p6
    have h16:=p6.at (x5.at h1) (by omega)
    have x36:Ext w3 w6:=x5.move p6.mv (by rintro k ⟨⟩;omega)
    have x6:=x13.trans x36
    have hb6:w6.heap[b]? = some (.cells (dE d).cells.toArray 160 (0,0)):=p6.this
    refine aJ ⟨x36,?_⟩
    refine dK (by decide +kernel) ?_
    have hp6:=aE hb6
    clear p6 h5 x5 hx x4 h1
    refine_lift dR fun _ _ => ?_
    refine cH (v:=.agg (dE d).cells.toArray) rfl (Runs.loadN (n:=7) hp6 rfl (by decide +kernel)) ?_
    refine aA ?_
    have hm1:(dE d).main.length≤4611686018427387904:=by
     have:=congrArg (fun c:List Value=>rB (c.getD 0 undef)) hsoa
     simp only [SoaR.cells,List.getD_cons_zero,kW] at this
     rw [this];simp;omega
    have hm2:(dE d).mail.length≤4611686018427387904:=by
     have:=congrArg (fun c:List Value=>rB (c.getD 1 undef)) hsoa
     simp only [SoaR.cells,List.getD_cons_zero,List.getD_cons_succ,kW] at this
     rw [this];simp;omega
    refine aD (enters_of Tryz.func218 rfl rfl) rfl rfl (SA (dE d) _ hm1 hm2) ?_;intro w7 x7;refine aA ?_
    have h16:=x7.at h16
    have hb6:=x7.at hb6
    have x6:=x6.trans x7
    have hp6:=hp6.ext x7
    cases hok:(dE d).ok with
    | false =>
     simp only [hok,Bool.false_eq_true,if_false] at hps ⊢
     refine_lift TW fun _ _ _ _ _ => ?_
     refine cH (v:=.agg bK.toArray) rfl (Runs.build (parts:=[]) (vals:=[]) rfl (by kernel_rfl)) ?_
     refine aA ?_
     refine aG (v:=.agg bK.toArray) rfl rfl rfl h16 (by decide +kernel) rfl (by decide +kernel) ?_
     intro w8 p8
     have x8:Ext w w8:=x6.move p8.mv (by rintro k ⟨⟩;omega)
     have h18:w8.heap[w.heap.size]? = some (.cells bK.toArray 160 (0,0)):=p8.this
     refine_lift bR ?_
     refine bodyPost_ret (aU (cs:=bK) rfl rfl h18 (by decide +kernel)) rfl ⟨?_,x8⟩
     rw [hps]
     rfl
    | true =>
     simp only [hok,if_true] at hps ⊢
     refine_lift dR fun _ _ => ?_
     refine cH (v:=.agg (dE d).cells.toArray) rfl (Runs.loadN (n:=7) hp6 rfl (by decide +kernel)) ?_
     refine aA ?_
     refine aG (v:=.agg (dE d).cells.toArray) rfl rfl rfl h16 (show aR Tryz.prog 160 7=true by decide +kernel) rfl (by rw [hsoa];simp [Value.cells,Value.oneCell',aI]) ?_
     intro w8 p8
     have x8:Ext w w8:=x6.move p8.mv (by rintro k ⟨⟩;omega)
     have h18:w8.heap[w.heap.size]? = some (.cells (dE d).cells.toArray 160 (0,0)):=p8.this
     refine_lift bR ?_
     refine bodyPost_ret (aU (cs:=(dE d).cells) rfl rfl h18 (show cP Tryz.prog 160 7=true by decide +kernel)) rfl ⟨?_,x8⟩
     rw [hps]
     rfl
  all_goals
   refine cH (v:=.agg bK.toArray) rfl (Runs.build (parts:=[]) (vals:=[]) rfl (by kernel_rfl)) ?_
   refine aA ?_
   refine aG (v:=.agg bK.toArray) rfl rfl rfl h1 (by decide +kernel) rfl (by decide +kernel) ?_
   intro w7 p7
   have x7:Ext w w7:=x13.move p7.mv (by rintro k ⟨⟩;omega)
   have h17:w7.heap[w.heap.size]? = some (.cells bK.toArray 160 (0,0)):=p7.this
   refine_lift bR ?_
   refine bodyPost_ret (aU (cs:=bK) rfl rfl h17 (by decide +kernel)) rfl ⟨?_,x7⟩
   have hbad:firstR (d.drop (firstR d))=0∨d.length≠firstR d + firstR (d.drop (firstR d)) + 20:=by
    first
     | exact .inl (by omega)
     | exact .inr (by have hq:=‹(!decide ((d.length:Int)=((firstR d:Nat):Int) + ((firstR (d.drop (firstR d)):Nat):Int) + 20))=true›;simp at hq;omega)
   rw [hps,if_pos hbad]
   rfl
theorem JX (k:Int) (d:List UInt8):decide ((aY k d).2≠2)=(decide (dY k < 0) || (decide (dY k≤(d.length:Int)) && (eX (d.drop (dY k).toNat)).isSome)):=by
 unfold aY
 by_cases h1:dY k < 0
 ·simp [h1]
 ·by_cases h2:(d.length:Int) < dY k
  ·simp [h1,h2];omega
  ·rw [if_neg h1,if_neg h2]
   cases hh:eX (d.drop (dY k).toNat) with
   | none=>simp [h1]
   | some n=>simp [h1];omega
set_option maxHeartbeats 12000000 in
theorem OY (k:Int) (d:List UInt8) (w:World) (hl:d.length≤4611686018427387904):Calls Tryz.prog 179 #[.int .i64 k,aI d] w (bM w (.bool (decide (d.length≤4000) && fits k d))):=by
 go_enter Tryz.func179,Tryz.ntmps179
 (repeat' first | ((with_reducible refine cY ?_);go_step) | ((with_reducible refine cJ ?_);first | refine eS ?_ | (refine dD ?_ ?_ <;> intro hc)) | fail)
 ·have h4:=‹4000 < (d.length:Int)›
  go_ret
  exact ⟨by rw [decide_eq_false (show ¬ d.length≤4000 by omega)];rfl,Ext.refl _⟩
 ·have h4:=‹(d.length:Int)≤4000›
  have hk:=‹k=1›
  go_ret
  refine ⟨?_,Ext.refl _⟩
  rw [decide_eq_true (show d.length≤4000 by omega),fits,if_pos hk]
  simp;omega
 ·have h4:=‹(d.length:Int)≤4000›
  have hk:=‹k=28›
  subst hk
  go_ret
  refine ⟨?_,Ext.refl _⟩
  rw [decide_eq_true (show d.length≤4000 by omega)]
  simp [fits];omega
 ·have h4:=‹(d.length:Int)≤4000›
  have hk:=‹k=6›
  subst hk
  have hf:(decide (d.length≤4000) && fits 6 d)=(cS d).isSome:=by
   rw [decide_eq_true (show d.length≤4000 by omega)];simp [fits]
  refine aD (enters_of Tryz.func182 rfl rfl) rfl rfl (uX d _ hl) ?_;intro w1 x1;refine aA ?_
  cases hps:cS d with
  | none =>
   refine_lift bR ?_
   refine aL (z:=bK) rfl (by decide +kernel) ?_
   intro w2 x2 s2 h2
   refine aA ?_
   refine aG (v:=.agg bK.toArray) rfl rfl rfl h2 (by decide +kernel) rfl (by decide +kernel) ?_
   intro w3 p3
   have x3:Ext w w3:=(x1.trans x2).move p3.mv (by rintro k ⟨⟩;exact x1.size)
   refine_lift bR ?_
   go_ret
   exact ⟨by rw [hf,hps];simp,x3⟩
  | some s =>
   refine_lift bR ?_
   refine aL (z:=bK) rfl (by decide +kernel) ?_
   intro w2 x2 s2 h2
   refine aA ?_
   refine aG (v:=.agg s.cells.toArray) rfl rfl rfl h2 (show aR Tryz.prog 160 7=true by decide +kernel) rfl (by simp [SoaR.cells,Value.cells,Value.oneCell',aI]) ?_
   intro w3 p3
   have x3:Ext w w3:=(x1.trans x2).move p3.mv (by rintro k ⟨⟩;exact x1.size)
   refine_lift bR ?_
   go_ret
   exact ⟨by rw [hf,hps];simp,x3⟩
 ·have h4:=‹(d.length:Int)≤4000›
  have hk:=‹k=16›
  subst hk
  refine aD (enters_of Tryz.func215 rfl rfl) rfl rfl (LZ d _ hl) ?_;intro w1 x1;refine aA ?_
  refine_lift bR ?_
  go_ret
  refine ⟨?_,x1⟩
  rw [decide_eq_true (show d.length≤4000 by omega)]
  simp [fits]
 ·have h4:=‹(d.length:Int)≤4000›
  have q1:=‹¬k=1›
  have q2:=‹¬k=28›
  have q3:=‹¬k=6›
  have q4:=‹¬k=16›
  have hf:(decide (d.length≤4000) && fits k d)=(decide (dY k < 0) || (decide (dY k≤(d.length:Int)) && (eX (d.drop (dY k).toNat)).isSome)):=by
   rw [decide_eq_true (show d.length≤4000 by omega),← JX]
   simp [fits,q1,q2,q3,q4]
  refine aD (enters_of Tryz.func140 rfl rfl) rfl rfl (EH k _) ?_;intro w1 x1;refine aA ?_
  generalize dY k=a at *
  refine_lift DZ (fun hc hc => ?_) (fun hc => ?_) (fun _ _ hc hc => ?_)
  ·have c1:=‹¬a < 0›
   have c2:=‹a≤(d.length:Int)›
   refine aD (enters_of Tryz.func141 rfl rfl) rfl rfl (tU (d.drop a.toNat) _ (by simp;omega)) ?_;intro w2 x2;refine aA ?_
   refine_lift bR ?_
   go_ret
   exact ⟨by rw [hf,decide_eq_false c1,decide_eq_true c2];simp,x1.trans x2⟩
  ·have c1:=‹¬a < 0›
   have c2:=‹¬a≤(d.length:Int)›
   go_ret
   exact ⟨by rw [hf,decide_eq_false c1,decide_eq_false c2];simp,x1⟩
  ·have c1:=‹a < 0›
   go_ret
   exact ⟨by rw [hf,decide_eq_true c1];simp,x1⟩
end Go.Proofs.X
