/- Laws and walks that the proof of the statement is made of (part 21). -/
import Derived.Test.YtgljkfpcadempaaGreatP20
set_option linter.unusedSimpArgs false
set_option linter.unusedVariables false
namespace Go.Proofs.X
open Go.RowKit
set_option maxRecDepth 100000
def nC (k:Int) (A U:List Rec):List Rec:=A ++ if k=3 then U else []
theorem vO {o:List UInt8} {l:List RSet} (hz:ZoneOk o l) {m n:List UInt8} {s:RSet} (hs:s ∈ BJ l m n) (h5:s.kind=5):BJ l m n=[s]:=by
 obtain ⟨t,ht,hn,he⟩:=CP hs
 have hk:t.kind=5:=by rw [he] at h5;exact h5
 have hr:=hz.right t ht
 have hcl:l.any (lJ t)=false:=by
  unfold dZ at hr
  cases hc:l.any (lJ t) with
  | false=>rfl
  | true=>rw [hc,hk] at hr;simp at hr
 have hall:∀ u ∈ l,u.name=m→u.kind=5:=fun u hu hum=>by
  have:=(List.any_eq_false.1 hcl) u hu
  simp [lJ,hum,hn] at this
  exact this
 have hf:l.filter (fun u=>decide (u.name=m))=[t]:=by
  refine yM ht (by simp [hn]) ?_
  refine (FC hz.chk).imp_of_mem ?_
  intro a b ha hb hab hh
  simp only [decide_eq_true_eq] at hh
  exact hab ⟨hh.1.trans hh.2.symm,(hall a ha hh.1).trans (hall b hb hh.2).symm⟩
 unfold BJ
 rw [hf,he]
 rfl
theorem DH {o:List UInt8} {l:List RSet} (hz:ZoneOk o l) {n:List UInt8} {s:RSet} (hs:s ∈ aZ l n) (h5:s.kind=5):aZ l n=[s]:=by
 unfold aZ at *
 by_cases hi:nV l n=true
 ·rw [if_pos hi] at *
  exact vO hz hs h5
 ·rw [if_neg hi] at *
  exact vO hz hs h5
theorem zH {o:List UInt8} {l:List RSet} (hz:ZoneOk o l) {n:List UInt8} (h:(aZ l n).any eN=true):aZ l n=[bF l n]∧(bF l n).kind=5:=by
 obtain ⟨h1,h2,_⟩:=mW h
 exact ⟨DH hz h1 h2,h2⟩
set_option maxHeartbeats 4000000 in
theorem mJ (o:List UInt8) (v:Value) (l:List RSet) (k:Int) (A U:List Rec) (u1 u2:Value) (w:World) (hv:SetsAt w v l) (h1:Sl 4 w u1 (aO A)) (h2:Sl 4 w u2 (aO U)) (hz:ZoneOk o l) (hA:A.length≤4500) (hU:U.length≤4500) (hd:∀ r ∈ nC k A U,r.data.length≤4611686018427387904) (hh:∀ r ∈ nC k A U,oJ r.kind=true→(aY r.kind r.data).2=0) :
 Calls Tryz.prog 77 #[.agg #[aI o,v], .agg #[.int .i64 k,u1,u2, .slice none 0 0]] w (oA w fun r w'=>∃ y,r=.tuple #[.agg #[.int .i64 k,u1,u2,y], .int .i64 0]∧Own w.heap.size 4 106 w' y (aO (tY l (nC k A U)))):=by
 go_enter Tryz.func77,Tryz.ntmps77
 refine_lift zN ?_;intro _ _ _
 refine bJ (vs:=[aI o,v]) rfl rfl ?_
 intro p w1 x1 hp
 refine aA ?_
 refine eK (vs:=[.int .i64 k,u1,u2, .slice none 0 0]) rfl rfl ?_
 intro w2 x2 s2 b2
 refine aA ?_
 refine aL (z:=kN) rfl (by decide +kernel) ?_
 intro w3 x3 s3 b3
 refine aA ?_
 have hx3:=x1.trans (x2.trans x3)
 have hp3:=hp.ext (x2.trans x3)
 have hb3:=x3.at b2
 have hv3:=hv.ext hx3
 have h13:=h1.ext hx3
 have h23:=h2.ext hx3
 have hb3p:=aE (cs:=[.int .i64 k,u1,u2, .slice none 0 0]) hb3
 have z2:w.heap.size≤w1.heap.size:=x1.size
 refine_lift oZ (fun _ _ _ => ?_) (fun _ _ _ => ?_)
 ·have hk3:k=3:=by assumption
  have hT:aO A ++ aO U=aO (nC k A U):=by rw [nC,if_pos hk3];simp [aO]
  refine bV 5 (Ext w3) (by decide +kernel) ?_
  intro w4 x4 _
  refine ⟨x4,?_⟩
  refine cV 0 ?_;refine cV 1 ?_;refine cV 3 ?_;refine cV 4 ?_
  refine bE (i:=2) (by decide +kernel) rfl rfl ?_
  refine bU (B:=w3.heap.size) (e:=106) (k:=4) rfl (Own.nil _ _ _ _) rfl (h13.ext x4) eA x4.size (by rw [aQ];simp;omega) ?_
  intro v5 w5 o5 m5 _
  refine aA ?_
  have x5:Ext w3 w5:=(Own.nil w3.heap.size 4 106 w4).mvx m5 x4 (Nat.le_refl _)
  refine aJ ⟨cC x5,?_⟩
  refine bE (i:=5) (by decide +kernel) rfl rfl ?_
  refine bU (B:=w3.heap.size) (e:=106) (k:=4) rfl o5 rfl (h23.ext x5) eA x5.size (by simp [aQ];omega) ?_
  intro v6 w6 o6 m6 _
  refine aA ?_
  have x6:Ext w3 w6:=o5.mvx m6 x5 (Nat.le_refl _)
  refine aJ ⟨bT rfl,?_⟩
  refine zL 6 ?_
  refine cN (by decide +kernel) ?_
  simp only [List.nil_append] at o6
  rw [hT] at o6
  have hb6:=x6.at hb3
  have hp6:=hp3.ext x6
  have os6:=o6.sl
  refine_lift dJ fun _ _ => ?_
  refine aK (enters_of Tryz.func136 rfl rfl) rfl rfl (GD o v v6 l (nC k A U) _ (hv3.ext x6) os6 hz (by unfold nC;rw [List.length_append];split <;> first | omega | (simp;omega)) hd hh) ?_
  intro r7 w7 x7 o7
  refine aA ?_
  have x37:=x6.trans x7
  have b7:=x37.at hb3
  have c7:=x37.at b3
  refine_lift bG ?_
  refine aM (n:=3) b7 rfl rfl rfl (by simp) (by decide +kernel) o7.sl.one ?_
  intro w8 p8
  have b8:w8.heap[w1.heap.size]? = some (.cells [.int .i64 k,u1,u2,r7].toArray 75 (0,0)):=p8.this
  have c8:=p8.at c7 (by omega)
  have o8:=o7.mv p8.mv (.inr (o7.neBlock b7 (by decide)))
  have x8:Ext w w8:=(hx3.trans x37).move p8.mv (by rintro k ⟨⟩;exact z2)
  have q8:=aE b8
  have s18:=h1.ext x8
  have s28:=h2.ext x8
  refine_lift dJ fun _ _ => ?_
  refine aG (v:=.agg #[.int .i64 k,u1,u2,r7]) rfl rfl rfl c8 (show aR Tryz.prog 75 4=true by decide +kernel) rfl (eR rfl s18.one s28.one o8.sl.one) ?_
  intro w9 p9
  refine_lift bG ?_
  refine bodyPost_ret (aU (cs:=[.int .i64 k,u1,u2,r7]) rfl rfl p9.this (show cP Tryz.prog 75 4=true by decide +kernel)) rfl ⟨_,rfl,x8.move p9.mv (by rintro k ⟨⟩;exact Nat.le_trans z2 x2.size),_,rfl,(o8.mv p9.mv (.inr (o8.neBlock c8 (by decide)))).weaken ?_⟩
  have:=x6.size
  have:=hx3.size
  omega
 ·have hk3:¬ k=3:=by assumption
  have hT:aO A=aO (nC k A U):=by rw [nC,if_neg hk3];simp [aO]
  have os6:=h13
  rw [hT] at os6
  have x6:=Ext.refl w3
  refine_lift bG ?_
  refine aK (enters_of Tryz.func136 rfl rfl) rfl rfl (GD o v u1 l (nC k A U) _ (hv3.ext x6) os6 hz (by unfold nC;rw [List.length_append];split <;> first | omega | (simp;omega)) hd hh) ?_
  intro r7 w7 x7 o7
  refine aA ?_
  have x37:=x6.trans x7
  have b7:=x37.at hb3
  have c7:=x37.at b3
  refine_lift bG ?_
  refine aM (n:=3) b7 rfl rfl rfl (by simp) (by decide +kernel) o7.sl.one ?_
  intro w8 p8
  have b8:w8.heap[w1.heap.size]? = some (.cells [.int .i64 k,u1,u2,r7].toArray 75 (0,0)):=p8.this
  have c8:=p8.at c7 (by omega)
  have o8:=o7.mv p8.mv (.inr (o7.neBlock b7 (by decide)))
  have x8:Ext w w8:=(hx3.trans x37).move p8.mv (by rintro k ⟨⟩;exact z2)
  have q8:=aE b8
  have s18:=h1.ext x8
  have s28:=h2.ext x8
  refine_lift dJ fun _ _ => ?_
  refine aG (v:=.agg #[.int .i64 k,u1,u2,r7]) rfl rfl rfl c8 (show aR Tryz.prog 75 4=true by decide +kernel) rfl (eR rfl s18.one s28.one o8.sl.one) ?_
  intro w9 p9
  refine_lift bG ?_
  refine bodyPost_ret (aU (cs:=[.int .i64 k,u1,u2,r7]) rfl rfl p9.this (show cP Tryz.prog 75 4=true by decide +kernel)) rfl ⟨_,rfl,x8.move p9.mv (by rintro k ⟨⟩;exact Nat.le_trans z2 x2.size),_,rfl,(o8.mv p9.mv (.inr (o8.neBlock c8 (by decide)))).weaken ?_⟩
  have:=x6.size
  have:=hx3.size
  omega
theorem KW {k:Int} {d:List UInt8} (hf:fits k d=true) (hk:oJ k=true):(aY k d).2=0:=by
 have h1:(k=2∨k=15)∨k=33:=by simpa [oJ] using hk
 have h2:(aY k d).2≠2:=by
  unfold fits at hf
  rw [if_neg (by omega),if_neg (by omega),if_neg (by omega),if_neg (by omega)] at hf
  simpa using hf
 have h3:¬ dY k < 0:=by
  unfold dY
  rcases h1 with (rfl | rfl) | rfl <;> decide
 unfold aY at *
 rw [if_neg h3] at *
 split at h2
 ·exact absurd rfl h2
 ·rename_i h4
  rw [if_neg h4]
  split at h2
  ·exact absurd rfl h2
  ·rfl
theorem OC {s:RSet} (h:fW s=true) {d:List UInt8} (hd:d ∈ s.data):fits s.kind d=true:=by
 obtain ⟨i,hi,he⟩:=List.mem_iff_getElem.1 hd
 cases hb:jU s i with
 | true=>rw [pI hi hb] at h;cases h
 | false =>
  simp only [jU,Bool.or_eq_false_iff,decide_eq_false_iff_not,Decidable.not_not] at hb
  have h1:=hb.1
  rw [List.getD_eq_getElem?_getD,List.getElem?_eq_getElem hi,Option.getD_some,he] at h1
  unfold bC at h1
  split at h1
  ·cases h1
  ·split at h1
   ·cases h1
   ·rename_i h5
    simp only [not_or,Bool.not_eq_false] at h5
    exact h5.2.2.2.2.2
def FromK (l:List RSet) (r:Rec):Prop:=∃ t ∈ l,r.kind=t.kind∧r.data ∈ t.data
theorem FromK.opt {l:List RSet} {n:List UInt8} {k:Int}:∀ r ∈ eO (bB l n k),FromK l r:=by
 intro r hr
 cases hf:bB l n k with
 | none=>rw [hf] at hr;cases hr
 | some s =>
  rw [hf] at hr
  obtain ⟨d,hd,rfl⟩:=List.mem_map.1 hr
  exact ⟨s,(kR hf).1,rfl,hd⟩
theorem FromK.sets {l:List RSet} (h:cX l=0) {n:List UInt8} {s:RSet} (hs:s ∈ aZ l n):∀ r ∈ cE s,FromK l r:=by
 intro r hr
 obtain ⟨d,hd,rfl⟩:=List.mem_map.1 hr
 obtain ⟨t,ht,e1,_,e,_⟩:=iY h hs
 exact ⟨t,ht,e1,by rw [← e];exact hd⟩
theorem zI {o:List UInt8} {l:List RSet} (h:cX l=0) (n:List UInt8) (k c:Int):(∀ r ∈ (bX o l n k c).ans,FromK l r)∧((bX o l n k c).kind=3→∀ r ∈ (bX o l n k c).auth,FromK l r):=by
 unfold bX
 split
 ·exact ⟨by simp,by simp⟩
 ·split
  ·exact ⟨by simp,fun _=>FromK.opt⟩
  ·split
   ·exact ⟨by simp,by simp⟩
   ·split
    ·rename_i h4
     split
     ·exact ⟨by simp,by simp⟩
     ·exact ⟨FromK.sets h (mW h4.1).1,by simp⟩
    ·split
     ·exact ⟨by simp,by simp⟩
     ·refine ⟨fun r hr => ?_,by simp⟩
      obtain ⟨s,hs,d,hd,rfl⟩:=vE hr
      exact FromK.sets h (List.mem_filter.1 hs).1 _ (List.mem_map_of_mem hd)
theorem BU {o:List UInt8} {l:List RSet} (h:cX l=0) (k:Int):∀ (f:Nat) (c:Int) (n:List UInt8),(∀ r ∈ (cT o l k f c n).ans,FromK l r)∧((cT o l k f c n).kind=3→∀ r ∈ (cT o l k f c n).auth,FromK l r)
 | 0,c,n=>by simp [cT]
 | f + 1,c,n=>by
   rw [cT]
   split
   ·obtain ⟨h1,h2⟩:=BU h k f (c + 1) (bX o l n k c).next
    refine ⟨fun r hr => ?_,h2⟩
    rcases List.mem_append.1 hr with hr | hr
    ·exact (zI h n k c).1 r hr
    ·exact h1 r hr
   ·exact zI h n k c
theorem iP {o:List UInt8} {l:List RSet} (h:cX l=0) (hl:l.length≤200) (k:Int):∀ (f:Nat) (c:Int) (n:List UInt8),(cT o l k f c n).ans.length≤20 * f + 4000∧(cT o l k f c n).auth.length≤20
 | 0,c,n=>by simp [cT]
 | f + 1,c,n=>by
   rw [cT]
   have hs:=FJ (o:=o) h hl n k c
   split
   ·rename_i hm
    have hi:=iP h hl k f (c + 1) (bX o l n k c).next (o:=o)
    have h5:=(BN h hm).2.2.2.2
    simp only [List.length_append]
    omega
   ·omega
theorem fS {o:List UInt8} {l:List RSet} (hz:ZoneOk o l) (k:Int) (f:Nat) (c:Int) (n:List UInt8):∀ r ∈ nC (cT o l k f c n).kind (cT o l k f c n).ans (cT o l k f c n).auth,r.data.length≤4611686018427387904∧(oJ r.kind=true→(aY r.kind r.data).2=0):=by
 intro r hr
 obtain ⟨h1,h2⟩:=BU (o:=o) hz.chk k f c n
 have hk:FromK l r:=by
  rcases List.mem_append.1 hr with hr | hr
  ·exact h1 r hr
  ·split at hr
   ·exact h2 ‹_› r hr
   ·cases hr
 obtain ⟨t,ht,e1,hd⟩:=hk
 have hm:=hz.may ht
 refine ⟨?_,fun h => ?_⟩
 ·have:=gD hz t ht _ hd
  omega
 ·exact KW (by rw [e1];exact OC hm hd) h
section
variable {P:Program} {ops:Array Oper} {Q Q':Exit→Act→World→Prop}
theorem KX {o:Oper} {a:Act} {next next':Act→World→Prop} (hn:∀ a w,next a w→next' a w) (hq:∀ e a w,Q e a w→Q' e a w) {r:Result Next} (h:o.upon P a next Q r):o.upon P a next' Q' r:=by
 cases r with
 | ok n w' =>
  cases n <;> simp only [Oper.upon] at h ⊢ <;>
   first
    | exact hn _ _ h
    | exact Calls.mono h (fun e w'' he=>by cases e <;> first | exact hn _ _ he | exact hq _ _ _ he | exact (let ⟨a,w,q⟩:=he;⟨a,w,hq _ _ _ q⟩))
    | exact Rows.mono h (fun _ _ he=>hn _ _ he)
 | halt x w'=>cases x <;> simp only [Oper.upon] at h ⊢ <;> exact hq _ _ _ h
theorem qA (hq:∀ e a w,Q e a w→Q' e a w):∀ (rest:List Oper) (a:Act) (w:World),wpList P ops Q rest a w→wpList P ops Q' rest a w
 | [],a,w,h=>hq _ _ _ h
 | o :: rest,a,w,h=>by
   unfold wpList at h ⊢
   split
   ·rename_i c
    rw [if_pos c] at h
    rcases h with h | ⟨h1,h2⟩
    ·exact .inl (KX (fun a w hh=>qA hq rest a w hh) hq h)
    ·exact .inr ⟨h1,let ⟨a,w,q⟩:=h2;⟨a,w,hq _ _ _ q⟩⟩
   ·rename_i c
    rw [if_neg c] at h
    exact qA hq rest _ _ h
theorem JC {J:Act→World→Prop} {rest:List Oper} {a:Act} {w:World} (h:wpList P ops (fun e a w=>(e=.normal∧J a w)∨(e≠.normal∧Q e a w)) rest a w) (k:∀ a w,J a w→Q .normal a w):wpList P ops Q rest a w:=by
 refine qA (fun e a w hh => ?_) rest a w h
 rcases hh with ⟨rfl,hh⟩ | ⟨_,hh⟩
 ·exact k a w hh
 ·exact hh
end
theorem GE {α:Type} {l:List α} {n:Nat} (h:l.length=n) (d:α):l=(List.range n).map fun i=>l.getD i d:=by
 apply List.ext_getElem?
 intro i
 by_cases hi:i < n
 ·rw [List.getElem?_eq_getElem (by omega),List.getElem?_map,List.getElem?_range hi]
  simp [List.getD_eq_getElem?_getD,List.getElem?_eq_getElem (show i < l.length by omega)]
 ·rw [List.getElem?_eq_none (by omega),List.getElem?_eq_none (by simp;omega)]
end Go.Proofs.X
