/- Laws and walks that the proof of the statement is made of (part 6). -/
import Derived.Test.YtgljkfpcadempaaGreatP5
set_option linter.unusedSimpArgs false
set_option linter.unusedVariables false
namespace Go.Proofs.X
open Go.RowKit
set_option maxRecDepth 100000
set_option maxHeartbeats 6000000 in
theorem YT (v:Value) (l:List (List UInt8)) (w:World) (hv:Sl 1 w v (aP l)) (hl:l.length≤8796093022208):Calls Tryz.prog 162 #[v] w (oA w fun v' w'=>Own w.heap.size 1 9 w' v' (aP l)):=by
 have hlen:=bA l
 go_enter Tryz.func162,Tryz.ntmps162
 (repeat' first | ((with_reducible refine cY ?_);go_step) | ((with_reducible refine cJ ?_);first | refine eS ?_ | (refine dD ?_ ?_ <;> intro hc)) | fail)
 ·have hn:=‹DQ v=true›
  go_ret
  have:aP l=[]:=hv.isNil hn
  refine ⟨_,rfl,Ext.refl _,?_⟩
  rw [this]
  exact Own.nil _ _ _ _
 ·refine rH (t:=93) (e:=9) (k:=1) (bytes:=16) (by decide +kernel) rfl ?_
  intro v2 w2 x2 s2 o2
  refine aA ?_
  refine_lift bR ?_
  refine kX (B:=w.heap.size) (e:=9) (k:=1) (bytes:=16) (es:=[]) (fs:=aP l) rfl o2 rfl (hv.ext x2) (by decide +kernel) (by simp [aP,aI,Value.oneCell']) (by omega) (by simp;omega) (by simp;omega) ?_
  intro v3 w3 o3 m3
  have x3:=o2.mvx m3 x2 (Nat.le_refl _)
  refine_lift bR ?_
  go_ret
  exact ⟨_,rfl,x3,o3⟩
def iB (l:List RSet) (i:Nat):Bool:=match l[i]? with
 | none=>false
 | some s => !fW s || (decide (0 < i) && decide (0≤eJ (l.getD (i - 1) default).name s.name (l.getD (i - 1) default).kind s.kind))
def cX (l:List RSet):Int:=if 200 < l.length then 1 else if (List.range l.length).all (fun i => !iB l i)=true then 0 else 1
theorem nN {l:List RSet} {i:Nat} (hi:i < l.length) (h:iB l i=true):cX l=1:=by
 have:(List.range l.length).all (fun i => !iB l i)=false:=by
  rw [List.all_eq_false]
  exact ⟨i,by simpa using hi,by simp [h]⟩
 rw [cX,this]
 split <;> rfl
set_option maxHeartbeats 12000000 in
theorem YU (v:Value) (l:List RSet) (w:World) (hv:SetsAt w v l):Calls Tryz.prog 111 #[v] w (bM w (.int .i64 (cX l))):=by
 obtain ⟨cv,hv1,hvl⟩:=hv.sl
 have hle:=hv1.le
 go_enter Tryz.func111,Tryz.ntmps111
 refine_lift DY (fun _ _ _ => ?_) (fun _ => ?_)
 ·go_ret
  refine ⟨?_,Ext.refl _⟩
  rw [cX,if_pos (by omega)]
  rfl
 ·go_loopw [3,4,10] (fun _ _ i wr=>∃ k:Nat,k≤l.length∧i=.int .i64 k∧Ext w wr∧∀ j,j < k→iB l j=false) (fun _ _ i _=>l.length - (intOf i).toNat)
  case atStart=>exact ⟨0,Nat.zero_le _,rfl,Ext.refl _,by omega⟩
  case round =>
   obtain ⟨k,hk,rfl,hx,hall⟩:=hrel
   have hv2:=hv1.ext hx
   by_cases hlt:k < l.length
   ·obtain ⟨x,h1,h1d⟩:=(hv.ext hx).elem (List.getElem?_eq_getElem hlt)
    have hbad:iB l k=(!fW l[k] || (decide (0 < k) && decide (0≤eJ (l.getD (k - 1) default).name l[k].name (l.getD (k - 1) default).kind l[k].kind))):=by
     rw [iB,List.getElem?_eq_getElem hlt]
    refine_lift xG ?_;intro _ _ _ _ _ _
    refine aL (z:=[aI [], .int .i64 0, .int .i64 0, .slice none 0 0]) rfl (by decide +kernel) ?_
    intro w2 x2 s2 h2
    refine_lift bR ?_
    refine aG (v:=.agg #[aI l[k].name, .int .i64 l[k].kind, .int .i64 l[k].ttl,x]) rfl rfl rfl h2 (show aR Tryz.prog 131 4=true by decide +kernel) rfl ?_ ?_
    ·exact eR rfl rfl rfl h1d.one
    intro w3 p3
    have x3:Ext wr w3:=x2.move p3.mv (by rintro k ⟨⟩;exact Nat.le_refl _)
    have hp4:=aE (cs:=[aI l[k].name, .int .i64 l[k].kind, .int .i64 l[k].ttl,x]) p3.this
    clear p3 h2 x2
    refine_lift dR fun _ _ => ?_
    refine dS (S:=Ext w3) (by decide +kernel) ?_
    intro w4 x4 _
    refine tk 0 ?_;refine aA ?_
    refine cA (i:=1) (by decide +kernel) rfl rfl ?_
    refine aD (enters_of Tryz.func161 rfl rfl) rfl rfl (YS l[k] _ _ (h1d.ext (x3.trans x4))) ?_;intro w5 x5;refine aA ?_
    refine aJ ⟨by exact eU,?_⟩
    cases hm:fW l[k] with
    | false =>
     rw [hm] at hbad
     refine tk 2 ?_;refine aA ?_
     try simp only [Bool.not_false]
     refine tk 3 ?_;refine aA ?_
     refine gS 4 ?_;refine aA ?_;refine gS 5 ?_;refine aA ?_;refine gS 6 ?_;refine aA ?_;refine gS 7 ?_;refine aA ?_;refine gS 8 ?_;refine aA ?_;refine gS 9 ?_;refine aA ?_;refine gS 10 ?_;refine aA ?_;refine gS 11 ?_;refine aA ?_;refine gS 12 ?_;refine aA ?_;refine gS 13 ?_;refine aA ?_;refine gS 14 ?_;refine aA ?_;refine gS 15 ?_;refine aA ?_
     refine tk 16 ?_;refine aA ?_
     refine dK (by decide +kernel) ?_
     refine_lift bR ?_
     go_ret
     refine ⟨?_,by exact eU⟩
     rw [nN hlt (by rw [hbad];rfl)]
     rfl
    | true =>
     rw [hm] at hbad
     refine tk 2 ?_;refine aA ?_
     try simp only [Bool.not_true]
     refine tk 3 ?_;refine aA ?_;refine tk 4 ?_;refine aA ?_;refine tk 5 ?_;refine aA ?_
     by_cases hk0:0 < k
     ·have e5:decide ((0:Int) < (k:Int))=true:=decide_eq_true (by omega)
      have e6:decide (0 < k)=true:=decide_eq_true hk0
      simp only [e5]
      rw [e6] at hbad
      have hkl:k - 1 < l.length:=by omega
      have hgd:l.getD (k - 1) default=l[k - 1]:=by simp [hkl]
      obtain ⟨y,h9',h9d⟩:=(hv.ext hx).elem (List.getElem?_eq_getElem hkl)
      have e9:((k:Int) - 1).toNat=k - 1:=by omega
      have h9:Pts wr (dN v (((k:Int) - 1).toNat * 4)) [aI l[k - 1].name, .int .i64 l[k - 1].kind, .int .i64 l[k - 1].ttl,y]:=by rw [e9];exact h9'
      rw [hgd] at hbad
      refine tk 6 ?_;refine aA ?_;refine tk 7 ?_;refine aA ?_;refine tk 8 ?_;refine aA ?_;refine tk 9 ?_;refine aA ?_;refine tk 10 ?_;refine aA ?_;refine tk 11 ?_;refine aA ?_;refine tk 12 ?_;refine aA ?_
      refine cA (i:=13) (by decide +kernel) rfl rfl ?_
      refine aD (enters_of Tryz.func110 rfl rfl) rfl rfl (XT _ _ _ _ _ _ _ _ _) ?_;intro w6 x6;refine aA ?_
      refine aJ ⟨by exact eU,?_⟩
      refine tk 14 ?_;refine aA ?_;refine tk 15 ?_;refine aA ?_;refine tk 16 ?_;refine aA ?_
      refine dK (by decide +kernel) ?_
      by_cases hc:0≤eJ l[k - 1].name l[k].name l[k - 1].kind l[k].kind
      ·have e7:decide (0≤eJ l[k - 1].name l[k].name l[k - 1].kind l[k].kind)=true:=decide_eq_true hc
       simp only [e7]
       refine_lift bR ?_
       go_ret
       refine ⟨?_,by exact eU⟩
       rw [nN hlt (by rw [hbad,e7];rfl)]
       rfl
      ·have e7:decide (0≤eJ l[k - 1].name l[k].name l[k - 1].kind l[k].kind)=false:=decide_eq_false hc
       simp only [e7]
       refine_lift bR ?_
       exact ⟨⟨k + 1,by omega,rfl,by exact eU,fun j hj=>by
        rcases Nat.lt_or_ge j k with h | h
        ·exact hall j h
        ·have:j=k:=by omega
         subst this
         rw [hbad,e7];rfl⟩,by simp [intOf];omega⟩
     ·have e5:decide ((0:Int) < (k:Int))=false:=decide_eq_false (by omega)
      have e6:decide (0 < k)=false:=decide_eq_false hk0
      simp only [e5]
      rw [e6] at hbad
      refine tk 6 ?_;refine aA ?_
      refine gS 7 ?_;refine aA ?_;refine gS 8 ?_;refine aA ?_;refine gS 9 ?_;refine aA ?_;refine gS 10 ?_;refine aA ?_;refine gS 11 ?_;refine aA ?_;refine gS 12 ?_;refine aA ?_;refine gS 13 ?_;refine aA ?_;refine gS 14 ?_;refine aA ?_
      refine tk 15 ?_;refine aA ?_;refine tk 16 ?_;refine aA ?_
      refine dK (by decide +kernel) ?_
      refine_lift bR ?_
      exact ⟨⟨k + 1,by omega,rfl,by exact eU,fun j hj=>by
       rcases Nat.lt_or_ge j k with h | h
       ·exact hall j h
       ·have:j=k:=by omega
        subst this
        rw [hbad];rfl⟩,by simp [intOf];omega⟩
   ·have hk2:k=l.length:=by omega
    subst hk2
    refine_lift jP fun _ => ?_
    go_ret
    refine ⟨?_,by exact eU⟩
    have:(List.range l.length).all (fun i => !iB l i)=true:=by
     rw [List.all_eq_true]
     intro i hi
     simp [hall i (by simpa using hi)]
    rw [cX,this,if_neg (by omega)]
    rfl
def LA (n:List UInt8) (k:Int) (s:RSet):Bool:=decide (s.name=n) && decide (s.kind=k)
def bB (l:List RSet) (n:List UInt8) (k:Int):Option RSet:=l.find? (LA (fold n) k)
def fX:List Value:=[aI [], .int .i64 0, .int .i64 0, .slice none 0 0]
theorem qG {α:Type} {p:α→Bool} {l:List α} {k:Nat} (h:k < l.length) (ha:(l.take k).find? p=none) (hp:p l[k]=false):(l.take (k + 1)).find? p=none:=by
 rw [List.take_add_one,List.getElem?_eq_getElem h,List.find?_append,ha]
 simp [hp]
theorem CE {α:Type} {p:α→Bool} {l:List α} {k:Nat} (h:k < l.length) (ha:(l.take k).find? p=none) (hp:p l[k]=true):l.find? p=some l[k]:=by
 have e:l=l.take k ++ (l[k] :: l.drop (k + 1)):=by rw [← List.drop_eq_getElem_cons h,List.take_append_drop]
 have:l.find? p=(l.take k ++ (l[k] :: l.drop (k + 1))).find? p:=congrArg _ e
 rw [this,List.find?_append,ha,List.find?_cons,hp]
 rfl
set_option maxHeartbeats 12000000 in
theorem TP (v:Value) (l:List RSet) (n:List UInt8) (kd:Int) (w:World) (hv:SetsAt w v l) (hb:∀ s ∈ l,s.data.length≤8796093022208):Calls Tryz.prog 112 #[v,aI n, .int .i64 kd] w (oA w fun r w'=>match bB l n kd with
 | some s=>∃ x,r=.tuple #[.agg #[aI s.name, .int .i64 s.kind, .int .i64 s.ttl,x], .bool true]∧Own w.heap.size 1 9 w' x (aP s.data)
 | none=>r=.tuple #[.agg fX.toArray, .bool false]):=by
 obtain ⟨cv,hv1,hvl⟩:=hv.sl
 have hle:=hv1.le
 go_enter Tryz.func112,Tryz.ntmps112
 refine_lift zN ?_;intro _ _ _
 refine aL (z:=fX) rfl (by decide +kernel) ?_
 intro w1 x1 s1 h1
 refine_lift dR fun _ _ => ?_
 refine aD (enters_of Tryz.func32 rfl rfl) rfl rfl (LR _ _) ?_;intro w2 x2;refine aA ?_
 have h2:=x2.at h1
 have x12:Ext w w2:=x1.trans x2
 refine_lift dR fun _ _ => ?_
 have hv2:=hv1.ext x12
 refine_lift bR ?_
 go_loopw [9,14] (fun _ i wr=>∃ k:Nat,k≤l.length∧i=.int .i64 k∧Ext w2 wr∧(l.take k).find? (LA (fold n) kd)=none) (fun _ i _=>l.length - (intOf i).toNat)
 case atStart=>exact ⟨0,Nat.zero_le _,rfl,Ext.refl _,rfl⟩
 case round =>
  obtain ⟨k,hk,rfl,hx,hall⟩:=hrel
  have hxw:Ext w wr:=x12.trans hx
  have hv2:=hv1.ext hxw
  have h3:=hx.at h2
  by_cases hlt:k < l.length
  ·obtain ⟨x,h4,h4d⟩:=(hv.ext hxw).elem (List.getElem?_eq_getElem hlt)
   have hbk:=hb _ (List.getElem_mem hlt)
   refine_lift xG ?_;intro _ _ _ _ _ _
   refine aL (z:=fX) rfl (by decide +kernel) ?_
   intro w5 x5 s5 h5
   refine_lift bR ?_
   refine aG (v:=.agg #[aI l[k].name, .int .i64 l[k].kind, .int .i64 l[k].ttl,x]) rfl rfl rfl h5 (show aR Tryz.prog 131 4=true by decide +kernel) rfl (eR rfl rfl rfl h4d.one) ?_
   intro w6 p6
   have x6:Ext wr w6:=x5.move p6.mv (by rintro k ⟨⟩;exact Nat.le_refl _)
   have b6:=p6.this
   have hp6:=aE (cs:=[aI l[k].name, .int .i64 l[k].kind, .int .i64 l[k].ttl,x]) b6
   have z6:w6.heap.size=wr.heap.size + 1:=p6.size.trans s5
   clear p6 h5 x5
   refine_lift DZ (fun hc _ => ?_) (fun hc => ?_) (fun hc _ _ _ => ?_)
   ·have hh:bB l n kd=some l[k]:=CE hlt hall (by have h1:=‹l[k].name=fold n›;have h2:=‹l[k].kind=kd›;simp [LA,h1,h2])
    refine aK (enters_of Tryz.func162 rfl rfl) rfl rfl (YT x l[k].data _ (h4d.ext x6) hbk) ?_
    intro y w7 x7 o7
    refine aA ?_
    refine_lift bR ?_
    have b7:=x7.at b6
    refine aM (cs:=[aI l[k].name, .int .i64 l[k].kind, .int .i64 l[k].ttl,x]) b7 rfl rfl rfl (by simp) (by decide +kernel) o7.one ?_
    intro w8 p8
    have x68:Ext wr w8:=(x6.trans x7).move p8.mv (by rintro k ⟨⟩;exact Nat.le_refl _)
    have hp8:=aE (cs:=[aI l[k].name, .int .i64 l[k].kind, .int .i64 l[k].ttl,y]) p8.this
    have h8:=x68.at h3
    have o8:Own (w.heap.size + 1) 1 9 w8 y (aP l[k].data):=(o7.put p8 (by omega)).weaken (by have:=hx.size;have:=x2.size;omega)
    clear hp6 b6 b7 p8
    refine_lift dR fun _ _ => ?_
    refine aG (v:=.agg #[aI l[k].name, .int .i64 l[k].kind, .int .i64 l[k].ttl,y]) rfl rfl rfl h8 (show aR Tryz.prog 131 4=true by decide +kernel) rfl (eR rfl rfl rfl o7.one) ?_
    intro w9 p9
    have x9:Ext w w9:=(hxw.trans x68).move p9.mv (by rintro k ⟨⟩;exact Nat.le_refl _)
    have o9:Own (w.heap.size + 1) 1 9 w9 y (aP l[k].data):=o8.put p9 (by omega)
    refine_lift bR ?_
    refine bodyPost_ret (aU (cs:=[aI l[k].name, .int .i64 l[k].kind, .int .i64 l[k].ttl,y]) rfl rfl p9.this (show cP Tryz.prog 131 4=true by decide +kernel)) rfl ⟨_,rfl,x9,?_⟩
    rw [hh]
    exact ⟨y,rfl,o9.weaken (by omega)⟩
   ·exact ⟨⟨k + 1,by omega,rfl,by exact eU,qG hlt hall (by have h2:=‹¬l[k].kind=kd›;simp [LA,h2])⟩,by simp [intOf];omega⟩
   ·exact ⟨⟨k + 1,by omega,rfl,by exact eU,qG hlt hall (by have h2:=‹¬l[k].name=fold n›;simp [LA,h2])⟩,by simp [intOf];omega⟩
  ·have hk2:k=l.length:=by omega
   subst hk2
   rw [List.take_length] at hall
   refine_lift zO fun _ _ _ => ?_
   refine cH rfl (Runs.build0 (cells:=fX.toArray) (by kernel_rfl)) ?_
   refine aA ?_
   refine aG (v:=.agg fX.toArray) rfl rfl rfl h3 (show aR Tryz.prog 131 4=true by decide +kernel) rfl (eR rfl rfl rfl rfl) ?_
   intro w4 p4
   have x4:Ext w w4:=hxw.move p4.mv (by rintro k ⟨⟩;exact Nat.le_refl _)
   refine_lift bR ?_
   refine bodyPost_ret (aU (cs:=fX) rfl rfl p4.this (by decide +kernel)) rfl ⟨_,rfl,x4,?_⟩
   have hh:bB l n kd=none:=hall
   rw [hh]
   rfl
def mQ (s:RSet) (d:List UInt8):Rec:=⟨s.name,s.kind,s.ttl,d⟩
def cE (s:RSet):List Rec:=s.data.map (mQ s)
def aX (l:List RSet):List Rec:=(l.map cE).flatten
theorem fR {α β:Type} {f:α→β} {l:List α} {k:Nat} (h:k < l.length):(l.take (k + 1)).map f=(l.take k).map f ++ [f l[k]]:=by
 rw [List.take_add_one,List.getElem?_eq_getElem h,List.map_append]
 simp
theorem CF {α:Type} (L:List (List α)) (k:Nat):(L.take k).flatten.length≤L.flatten.length:=by
 conv=>rhs;rw [← List.take_append_drop k L,List.flatten_append]
 simp
def jI (l:List RSet) (k:Nat):List Rec:=((l.take k).map cE).flatten
theorem nO {l:List RSet} {k:Nat} (h:k < l.length):jI l (k + 1)=jI l k ++ cE l[k]:=by
 rw [jI,fR h,List.flatten_append]
 simp [jI]
theorem ED (l:List RSet) (k:Nat):(jI l k).length≤(aX l).length:=by
 rw [jI,aX,List.map_take]
 exact CF _ _
theorem AO (l:List RSet):jI l l.length=aX l:=by rw [jI,List.take_length,aX]
set_option maxHeartbeats 12000000 in
theorem UM (v:Value) (l:List RSet) (w:World) (hv:SetsAt w v l) (hb:(aX l).length≤1000000):Calls Tryz.prog 119 #[v] w (oA w fun r w'=>Own w.heap.size 4 106 w' r (aO (aX l))):=by
 obtain ⟨cv,hv1,hvl⟩:=hv.sl
 have hle:=hv1.le
 go_enter Tryz.func119,Tryz.ntmps119
 refine_lift zO ?_;intro _ _ _
 go_loopw [3,5,7,10,17] (fun o _ _ i _ wr=>∃ k:Nat,k≤l.length∧i=.int .i64 k∧Ext w wr∧Own w.heap.size 4 106 wr o (aO (jI l k))) (fun _ _ _ i _ _=>l.length - (intOf i).toNat)
 case atStart=>exact ⟨0,Nat.zero_le _,rfl,Ext.refl _,Own.nil _ _ _ _⟩
 case round =>
  obtain ⟨k,hk,rfl,hx,ho⟩:=hrel
  have hv2:=hv1.ext hx
  by_cases hlt:k < l.length
  ·obtain ⟨x,h4,h4d⟩:=hv.elem (List.getElem?_eq_getElem hlt)
   have hdl:=bA l[k].data
   have hdle:=h4d.le
   have hlo:=hx.size
   refine_lift xG ?_;intro _ _ _ _ _ _
   refine aL (z:=fX) rfl (by decide +kernel) ?_
   intro w5 x5 s5 h5
   refine_lift bR ?_
   refine aG (v:=.agg #[aI l[k].name, .int .i64 l[k].kind, .int .i64 l[k].ttl,x]) rfl rfl rfl h5 (show aR Tryz.prog 131 4=true by decide +kernel) rfl (eR rfl rfl rfl h4d.one) ?_
   intro w6 p6
   have x6:Ext wr w6:=x5.move p6.mv (by rintro k ⟨⟩;exact Nat.le_refl _)
   have b6:w6.heap[wr.heap.size]? = some (.cells [aI l[k].name, .int .i64 l[k].kind, .int .i64 l[k].ttl,x].toArray 131 (0,0)):=p6.this
   have z6:wr.heap.size < w6.heap.size:=by have:=p6.size;omega
   have o6:=ho.ext x6
   have xw6:=hx.trans x6
   have hne6:u3.ownBlock≠some wr.heap.size:=fun e=>by have:=ho.block _ e;omega
   clear p6 h5 x5 s5
   have hp6:=aE b6
   refine_lift bR ?_
   clear hp6
   generalize wr.heap.size=b at b6 z6 hne6 hlo ⊢
   go_loopw [3,7,17] (fun o _ i wq=>∃ j:Nat,j≤l[k].data.length∧i=.int .i64 j∧Ext w wq∧b < wq.heap.size∧wq.heap[b]? = some (.cells [aI l[k].name, .int .i64 l[k].kind, .int .i64 l[k].ttl,x].toArray 131 (0,0))∧o.ownBlock≠some b∧Own w.heap.size 4 106 wq o (aO (jI l k ++ (l[k].data.take j).map (mQ l[k])))) (fun _ _ i _=>l[k].data.length - (intOf i).toNat)
   case atStart=>exact ⟨0,Nat.zero_le _,rfl,xw6,z6,b6,hne6,by simpa using o6⟩
   case round =>
    obtain ⟨j,hj,rfl,hxq,hz,hbq,hne,hoq⟩:=hrel
    have hpq:=aE hbq
    by_cases hlt2:j < l[k].data.length
    ·have h3:=h4d.elem (fM hlt2)
     have hle1:=ED l (k + 1)
     rw [nO hlt,List.length_append] at hle1
     have hle2:(cE l[k]).length=l[k].data.length:=by simp [cE]
     have hcl:(aO (jI l k ++ (l[k].data.take j).map (mQ l[k]))).length=(jI l k).length + j:=by simp [aO];omega
     refine_lift oQ ?_;intro _ _ _ _
     refine aD (enters_of Tryz.func172 rfl rfl) rfl rfl (XS l[k] x l[k].data[j] _) ?_;intro w7 x7;refine aA ?_
     refine_lift bR ?_
     refine bN (e:=106) (k:=4) (bytes:=48) (xs:=[.agg #[aI l[k].name, .int .i64 l[k].kind, .int .i64 l[k].ttl,aI l[k].data[j]]]) rfl rfl rfl (by simp [Value.cells]) (by decide +kernel) (by simp) ?_
     intro v8 w8 x8 s8 sl8 _
     refine aA ?_
     refine_lift bR ?_
     refine fY (B:=w.heap.size) (e:=106) (k:=4) (bytes:=48) rfl (hoq.ext (x7.trans x8)) rfl sl8 (by decide +kernel) (by simp [Value.cells,aI,Value.oneCell']) (by have:=hxq.size;have:=x7.size;omega) (by rw [hcl];simp;omega) (by rw [hcl];simp;omega) ?_
     intro v9 w9 o9 m9 k9
     have hb8:=(x7.trans x8).at hbq
     have hb9:=m9.at hb8 (fun e=>hne e.symm)
     have x9:Ext w w9:=(hoq.ext (x7.trans x8)).mvx m9 (hxq.trans (x7.trans x8)) (Nat.le_refl _)
     refine_lift bR ?_
     refine ⟨⟨j + 1,by omega,rfl,x9,?_,hb9,?_,?_⟩,by simp [intOf];omega⟩
     ·have:=x7.size;have:=x8.size;have:=m9.size;omega
     ·rcases k9 with h | h
      ·rw [h];exact hne
      ·rw [h];intro e;have:=Option.some.inj e;have:=x7.size;omega
     ·rw [fR hlt2,← List.append_assoc]
      simpa [aO,mQ,Rec.cells,Value.cells] using o9
    ·have hj2:j=l[k].data.length:=by omega
     subst hj2
     refine_lift jP fun _ => ?_
     exact ⟨⟨k + 1,by omega,rfl,hxq,by rw [nO hlt];rw [List.take_length] at hoq;exact hoq⟩,by simp [intOf];omega⟩
  ·have hk2:k=l.length:=by omega
   subst hk2
   refine_lift jP fun _ => ?_
   go_ret
   refine ⟨_,rfl,hx,?_⟩
   rw [AO] at ho
   exact ho
def AP (r:Rec):Bool:=decide (bC r=0)
def mR (s:RSet):RSet:=⟨s.name,s.kind,s.ttl,Lib.compact (s.data.mergeSort fun x y=>decide (x≤y))⟩
theorem kF {n:List UInt8} {r:Rec} (h:bC r=0):(aV r.name).isSome=true∧1≤r.kind∧r.kind≤65535:=by
 unfold bC at h
 split at h
 ·omega
 ·split at h
  ·omega
  ·split at h
   ·rename_i h1;exact ⟨h1,by omega,by omega⟩
   ·omega
theorem sQ (n:List UInt8) (h:(aV n).isSome=true):(fold n).length≤254:=by
 unfold fold
 cases hl:aV n with
 | none=>rw [hl] at h;cases h
 | some ls =>
  simp only
  cases hj:jG (ls.map low) with
  | none=>simp
  | some m =>
   unfold jG at hj
   split at hj
   ·rename_i hh;cases hj;simpa using hh.2
   ·cases hj
theorem EF {w:World} {a b t t':Nat} {x y:Array Value} {f f':Nat × Nat} (ha:w.heap[a]? = some (.cells x t f)) (hb:w.heap[b]? = some (.cells y t' f')) (h:t≠t'):a≠b:=by
 rintro rfl
 rw [ha] at hb
 simp only [Option.some.injEq,Obj.cells.injEq] at hb
 exact h hb.2.1
theorem lI {gcs:List GC} {i:Nat} {c c':GC} (hi:gcs[i]? = some c) (h:c'.key=c.key):(gcs.set i c').map GC.key=gcs.map GC.key:=by
 rw [List.map_set,h]
 apply List.ext_getElem?
 intro j
 by_cases e:i=j
 ·subst e
  rw [List.getElem?_set_self (by simpa using (List.getElem?_eq_some_iff.1 hi).1),List.getElem?_map,hi];rfl
 ·rw [List.getElem?_set_ne e]
theorem nP {gcs:List GC} {i:Nat} {c c':GC} (hi:gcs[i]? = some c) (h:c'.kcells=c.kcells):(gcs.set i c').map GC.kcells=gcs.map GC.kcells:=by
 rw [List.map_set,h]
 apply List.ext_getElem?
 intro j
 by_cases e:i=j
 ·subst e
  rw [List.getElem?_set_self (by simpa using (List.getElem?_eq_some_iff.1 hi).1),List.getElem?_map,hi];rfl
 ·rw [List.getElem?_set_ne e]
theorem xX (l:List Rec):∀ (l2:List Rec) (gs:List RSet),(∀ s:RSet,s ∈ gs→∃ r ∈ l,s.name=fold r.name∧s.kind=r.kind)→(∀ r ∈ l2,r ∈ l)→∀ s:RSet,s ∈ l2.foldl eD gs→∃ r ∈ l,s.name=fold r.name∧s.kind=r.kind
 | [],gs,h,_=>h
 | r :: l2,gs,h,hsub=>by
   refine xX l l2 _ (fun s hs => ?_) (fun r hr=>hsub r (by simp [hr]))
   rcases rM hs with ⟨t,ht,e1,e2⟩ | ⟨e1,e2⟩
   ·obtain ⟨r,hr,f1,f2⟩:=h t ht
    exact ⟨r,hr,by rw [← e1,f1],by rw [← e2,f2]⟩
   ·exact ⟨r,hsub r (by simp),e1,e2⟩
theorem AQ {l:List Rec} {s:RSet} (h:s ∈ dC l):∃ r ∈ l,s.name=fold r.name∧s.kind=r.kind :=
 xX l l [] (by simp) (fun _ h=>h) s h
theorem JQ (r:Rec):bC r=0∨bC r=1:=by
 unfold bC
 split
 ·exact .inr rfl
 ·split
  ·exact .inr rfl
  ·split
   ·exact .inl rfl
   ·exact .inr rfl
def eV (l:List Rec):List RSet:=(dC l).map mR
def LX (s:RSet):Bool:=decide (20 < s.data.length)
def iK (l:List Rec):Int:=if l.all AP=false then 1 else if (eV l).any LX=true then 4 else if 200 < (eV l).length then 4 else 0
def rN (l:List RSet):Prop:=∀ (i j:Nat) (s t:RSet),i < j→l[i]? = some s→l[j]? = some t→0≤eJ t.name s.name t.kind s.kind
def GX (l:List Rec) (r:Value) (w':World):Prop :=
 if iK l=0 then ∃ out v,r=.tuple #[v, .int .i64 0]∧out.Perm (eV l)∧rN out∧SetsAt w' v out else r=.tuple #[.slice none 0 0, .int .i64 (iK l)]
def GroupO (B:Nat) (l:List Rec) (r:Value) (w':World):Prop :=
 if iK l=0 then ∃ out v,r=.tuple #[v, .int .i64 0]∧out.Perm (eV l)∧rN out∧SetsO B w' v out else r=.tuple #[.slice none 0 0, .int .i64 (iK l)]
theorem GroupO.group {B:Nat} {l:List Rec} {r:Value} {w':World} (h:GroupO B l r w'):GX l r w':=by
 unfold GroupO at h
 unfold GX
 split at h
 ·rename_i h0
  rw [if_pos h0]
  obtain ⟨out,v,h1,h2,h3,h4⟩:=h
  exact ⟨out,v,h1,h2,h3,h4.sets⟩
 ·rename_i h0
  rw [if_neg h0]
  exact h
def vA:Value→Option Addr | .slice a _ _=>a | _=>none
def vN:Value→Nat | .slice _ n _=>n | _=>0
def vC:Value→Nat | .slice _ _ c=>c | _=>0
def GC.toC (c:GC):SetC:=⟨c.s.name,c.s.kind,c.s.ttl,vA c.v,vN c.v,vC c.v,c.s.data⟩
def SetC.toS (s:SetC):RSet:=⟨s.name,s.kind,s.ttl,s.d⟩
theorem Sl.isSlice {k:Nat} {w:World} {v:Value} {es:List (List Value)} (h:Sl k w v es):v=.slice (vA v) (vN v) (vC v):=by
 obtain ⟨a,cap,rfl,_⟩:=h;rfl
theorem GC.toC_cells {w:World} {B:Nat} {c:GC} (h:GOK w B c):c.toC.cells=c.cells:=by
 simp only [SetC.cells,GC.toC,GC.cells,SetC.v,← h.own.sl.isSlice]
theorem L1.mvOut {w0 w w':World} {kv out:Value} {gcs:List GC} {es:List (List Value)} (h:L1 w0 w kv gcs) (m:Mv out.ownBlock w w') (ho:Own (w0.heap.size + 1) 4 131 w out es) (hob:∀ c ∈ gcs,out.ownBlock≠some c.b):L1 w0 w' kv gcs:=by
 obtain ⟨es',ck,hm1,_⟩:=h.map.out
 refine ⟨h.ext.move m (fun k hk=>by have:=(ho.block k hk).1;omega),h.map.at (fun o hh=>m.at hh (fun e=>ho.neMap hm1 e.symm)),h.keys.mv m (h.keys.ne ho (by omega)),h.sets.mv m fun c hc=>⟨fun e=>hob c hc e.symm,(h.sets.each c hc).own.ne ho (by omega)⟩⟩
set_option maxHeartbeats 24000000 in
theorem XU (v:Value) (l:List Rec) (w:World) (hv:Sl 4 w v (aO l)) (hl:l.length≤10000):Calls Tryz.prog 60 #[v] w (oA w (GroupO w.heap.size l)):=by
 have hle:=aQ l
 go_enter Tryz.func60,Tryz.ntmps60
 refine_lift lF fun _ _ => ?_
 refine_lift dR fun _ _ => ?_
 refine oU (kt:=166) rfl ?_
 intro w1 x1 s1 h1
 refine aA ?_
 refine_lift dR fun _ _ => ?_
 go_loopw [5,7,8,9,10,11,19] (fun kv _ _ _ _ _ i wr=>∃ (k:Nat) (gcs:List GC),k≤l.length∧i=.int .i64 k∧L1 w wr kv gcs∧(l.take k).all AP=true∧gcs.map GC.s=dC (l.take k)) (fun _ _ _ _ _ _ i _=>l.length - (intOf i).toNat)
 case atStart=>exact ⟨0,[],Nat.zero_le _,rfl,⟨x1,h1,Own.nil _ _ _ _,⟨by simp,by simp⟩⟩,rfl,rfl⟩
 case round =>
  obtain ⟨k,gcs,hk,rfl,hL,hall,hgs⟩:=hrel
  have hx:=hL.ext
  have hv2:=hv.ext hx
  by_cases hlt:k < l.length
  ·have hp:=hv2.elem (gJ hlt)
   refine_lift xG ?_;intro _ _ _ _ _ _
   refine aL (z:=[aI [], .int .i64 0, .int .i64 0,aI []]) rfl (by decide +kernel) ?_
   intro w5 x5 s5 h5
   refine_lift bR ?_
   refine aG (v:=.agg #[aI l[k].name, .int .i64 l[k].kind, .int .i64 l[k].ttl,aI l[k].data]) rfl rfl rfl h5 (show aR Tryz.prog 106 4=true by decide +kernel) rfl (eR rfl rfl rfl rfl) ?_
   intro w6 p6
   have x6:Ext wr w6:=x5.move p6.mv (by rintro k ⟨⟩;exact Nat.le_refl _)
   have hp6:=aE (cs:=[aI l[k].name, .int .i64 l[k].kind, .int .i64 l[k].ttl,aI l[k].data]) p6.this
   have z6:w6.heap.size=wr.heap.size + 1:=p6.size.trans s5
   have b6:w6.heap[wr.heap.size]? = some (.cells [aI l[k].name, .int .i64 l[k].kind, .int .i64 l[k].ttl,aI l[k].data].toArray 106 (0,0)):=p6.this
   have hL6:=hL.grow x6
   clear p6 h5 x5
   refine_lift oQ fun _ _ _ _ => ?_
   refine aD (enters_of Tryz.func100 rfl rfl) rfl rfl (VO l[k] _) ?_;intro w7 x7;refine aA ?_
   refine_lift DY (fun _ _ _ => ?_) (fun _ => ?_)
   ·have hbad:=‹(!decide (bC l[k]=0))=true›
    have hne:bC l[k]≠0:=by simpa using hbad
    have h1:bC l[k]=1:=(JQ _).resolve_left hne
    go_ret2
    refine ⟨_,rfl,hx.trans (x6.trans x7),?_⟩
    have hE:iK l=1:=by rw [iK,if_pos (nM hlt (by simp [AP,hne]))]
    unfold GroupO
    rw [hE,if_neg (by omega),← h1]
    rfl
   ·have hc0:bC l[k]=0:=by have:=‹(!decide (bC l[k]=0))=false›;simpa using this
    obtain ⟨hlab,hk1,hk2⟩:=kF (n:=[]) hc0
    have hL7:=hL6.grow x7
    apply QH (F:=fun (kb:Nat) w'=>Ext w7 w'∧w7.heap.size≤kb∧w'.heap[kb]? = some (.cells [aI (fold l[k].name), .int .i64 l[k].kind].toArray 166 (0,0)))
    ·intro hK
     refine dS (S:=Ext w7) (by decide +kernel) ?_
     intro w8 x8 _
     refine tk 0 ?_;refine aA ?_;refine tk 1 ?_;refine aA ?_;refine tk 3 ?_;refine aA ?_;refine tk 4 ?_;refine aA ?_
     refine qE (i:=2) (j:=6) (by decide +kernel) rfl rfl rfl ?_ ?_
     ·refine aD (enters_of Tryz.func32 rfl rfl) rfl rfl (LR _ _) ?_;intro w9 x9;refine aA ?_
      refine aJ ⟨by exact eU,?_⟩
      refine cO (i:=5) (v:=.agg #[aI (fold l[k].name), .int .i64 l[k].kind]) rfl rfl (by decide +kernel) (by decide +kernel) (by decide +kernel) rfl (by exact eU) (fun w' _=>Runs.build rfl (by kernel_rfl)) (fun _ _ _ h=>h) ?_
      refine aA ?_
      refine cA (i:=6) (by decide +kernel) rfl rfl ?_
      refine aL (z:=[aI [], .int .i64 0]) rfl (by decide +kernel) ?_
      intro w10 x10 s10 h10
      refine aA ?_
      refine aJ ⟨by exact eU,?_⟩
      refine cA (i:=7) (by decide +kernel) rfl rfl ?_
      refine aG (v:=.agg #[aI (fold l[k].name), .int .i64 l[k].kind]) rfl rfl rfl h10 (show aR Tryz.prog 166 2=true by decide +kernel) rfl (by simp [Value.cells,aI,Value.oneCell']) ?_
      intro w11 p11
      have x11:Ext w7 w11:=((x8.trans x9).trans x10).move p11.mv (by rintro k ⟨⟩;have:=x8.size;have:=x9.size;omega)
      refine aJ ⟨x11,?_⟩
      refine dK (by decide +kernel) ?_
      have b11:=p11.this
      clear p11 h10
      have z11:w7.heap.size≤w9.heap.size:=Nat.le_trans x8.size x9.size
      generalize w9.heap.size=kb at b11 z11 ⊢
      exact hK kb w11 ⟨x11,z11,b11⟩
     ·refine aL (z:=[aI [], .int .i64 0]) rfl (by decide +kernel) ?_
      intro w9 x9 s9 h9
      refine aA ?_
      refine aJ ⟨by exact eU,?_⟩
      refine cA (i:=2) (by decide +kernel) rfl rfl ?_
      refine aD (enters_of Tryz.func32 rfl rfl) rfl rfl (LR _ _) ?_;intro w10 x10;refine aA ?_
      refine aJ ⟨by exact eU,?_⟩
      refine cO (i:=5) (v:=.agg #[aI (fold l[k].name), .int .i64 l[k].kind]) rfl rfl (by decide +kernel) (by decide +kernel) (by decide +kernel) rfl (by exact eU) (fun w' _=>Runs.build rfl (by kernel_rfl)) (fun _ _ _ h=>h) ?_
      refine aA ?_
      refine cA (i:=7) (by decide +kernel) rfl rfl ?_
      refine aG (v:=.agg #[aI (fold l[k].name), .int .i64 l[k].kind]) rfl rfl rfl (x10.at h9) (show aR Tryz.prog 166 2=true by decide +kernel) rfl (by simp [Value.cells,aI,Value.oneCell']) ?_
      intro w11 p11
      have x11:Ext w7 w11:=((x8.trans x9).trans x10).move p11.mv (by rintro k ⟨⟩;have:=x8.size;omega)
      refine aJ ⟨x11,?_⟩
      refine dK (by decide +kernel) ?_
      have b11:=p11.this
      clear p11 h9
      have z11:w7.heap.size≤w8.heap.size:=x8.size
      generalize w8.heap.size=kb at b11 z11 ⊢
      exact hK kb w11 ⟨x11,z11,b11⟩
    ·rintro kb w8 ⟨x8,zkb,hkb⟩
     have hpk:=aE hkb
     refine_lift dR fun _ _ => ?_
     have hL8:=hL7.grow x8
     have hr8:=(x7.trans x8).at b6
     have hfl:=sQ _ hlab
     obtain ⟨lx,hlx⟩:=IF (fold l[k].name) l[k].kind (by omega) (by omega)
     have hzv:∀ w,(zeroValue 167).run Tryz.prog w=.ok (.pointer none) w:=fun w=>by kernel_rfl
     obtain ⟨u,bb,hrl,hcase⟩:=iG LV (show oT Tryz.prog 163 166 167=true by decide +kernel) hzv hL8.map hlx true
     refine cH rfl (Runs.lookup rfl rfl hrl) ?_
     refine aA ?_
     rcases hcase with ⟨i,hie,rfl⟩ | ⟨hno,rfl,rfl⟩
     ·rw [List.getElem?_map] at hie
      cases hi:gcs[i]? with
      | none=>rw [hi] at hie;cases hie
      | some c =>
      rw [hi,Option.map_some] at hie
      simp only [GC.key,Option.some.injEq,Prod.mk.injEq,Value.agg.injEq] at hie
      obtain ⟨hie1,rfl⟩:=hie
      have hcn:c.s.name=fold l[k].name∧c.s.kind=l[k].kind:=by
       have:=congrArg Array.toList hie1
       simp only [List.cons.injEq,aI,Value.string.injEq,Value.int.injEq,true_and,and_true,ByteArray.mk.injEq] at this
       exact ⟨by simpa using this.1,this.2⟩
      have hgi:(dC (l.take k))[i]? = some c.s:=by rw [← hgs,List.getElem?_map,hi];rfl
      refine_lift dR fun _ _ => ?_
      have hdl:(aP c.s.data).length≤20000:=by
       have h1:=EA (List.mem_of_getElem? hgi)
       rw [sO,List.length_take] at h1
       rw [bA];omega
      have hfin:List.set (gcs.map GC.s) i (jQ c.s l[k])=dC (l.take (k + 1)):=by
       rw [hgs,pH hlt]
       exact (AL hgi (by simp [bS,hcn.1,hcn.2]) (jZ _)).symm
      have hM:=hL8
      have hr9:=hr8
      obtain ⟨w9,hw9⟩:∃ w9,w9=w8:=⟨_,rfl⟩
      rw [← hw9] at hM hr9 ⊢
      obtain ⟨gcs1,hg1⟩:∃ g,g=gcs:=⟨_,rfl⟩
      obtain ⟨kv,hkv⟩:∃ g,g=u5:=⟨_,rfl⟩
      rw [← hg1] at hM hi hfin
      rw [← hkv] at hM ⊢
      have hc:=hM.sets.each c (List.mem_of_getElem? hi)
      have hpc:=aE (cs:=c.cells) hc.blk
      have hpr:=aE hr9
      refine bV 10 (Ext w9) (by decide +kernel) ?_
      intro w10 x10 _
      refine ⟨x10,?_⟩
      ((with_reducible apply bD (i:=0));(rfl);(rfl);(rfl);(decide +kernel);(decide +kernel);(decide +kernel);(decide +kernel);(rfl);(intro _ _;exact rn);(exact fun _ _ _ h=>h);(refine aA ?_));((with_reducible apply bD (i:=1));(rfl);(rfl);(rfl);(decide +kernel);(decide +kernel);(decide +kernel);(decide +kernel);(rfl);(intro _ _;exact rn);(exact fun _ _ _ h=>h);(refine aA ?_));((with_reducible apply bD (i:=2));(rfl);(rfl);(rfl);(decide +kernel);(decide +kernel);(decide +kernel);(decide +kernel);(rfl);(intro _ _;exact rn);(exact fun _ _ _ h=>h);(refine aA ?_));((with_reducible apply bD (i:=3));(rfl);(rfl);(rfl);(decide +kernel);(decide +kernel);(decide +kernel);(decide +kernel);(rfl);(intro _ _;exact rn);(exact fun _ _ _ h=>h);(refine aA ?_));((with_reducible apply bD (i:=4));(rfl);(rfl);(rfl);(decide +kernel);(decide +kernel);(decide +kernel);(decide +kernel);(rfl);(intro _ _;exact rn);(exact fun _ _ _ h=>h);(refine aA ?_));((with_reducible apply bD (i:=5));(rfl);(rfl);(rfl);(decide +kernel);(decide +kernel);(decide +kernel);(decide +kernel);(rfl);(intro _ _;exact rn);(exact fun _ _ _ h=>h);(refine aA ?_));((with_reducible apply bD (i:=6));(rfl);(rfl);(rfl);(decide +kernel);(decide +kernel);(decide +kernel);(decide +kernel);(rfl);(intro _ _;exact rn);(exact fun _ _ _ h=>h);(refine aA ?_));((with_reducible apply bD (i:=7));(rfl);(rfl);(rfl);(decide +kernel);(decide +kernel);(decide +kernel);(decide +kernel);(rfl);(intro _ _;exact rn);(exact fun _ _ _ h=>h);(refine aA ?_));((with_reducible apply bD (i:=8));(rfl);(rfl);(rfl);(decide +kernel);(decide +kernel);(decide +kernel);(decide +kernel);(rfl);(intro _ _;exact rn);(exact fun _ _ _ h=>h);(refine aA ?_));((with_reducible apply bD (i:=9));(rfl);(rfl);(rfl);(decide +kernel);(decide +kernel);(decide +kernel);(decide +kernel);(rfl);(intro _ _;exact rn);(exact fun _ _ _ h=>h);(refine aA ?_))
      refine bE (i:=10) (by decide +kernel) rfl rfl ?_
      refine aM (cs:=c.cells) (x10.at hc.blk) rfl rfl rfl (show 2 < 4 by omega) (by decide +kernel) rfl ?_
      intro w11 p11
      refine aJ ⟨bT rfl,?_⟩
      refine cN (by decide +kernel) ?_
      have hr11:=p11.at (x10.at hr9) (EF hr9 hc.blk (by omega))
      have hM11:L1 w w11 kv (gcs1.set i ⟨c.b,c.v,⟨c.s.name,c.s.kind,min c.s.ttl l[k].ttl,c.s.data⟩⟩):=by
       have hg:=(hM.sets.ext x10).turn (c':=⟨c.b,c.v,⟨c.s.name,c.s.kind,min c.s.ttl l[k].ttl,c.s.data⟩⟩) hi rfl (Mv.refl _ _) (hc.own.ext x10) (.inl rfl) p11
       have hM10:=hM.grow x10
       obtain ⟨es,ck,hm1,hm2,hm3⟩:=hM10.map.out
       refine ⟨hM10.ext.move p11.mv (by rintro k ⟨⟩;have:=hc.ge;omega),?_,?_,hg⟩
       ·rw [lI (c':=⟨c.b,c.v,⟨c.s.name,c.s.kind,min c.s.ttl l[k].ttl,c.s.data⟩⟩) hi rfl]
        refine hM10.map.at (fun o ho=>p11.at ho (fun e => ?_))
        rw [e,x10.at hc.blk] at hm1;cases hm1
       ·rw [nP (c':=⟨c.b,c.v,⟨c.s.name,c.s.kind,min c.s.ttl l[k].ttl,c.s.data⟩⟩) hi rfl]
        exact hM10.keys.mv p11.mv (.inr (hM10.keys.neBlock (x10.at hc.blk) (by omega)))
      clear hpc hpr p11 x10
      have hi1:(gcs1.set i ⟨c.b,c.v,⟨c.s.name,c.s.kind,min c.s.ttl l[k].ttl,c.s.data⟩⟩)[i]? = some ⟨c.b,c.v,⟨c.s.name,c.s.kind,min c.s.ttl l[k].ttl,c.s.data⟩⟩:=List.getElem?_set_self (List.getElem?_eq_some_iff.1 hi).1
      have hc1:=hM11.sets.each _ (List.mem_of_getElem? hi1)
      have hpc:=aE (cs:=[aI c.s.name, .int .i64 c.s.kind, .int .i64 (min c.s.ttl l[k].ttl),c.v]) hc1.blk
      have hpr:=aE hr11
      refine_lift bR ?_
      refine bV 8 (Ext w11) (by decide +kernel) ?_
      intro w12 x12 _
      refine ⟨x12,?_⟩
      ((with_reducible apply bD (i:=1));(rfl);(rfl);(rfl);(decide +kernel);(decide +kernel);(decide +kernel);(decide +kernel);(rfl);(intro _ _;exact rn);(exact fun _ _ _ h=>h);(refine aA ?_));((with_reducible apply bD (i:=2));(rfl);(rfl);(rfl);(decide +kernel);(decide +kernel);(decide +kernel);(decide +kernel);(rfl);(intro _ _;exact rn);(exact fun _ _ _ h=>h);(refine aA ?_));((with_reducible apply bD (i:=3));(rfl);(rfl);(rfl);(decide +kernel);(decide +kernel);(decide +kernel);(decide +kernel);(rfl);(intro _ _;exact rn);(exact fun _ _ _ h=>h);(refine aA ?_));((with_reducible apply bD (i:=4));(rfl);(rfl);(rfl);(decide +kernel);(decide +kernel);(decide +kernel);(decide +kernel);(rfl);(intro _ _;exact rn);(exact fun _ _ _ h=>h);(refine aA ?_));((with_reducible apply bD (i:=5));(rfl);(rfl);(rfl);(decide +kernel);(decide +kernel);(decide +kernel);(decide +kernel);(rfl);(intro _ _;exact rn);(exact fun _ _ _ h=>h);(refine aA ?_));((with_reducible apply bD (i:=6));(rfl);(rfl);(rfl);(decide +kernel);(decide +kernel);(decide +kernel);(decide +kernel);(rfl);(intro _ _;exact rn);(exact fun _ _ _ h=>h);(refine aA ?_))
      ((with_reducible apply dL (i:=0));(rfl);(rfl);(rfl);(decide +kernel);(decide +kernel);(decide +kernel);(rfl);(intro _;exact rn);(exact fun _ _ _ h=>h);(refine aA ?_))
      refine bE (i:=7) (by decide +kernel) rfl rfl ?_
      refine bN (e:=9) (k:=1) (bytes:=16) (xs:=[aI l[k].data]) rfl rfl rfl (by simp [Value.cells,aI]) (by decide +kernel) (by simp) ?_
      intro v13 w13 x13 s13 sl13 _
      refine aA ?_
      refine aJ ⟨cC (x12.trans x13),?_⟩
      refine bE (i:=8) (by decide +kernel) rfl rfl ?_
      have x113:=x12.trans x13
      refine fY (B:=w.heap.size + 1) (e:=9) (k:=1) (bytes:=16) rfl (hc1.own.ext x113) rfl sl13 (by decide +kernel) (by simp [Value.cells,aI,Value.oneCell']) (by have:=(hM11.grow x113).map.lt;omega) (by simp only [List.length_map,List.length_cons,List.length_nil];omega) (by simp only [List.length_map,List.length_cons,List.length_nil];omega) ?_
      intro v14 w14 o14 m14 k14
      refine aA ?_
      refine aJ ⟨bT rfl,?_⟩
      ((with_reducible apply dL (i:=9));(rfl);(rfl);(rfl);(decide +kernel);(decide +kernel);(decide +kernel);(rfl);(intro _;exact rn);(exact fun _ _ _ h=>h);(refine aA ?_));((with_reducible apply dL (i:=10));(rfl);(rfl);(rfl);(decide +kernel);(decide +kernel);(decide +kernel);(rfl);(intro _;exact rn);(exact fun _ _ _ h=>h);(refine aA ?_))
      refine bE (i:=11) (by decide +kernel) rfl rfl ?_
      have hM13:=hM11.grow x113
      have hc13:=hM13.sets.each _ (List.mem_of_getElem? hi1)
      have b14:=m14.at hc13.blk (fun e=>(hc13.own.neBlock hc13.blk (by omega)) e.symm)
      refine aM (cs:=[aI c.s.name, .int .i64 c.s.kind, .int .i64 (min c.s.ttl l[k].ttl),c.v]) b14 rfl rfl rfl (show 3 < 4 by omega) (by decide +kernel) o14.one ?_
      intro w15 p15
      refine aJ ⟨bT rfl,?_⟩
      refine cN (by decide +kernel) ?_
      have e14:aP c.s.data ++ List.map (fun x=>x.cells.toList) [aI l[k].data]=aP (jQ c.s l[k]).data:=by simp [aP,jQ,Value.cells,aI]
      rw [e14] at o14
      have hM16:L1 w w15 kv (gcs1.set i ⟨c.b,v14,jQ c.s l[k]⟩):=by
       have hg:=hM13.sets.turn (c':=⟨c.b,v14,jQ c.s l[k]⟩) hi1 rfl m14 o14 k14 p15
       rw [List.set_set] at hg
       obtain ⟨es,ck,hm1,hm2,hm3⟩:=hM13.map.out
       have hnm:c.v.ownBlock≠some w.heap.size:=hc13.own.neMap hm1
       have hm14:=m14.at hm1 (fun e=>hnm e.symm)
       refine ⟨?_,?_,?_,hg⟩
       ·refine (hM13.ext.move m14 (fun k hk=>by have:=(hc13.own.block k hk).1;omega)).move p15.mv (by rintro k ⟨⟩;have:=hc13.ge;omega)
       ·have hm:=hM13.map.at (w':=w15) (fun o ho=>by
         rw [hm1] at ho;cases ho
         exact p15.at hm14 (fun e=>by have b:=b14;have h:=hm14;rw [e] at h;rw [b] at h;cases h))
        rw [lI (c':=⟨c.b,c.v,⟨c.s.name,c.s.kind,min c.s.ttl l[k].ttl,c.s.data⟩⟩) hi rfl] at hm
        rw [lI (c':=⟨c.b,v14,jQ c.s l[k]⟩) hi rfl]
        exact hm
       ·have hk13:=hM13.keys
        rw [nP (c':=⟨c.b,c.v,⟨c.s.name,c.s.kind,min c.s.ttl l[k].ttl,c.s.data⟩⟩) hi rfl] at hk13
        rw [nP (c':=⟨c.b,v14,jQ c.s l[k]⟩) hi rfl]
        have hk14:=hk13.mv m14 (hk13.ne hc13.own (by omega))
        exact hk14.mv p15.mv (.inr (hk14.neBlock b14 (by omega)))
      clear hpc hpr p15 m14 x12 x13 x113
      refine_lift bR ?_
      refine ⟨⟨k + 1,_,by omega,rfl,hM16,lH hlt hall (by simp [AP,hc0]),?_⟩,by simp [intOf];omega⟩
      rw [List.map_set]
      exact hfin
     ·have hmiss:∀ s ∈ dC (l.take k),bS s l[k]=false:=by
       intro s hs
       rw [← hgs] at hs
       obtain ⟨c,hc,rfl⟩:=List.mem_map.1 hs
       obtain ⟨i,hi⟩:=List.mem_iff_getElem?.1 hc
       have:=hno i c.key (by rw [List.getElem?_map,hi];rfl)
       cases hm:bS c.s l[k] with
       | false=>rfl
       | true =>
        exfalso
        simp only [bS,Bool.and_eq_true,decide_eq_true_eq] at hm
        exact this (by simp only [GC.key];rw [hm.1,hm.2])
      refine_lift oQ fun _ _ _ _ => ?_
      refine cH (v:=.agg #[aI (fold l[k].name), .int .i64 l[k].kind, .int .i64 l[k].ttl, .slice none 0 0]) rfl (Runs.build rfl (by kernel_rfl)) ?_
      refine aA ?_
      refine eK (vs:=[aI (fold l[k].name), .int .i64 l[k].kind, .int .i64 l[k].ttl, .slice none 0 0]) rfl rfl ?_
      intro w9 x9 s9 hb9
      refine aA ?_
      refine_lift bR ?_
      have hL9:=hL8.grow x9
      have hkb9:=x9.at hkb
      have hrb9:=x9.at hr8
      refine dS (S:=fun w'=>w'.heap[kb]? = some (.cells [aI (fold l[k].name), .int .i64 l[k].kind].toArray 166 (0,0))) (by decide +kernel) ?_
      intro w10 x10 _
      have hS:=x10.at hkb9
      ((with_reducible apply cO (i:=0));(rfl);(rfl);(decide +kernel);(decide +kernel);(decide +kernel);(rfl);(exact hS);(intro w9 hS9;(have hpk9:=aE hS9);exact rn);(exact fun _ _ _ h=>h);(refine aA ?_));((with_reducible apply cO (i:=1));(rfl);(rfl);(decide +kernel);(decide +kernel);(decide +kernel);(rfl);(exact hS);(intro w9 hS9;(have hpk9:=aE hS9);exact rn);(exact fun _ _ _ h=>h);(refine aA ?_));((with_reducible apply cO (i:=2));(rfl);(rfl);(decide +kernel);(decide +kernel);(decide +kernel);(rfl);(exact hS);(intro w9 hS9;(have hpk9:=aE hS9);exact rn);(exact fun _ _ _ h=>h);(refine aA ?_));((with_reducible apply cO (i:=3));(rfl);(rfl);(decide +kernel);(decide +kernel);(decide +kernel);(rfl);(exact hS);(intro w9 hS9;(have hpk9:=aE hS9);exact rn);(exact fun _ _ _ h=>h);(refine aA ?_));((with_reducible apply cO (i:=4));(rfl);(rfl);(decide +kernel);(decide +kernel);(decide +kernel);(rfl);(exact hS);(intro w9 hS9;(have hpk9:=aE hS9);exact rn);(exact fun _ _ _ h=>h);(refine aA ?_))
      refine cA (i:=5) (by decide +kernel) rfl rfl ?_
      refine bN (e:=166) (k:=2) (bytes:=24) (xs:=[.agg #[aI (fold l[k].name), .int .i64 l[k].kind]]) rfl rfl rfl (by simp [Value.cells]) (by decide +kernel) (by simp) ?_
      intro v11 w11 x11 s11 sl11 _
      refine aA ?_
      refine aJ ⟨x11.at hS,?_⟩
      have x911:=x10.trans x11
      have hL11:=hL9.grow x911
      have hb11:=x911.at hb9
      have hrb11:=x911.at hrb9
      have hkb11:=x911.at hkb9
      refine cA (i:=6) (by decide +kernel) rfl rfl ?_
      have hgl:gcs.length≤10000:=by
       have h1:=xS (l.take k)
       rw [← hgs,List.length_map,List.length_take] at h1
       omega
      refine fY (B:=w.heap.size + 1) (e:=166) (k:=2) (bytes:=24) rfl hL11.keys rfl sl11 (by decide +kernel) (by simp [Value.cells,aI,Value.oneCell']) (by have:=hL11.map.lt;omega) (by simp only [List.length_map,List.length_cons,List.length_nil];omega) (by simp only [List.length_map,List.length_cons,List.length_nil];omega) ?_
      intro v12 w12 o12 m12 k12
      refine aA ?_
      have hnk:some kb≠u5.ownBlock:=fun e=>by have:=(hL7.keys.block kb e.symm).2;omega
      have hkb12:=m12.at hkb11 hnk
      refine aJ ⟨hkb12,?_⟩
      refine cA (i:=7) (by decide +kernel) rfl rfl ?_
      obtain ⟨es,ck,hm1,hm2,hm3⟩:=hL11.map.out
      have hnm:u5.ownBlock≠some w.heap.size:=hL11.keys.neMap hm1
      have hm12:=hL11.map.at (w':=w12) (fun o ho=>m12.at ho (fun e=>hnm e.symm))
      obtain ⟨w13,o13,hr13,p13,hm13⟩:=kZ LV (show oT Tryz.prog 163 166 167=true by decide +kernel) hm12 hlx (v:=.pointer (some ⟨w8.heap.size,0,none⟩)) hno
      refine mA rfl rfl rfl rfl hr13 ?_
      have hkb13:=p13.at hkb12 (fun e=>by rw [← e] at hm1;rw [hkb11] at hm1;cases hm1)
      refine aJ ⟨hkb13,?_⟩
      refine cO (i:=8) (v:=v12) rfl rfl (by decide +kernel) (by decide +kernel) (by decide +kernel) rfl hkb13 (fun w' _=>Runs.assignT _) (fun _ _ _ h=>h) ?_
      refine aA ?_
      refine dK (by decide +kernel) ?_
      have hnb:u5.ownBlock≠some w8.heap.size:=hL11.keys.neBlock hb11 (by omega)
      have hb13:=p13.at (m12.at hb11 (fun e=>hnb e.symm)) (fun e=>by rw [← e] at hm1;rw [hb11] at hm1;cases hm1)
      have hnr:u5.ownBlock≠some wr.heap.size:=hL11.keys.neBlock hrb11 (by omega)
      have hr9:=p13.at (m12.at hrb11 (fun e=>hnr e.symm)) (fun e=>by rw [← e] at hm1;rw [hrb11] at hm1;cases hm1)
      have hM:L1 w w13 v12 (gcs ++ [⟨w8.heap.size, .slice none 0 0,⟨fold l[k].name,l[k].kind,l[k].ttl,[]⟩⟩]):=by
       have hne:∀ c ∈ gcs,c.b≠w8.heap.size:=fun c hc e=>by
        have:=(hL8.sets.each c hc).blk
        rw [e,Array.getElem?_eq_none (Nat.le_refl _)] at this
        cases this
       have hs12:GS w12 (w.heap.size + 1) gcs:=hL11.sets.mv m12 fun c hc=>⟨fun e=>hL11.keys.neBlock (hL11.sets.each c hc).blk (by omega) e.symm,((hL11.sets.each c hc).own.ne hL11.keys (by omega))⟩
       have hm12':=hm12.out
       obtain ⟨es2,ck2,hm21,_,_⟩:=hm12'
       have hs13:GS w13 (w.heap.size + 1) gcs:=hs12.mv p13.mv fun c hc=>⟨(fun e=>by
        have hb:=(hs12.each c hc).blk
        rw [Option.some.inj e] at hb
        rw [hb] at hm21;cases hm21), .inr ((hs12.each c hc).own.neMap hm21)⟩
       refine ⟨(hL11.ext.move m12 (fun k hk=>by have:=(hL11.keys.block k hk).1;omega)).move p13.mv (by rintro k ⟨⟩;exact Nat.le_refl _),by simpa [GC.key] using hm13,?_,hs13.push ⟨hb13,(show w.heap.size + 1≤w8.heap.size by have:=hL8.map.lt;omega),Own.nil _ _ _ _⟩ hne rfl⟩
       have:List.map GC.kcells gcs ++ List.map (fun x=>x.cells.toList) [Value.agg #[aI (fold l[k].name),Value.int IntKind.i64 l[k].kind]]=List.map GC.kcells (gcs ++ [⟨w8.heap.size, .slice none 0 0,⟨fold l[k].name,l[k].kind,l[k].ttl,[]⟩⟩]):=by simp [GC.kcells,Value.cells]
       rw [this] at o12
       exact o12.mv p13.mv (.inr (o12.neMap hm21))
      clear hL9 hL11 x10 x11 x911 hb11 hrb11 hkb11 m12 p13 hr13 hkb12 hkb13 hm12
      refine_lift dR fun _ _ => ?_
      obtain ⟨c,hcd⟩:∃ c:GC,c=⟨w8.heap.size, .slice none 0 0,⟨fold l[k].name,l[k].kind,l[k].ttl,[]⟩⟩:=⟨_,rfl⟩
      obtain ⟨gcs1,hg1⟩:∃ g,g=gcs ++ [c]:=⟨_,rfl⟩
      obtain ⟨i,hil⟩:∃ i,i=gcs.length:=⟨_,rfl⟩
      have hi:gcs1[i]? = some c:=by rw [hg1,hil];simp
      rw [← hcd,← hg1] at hM
      have ecb:w8.heap.size=c.b:=by rw [hcd]
      have hdl:(aP c.s.data).length≤20000:=by rw [hcd];simp [aP]
      have hfin:List.set (gcs1.map GC.s) i (jQ c.s l[k])=dC (l.take (k + 1)):=by
       rw [pH hlt,xR hmiss,← hgs,hg1,hil,hcd]
       simp [jQ]
      rw [ecb]
      obtain ⟨w9,hw9⟩:∃ w9,w9=w13:=⟨_,rfl⟩
      rw [← hw9] at hM hr9 ⊢
      obtain ⟨kv,hkv⟩:∃ g,g=v12:=⟨_,rfl⟩
      rw [← hkv] at hM ⊢
      have hc:=hM.sets.each c (List.mem_of_getElem? hi)
      have hpc:=aE (cs:=c.cells) hc.blk
      have hpr:=aE hr9
      refine bV 10 (Ext w9) (by decide +kernel) ?_
      intro w10 x10 _
      refine ⟨x10,?_⟩
      ((with_reducible apply bD (i:=0));(rfl);(rfl);(rfl);(decide +kernel);(decide +kernel);(decide +kernel);(decide +kernel);(rfl);(intro _ _;exact rn);(exact fun _ _ _ h=>h);(refine aA ?_));((with_reducible apply bD (i:=1));(rfl);(rfl);(rfl);(decide +kernel);(decide +kernel);(decide +kernel);(decide +kernel);(rfl);(intro _ _;exact rn);(exact fun _ _ _ h=>h);(refine aA ?_));((with_reducible apply bD (i:=2));(rfl);(rfl);(rfl);(decide +kernel);(decide +kernel);(decide +kernel);(decide +kernel);(rfl);(intro _ _;exact rn);(exact fun _ _ _ h=>h);(refine aA ?_));((with_reducible apply bD (i:=3));(rfl);(rfl);(rfl);(decide +kernel);(decide +kernel);(decide +kernel);(decide +kernel);(rfl);(intro _ _;exact rn);(exact fun _ _ _ h=>h);(refine aA ?_));((with_reducible apply bD (i:=4));(rfl);(rfl);(rfl);(decide +kernel);(decide +kernel);(decide +kernel);(decide +kernel);(rfl);(intro _ _;exact rn);(exact fun _ _ _ h=>h);(refine aA ?_));((with_reducible apply bD (i:=5));(rfl);(rfl);(rfl);(decide +kernel);(decide +kernel);(decide +kernel);(decide +kernel);(rfl);(intro _ _;exact rn);(exact fun _ _ _ h=>h);(refine aA ?_));((with_reducible apply bD (i:=6));(rfl);(rfl);(rfl);(decide +kernel);(decide +kernel);(decide +kernel);(decide +kernel);(rfl);(intro _ _;exact rn);(exact fun _ _ _ h=>h);(refine aA ?_));((with_reducible apply bD (i:=7));(rfl);(rfl);(rfl);(decide +kernel);(decide +kernel);(decide +kernel);(decide +kernel);(rfl);(intro _ _;exact rn);(exact fun _ _ _ h=>h);(refine aA ?_));((with_reducible apply bD (i:=8));(rfl);(rfl);(rfl);(decide +kernel);(decide +kernel);(decide +kernel);(decide +kernel);(rfl);(intro _ _;exact rn);(exact fun _ _ _ h=>h);(refine aA ?_));((with_reducible apply bD (i:=9));(rfl);(rfl);(rfl);(decide +kernel);(decide +kernel);(decide +kernel);(decide +kernel);(rfl);(intro _ _;exact rn);(exact fun _ _ _ h=>h);(refine aA ?_))
      refine bE (i:=10) (by decide +kernel) rfl rfl ?_
      refine aM (cs:=c.cells) (x10.at hc.blk) rfl rfl rfl (show 2 < 4 by omega) (by decide +kernel) rfl ?_
      intro w11 p11
      refine aJ ⟨bT rfl,?_⟩
      refine cN (by decide +kernel) ?_
      have hr11:=p11.at (x10.at hr9) (EF hr9 hc.blk (by omega))
      have hM11:L1 w w11 kv (gcs1.set i ⟨c.b,c.v,⟨c.s.name,c.s.kind,min c.s.ttl l[k].ttl,c.s.data⟩⟩):=by
       have hg:=(hM.sets.ext x10).turn (c':=⟨c.b,c.v,⟨c.s.name,c.s.kind,min c.s.ttl l[k].ttl,c.s.data⟩⟩) hi rfl (Mv.refl _ _) (hc.own.ext x10) (.inl rfl) p11
       have hM10:=hM.grow x10
       obtain ⟨es,ck,hm1,hm2,hm3⟩:=hM10.map.out
       refine ⟨hM10.ext.move p11.mv (by rintro k ⟨⟩;have:=hc.ge;omega),?_,?_,hg⟩
       ·rw [lI (c':=⟨c.b,c.v,⟨c.s.name,c.s.kind,min c.s.ttl l[k].ttl,c.s.data⟩⟩) hi rfl]
        refine hM10.map.at (fun o ho=>p11.at ho (fun e => ?_))
        rw [e,x10.at hc.blk] at hm1;cases hm1
       ·rw [nP (c':=⟨c.b,c.v,⟨c.s.name,c.s.kind,min c.s.ttl l[k].ttl,c.s.data⟩⟩) hi rfl]
        exact hM10.keys.mv p11.mv (.inr (hM10.keys.neBlock (x10.at hc.blk) (by omega)))
      clear hpc hpr p11 x10
      have hi1:(gcs1.set i ⟨c.b,c.v,⟨c.s.name,c.s.kind,min c.s.ttl l[k].ttl,c.s.data⟩⟩)[i]? = some ⟨c.b,c.v,⟨c.s.name,c.s.kind,min c.s.ttl l[k].ttl,c.s.data⟩⟩:=List.getElem?_set_self (List.getElem?_eq_some_iff.1 hi).1
      have hc1:=hM11.sets.each _ (List.mem_of_getElem? hi1)
      have hpc:=aE (cs:=[aI c.s.name, .int .i64 c.s.kind, .int .i64 (min c.s.ttl l[k].ttl),c.v]) hc1.blk
      have hpr:=aE hr11
      refine_lift bR ?_
      refine bV 8 (Ext w11) (by decide +kernel) ?_
      intro w12 x12 _
      refine ⟨x12,?_⟩
      ((with_reducible apply bD (i:=1));(rfl);(rfl);(rfl);(decide +kernel);(decide +kernel);(decide +kernel);(decide +kernel);(rfl);(intro _ _;exact rn);(exact fun _ _ _ h=>h);(refine aA ?_));((with_reducible apply bD (i:=2));(rfl);(rfl);(rfl);(decide +kernel);(decide +kernel);(decide +kernel);(decide +kernel);(rfl);(intro _ _;exact rn);(exact fun _ _ _ h=>h);(refine aA ?_));((with_reducible apply bD (i:=3));(rfl);(rfl);(rfl);(decide +kernel);(decide +kernel);(decide +kernel);(decide +kernel);(rfl);(intro _ _;exact rn);(exact fun _ _ _ h=>h);(refine aA ?_));((with_reducible apply bD (i:=4));(rfl);(rfl);(rfl);(decide +kernel);(decide +kernel);(decide +kernel);(decide +kernel);(rfl);(intro _ _;exact rn);(exact fun _ _ _ h=>h);(refine aA ?_));((with_reducible apply bD (i:=5));(rfl);(rfl);(rfl);(decide +kernel);(decide +kernel);(decide +kernel);(decide +kernel);(rfl);(intro _ _;exact rn);(exact fun _ _ _ h=>h);(refine aA ?_));((with_reducible apply bD (i:=6));(rfl);(rfl);(rfl);(decide +kernel);(decide +kernel);(decide +kernel);(decide +kernel);(rfl);(intro _ _;exact rn);(exact fun _ _ _ h=>h);(refine aA ?_))
      ((with_reducible apply dL (i:=0));(rfl);(rfl);(rfl);(decide +kernel);(decide +kernel);(decide +kernel);(rfl);(intro _;exact rn);(exact fun _ _ _ h=>h);(refine aA ?_))
      refine bE (i:=7) (by decide +kernel) rfl rfl ?_
      refine bN (e:=9) (k:=1) (bytes:=16) (xs:=[aI l[k].data]) rfl rfl rfl (by simp [Value.cells,aI]) (by decide +kernel) (by simp) ?_
      intro v13 w13 x13 s13 sl13 _
      refine aA ?_
      refine aJ ⟨cC (x12.trans x13),?_⟩
      refine bE (i:=8) (by decide +kernel) rfl rfl ?_
      have x113:=x12.trans x13
      refine fY (B:=w.heap.size + 1) (e:=9) (k:=1) (bytes:=16) rfl (hc1.own.ext x113) rfl sl13 (by decide +kernel) (by simp [Value.cells,aI,Value.oneCell']) (by have:=(hM11.grow x113).map.lt;omega) (by simp only [List.length_map,List.length_cons,List.length_nil];omega) (by simp only [List.length_map,List.length_cons,List.length_nil];omega) ?_
      intro v14 w14 o14 m14 k14
      refine aA ?_
      refine aJ ⟨bT rfl,?_⟩
      ((with_reducible apply dL (i:=9));(rfl);(rfl);(rfl);(decide +kernel);(decide +kernel);(decide +kernel);(rfl);(intro _;exact rn);(exact fun _ _ _ h=>h);(refine aA ?_));((with_reducible apply dL (i:=10));(rfl);(rfl);(rfl);(decide +kernel);(decide +kernel);(decide +kernel);(rfl);(intro _;exact rn);(exact fun _ _ _ h=>h);(refine aA ?_))
      refine bE (i:=11) (by decide +kernel) rfl rfl ?_
      have hM13:=hM11.grow x113
      have hc13:=hM13.sets.each _ (List.mem_of_getElem? hi1)
      have b14:=m14.at hc13.blk (fun e=>(hc13.own.neBlock hc13.blk (by omega)) e.symm)
      refine aM (cs:=[aI c.s.name, .int .i64 c.s.kind, .int .i64 (min c.s.ttl l[k].ttl),c.v]) b14 rfl rfl rfl (show 3 < 4 by omega) (by decide +kernel) o14.one ?_
      intro w15 p15
      refine aJ ⟨bT rfl,?_⟩
      refine cN (by decide +kernel) ?_
      have e14:aP c.s.data ++ List.map (fun x=>x.cells.toList) [aI l[k].data]=aP (jQ c.s l[k]).data:=by simp [aP,jQ,Value.cells,aI]
      rw [e14] at o14
      have hM16:L1 w w15 kv (gcs1.set i ⟨c.b,v14,jQ c.s l[k]⟩):=by
       have hg:=hM13.sets.turn (c':=⟨c.b,v14,jQ c.s l[k]⟩) hi1 rfl m14 o14 k14 p15
       rw [List.set_set] at hg
       obtain ⟨es,ck,hm1,hm2,hm3⟩:=hM13.map.out
       have hnm:c.v.ownBlock≠some w.heap.size:=hc13.own.neMap hm1
       have hm14:=m14.at hm1 (fun e=>hnm e.symm)
       refine ⟨?_,?_,?_,hg⟩
       ·refine (hM13.ext.move m14 (fun k hk=>by have:=(hc13.own.block k hk).1;omega)).move p15.mv (by rintro k ⟨⟩;have:=hc13.ge;omega)
       ·have hm:=hM13.map.at (w':=w15) (fun o ho=>by
         rw [hm1] at ho;cases ho
         exact p15.at hm14 (fun e=>by have b:=b14;have h:=hm14;rw [e] at h;rw [b] at h;cases h))
        rw [lI (c':=⟨c.b,c.v,⟨c.s.name,c.s.kind,min c.s.ttl l[k].ttl,c.s.data⟩⟩) hi rfl] at hm
        rw [lI (c':=⟨c.b,v14,jQ c.s l[k]⟩) hi rfl]
        exact hm
       ·have hk13:=hM13.keys
        rw [nP (c':=⟨c.b,c.v,⟨c.s.name,c.s.kind,min c.s.ttl l[k].ttl,c.s.data⟩⟩) hi rfl] at hk13
        rw [nP (c':=⟨c.b,v14,jQ c.s l[k]⟩) hi rfl]
        have hk14:=hk13.mv m14 (hk13.ne hc13.own (by omega))
        exact hk14.mv p15.mv (.inr (hk14.neBlock b14 (by omega)))
      clear hpc hpr p15 m14 x12 x13 x113
      refine_lift bR ?_
      refine ⟨⟨k + 1,_,by omega,rfl,hM16,lH hlt hall (by simp [AP,hc0]),?_⟩,by simp [intOf];omega⟩
      rw [List.map_set]
      exact hfin
  ·have hk2:k=l.length:=by omega
   subst hk2
   refine_lift TW fun _ _ _ _ _ => ?_
   rw [List.take_length] at hall hgs
   have hks:=hL.keys.sl
   refine_lift bR ?_
   clear hks
   have hgsl:(dC l).length=gcs.length:=by rw [← hgs,List.length_map]
   have hkl:(gcs.map GC.kcells).length=(dC l).length:=by rw [List.length_map,hgsl]
   have hgl:=xS l
   have hx0:=hL.ext
   rw [← hgsl]
   clear hkl hv2 hx
   go_loopw [12,14,15,81] (fun out _ _ i wq=>∃ (j:Nat) (gcs2:List GC),j≤(dC l).length∧i=.int .i64 j∧L1 w wq u5 gcs2∧gcs2.map GC.s=((dC l).take j).map mR ++ (dC l).drop j∧(((dC l).take j).map mR).any LX=false∧Own (w.heap.size + 1) 4 131 wq out ((gcs2.take j).map GC.cells)∧∀ c ∈ gcs2,out.ownBlock≠some c.b) (fun _ _ _ i _=>(dC l).length - (intOf i).toNat)
   case atStart=>exact ⟨0,gcs,Nat.zero_le _,rfl,hL,by simpa using hgs,rfl,Own.nil _ _ _ _,fun c _=>by simp [Value.ownBlock]⟩
   case round =>
    obtain ⟨j,gcs2,hj,rfl,hM,hs2,hbig,hout,hob⟩:=hrel
    have hl2:gcs2.length=(dC l).length:=by
     have:=congrArg List.length hs2
     simp only [List.length_map,List.length_append,List.length_take,List.length_drop] at this
     omega
    have hkeys:=hM.keys.sl
    by_cases hlt2:j < (dC l).length
    ·have hjl:j < gcs2.length:=by omega
     have hcj:gcs2[j].s=(dC l)[j]:=by
      have h1:(gcs2.map GC.s)[j]? = some gcs2[j].s:=by rw [List.getElem?_map,List.getElem?_eq_getElem hjl];rfl
      rw [hs2,List.getElem?_append_right (by simp;omega)] at h1
      simp only [List.length_map,List.length_take,List.getElem?_drop] at h1
      rw [show j + (j - min j (dC l).length)=j by omega,List.getElem?_eq_getElem hlt2] at h1
      exact (Option.some.inj h1).symm
     have hi:gcs2[j]? = some gcs2[j]:=List.getElem?_eq_getElem hjl
     obtain ⟨c,hcd⟩:∃ c,c=gcs2[j]:=⟨_,rfl⟩
     rw [← hcd] at hi hcj
     have hkp:=hkeys.elem (i:=j) (e:=[aI c.s.name, .int .i64 c.s.kind]) (by rw [List.getElem?_map,hi];rfl)
     have hkll:(gcs2.map GC.kcells).length=(dC l).length:=by rw [List.length_map,hl2]
     refine_lift xG ?_;intro _ _ _ _ _ _
     refine aL (z:=[aI [], .int .i64 0]) rfl (by decide +kernel) ?_
     intro w5 x5 s5 h5
     refine_lift bR ?_
     refine aG (v:=.agg #[aI c.s.name, .int .i64 c.s.kind]) rfl rfl rfl h5 (show aR Tryz.prog 166 2=true by decide +kernel) rfl (by simp [Value.cells,aI,Value.oneCell']) ?_
     intro w6 p6
     have x6:Ext wr w6:=x5.move p6.mv (by rintro k ⟨⟩;exact Nat.le_refl _)
     have hp6:=aE (cs:=[aI c.s.name, .int .i64 c.s.kind]) p6.this
     have hM6:=hM.grow x6
     have hout6:=hout.ext x6
     clear p6 h5 x5
     refine_lift dR fun _ _ => ?_
     obtain ⟨r,hrl0,hrn,hrk⟩:=AQ (List.getElem_mem hlt2)
     have hrc:bC r=0:=by simpa [AP] using List.all_eq_true.1 hall r hrl0
     obtain ⟨hlab,hk1,hk2⟩:=kF (n:=[]) hrc
     have hfl:=sQ _ hlab
     rw [← hcj] at hrn hrk
     obtain ⟨lx,hlx⟩:=IF c.s.name c.s.kind (by rw [hrn];omega) (by rw [hrk];omega)
     have hzv:∀ w,(zeroValue 167).run Tryz.prog w=.ok (.pointer none) w:=fun w=>by kernel_rfl
     obtain ⟨u,bb,hrl,hcase⟩:=iG LV (show oT Tryz.prog 163 166 167=true by decide +kernel) hzv hM6.map hlx false
     have hu:u=.pointer (some ⟨c.b,0,none⟩):=by
      rcases hcase with ⟨i,hie,_⟩ | ⟨hno,_,_⟩
      ·rw [List.getElem?_map] at hie
       cases hi2:gcs2[i]? with
       | none=>rw [hi2] at hie;cases hie
       | some c2 =>
        rw [hi2,Option.map_some] at hie
        simp only [GC.key,Option.some.injEq,Prod.mk.injEq,Value.agg.injEq] at hie
        obtain ⟨hie1,hie2⟩:=hie
        have hkk:=congrArg Array.toList hie1
        simp only [List.cons.injEq,aI,Value.string.injEq,Value.int.injEq,true_and,and_true,ByteArray.mk.injEq] at hkk
        have hn2:c2.s.name=c.s.name:=by simpa using hkk.1
        have hij:i=j:=by
         by_cases e:i=j
         ·exact e
         ·exfalso
          have hap:(gcs2.map GC.s).Pairwise fun s t=>¬ (s.name=t.name∧s.kind=t.kind):=by
           have:=gV.1 (jZ l)
           rw [hs2]
           have e2:(dC l).take j ++ (dC l).drop j=dC l:=List.take_append_drop _ _
           rw [← e2] at this
           rw [List.pairwise_append] at this ⊢
           refine ⟨List.pairwise_map.2 this.1,this.2.1,fun x hx y hy => ?_⟩
           obtain ⟨x',hx',rfl⟩:=List.mem_map.1 hx
           exact this.2.2 x' hx' y hy
          have h3:=gV.2 hap i j c2.s c.s (by rw [List.getElem?_map,hi2];rfl) (by rw [List.getElem?_map,hi];rfl) e
          exact h3 ⟨hn2,hkk.2⟩
        subst hij
        rw [hi] at hi2
        cases hi2
        exact hie2.symm
      ·exact absurd rfl (hno j c.key (by rw [List.getElem?_map,hi];rfl))
     subst hu
     refine cH (v:=.pointer (some ⟨c.b,0,none⟩)) rfl (Runs.lookup rfl rfl (by simp only [Bool.false_eq_true,if_false] at hrl;exact hrl)) ?_
     refine aA ?_
     have hc:=hM6.sets.each c (List.mem_of_getElem? hi)
     have hpc:=aE (cs:=c.cells) hc.blk
     refine_lift dR fun _ _ => ?_
     have hdl:c.s.data.length≤10000:=by
      have h1:=EA (List.getElem_mem hlt2)
      rw [sO,← hcj] at h1
      omega
     refine aN (enters_of Tryz.func107 rfl rfl) rfl rfl (YE hc.own (by omega)) ?_
     rintro e w7 ⟨rfl,o7,m7⟩
     refine ⟨_,rfl,?_⟩
     refine aA ?_
     have b7:=m7.at hc.blk (fun e=>(hc.own.neBlock hc.blk (by omega)) e.symm)
     clear hpc
     have hpc:=aE (cs:=c.cells) b7
     refine_lift dR fun _ _ => ?_
     refine aN (enters_of Tryz.func108 rfl rfl) rfl rfl (YF o7) ?_
     rintro e w8 ⟨v8,rfl,o8,m8,k8⟩
     refine ⟨_,rfl,?_⟩
     refine aA ?_
     have b8:=m8.at b7 (fun e=>(o7.neBlock b7 (by omega)) e.symm)
     clear hpc
     have hpc:=aE (cs:=c.cells) b8
     refine_lift bR ?_
     refine aM (cs:=c.cells) b8 rfl rfl rfl (show 3 < 4 by omega) (by decide +kernel) o8.one ?_
     intro w9 p9
     have hM9:L1 w w9 u5 (gcs2.set j ⟨c.b,v8,mR c.s⟩):=by
      have m78:Mv c.v.ownBlock w6 w8:=m7.trans m8
      have hg:=hM6.sets.turn (c':=⟨c.b,v8,mR c.s⟩) hi rfl m78 o8 (.inl k8) p9
      obtain ⟨es,ck,hm1,hm2,hm3⟩:=hM6.map.out
      have hnm:c.v.ownBlock≠some w.heap.size:=hc.own.neMap hm1
      have hm8:=m78.at hm1 (fun e=>hnm e.symm)
      refine ⟨?_,?_,?_,hg⟩
      ·refine (hM6.ext.move m78 (fun k hk=>by have:=(hc.own.block k hk).1;omega)).move p9.mv (by rintro k ⟨⟩;have:=hc.ge;omega)
      ·have hm:=hM6.map.at (w':=w9) (fun o ho=>by
        rw [hm1] at ho;cases ho
        exact p9.at hm8 (fun e=>by have b:=b8;have h:=hm8;rw [e] at h;rw [b] at h;cases h))
       rw [lI (c':=⟨c.b,v8,mR c.s⟩) hi rfl]
       exact hm
      ·have hk13:=hM6.keys
       rw [nP (c':=⟨c.b,v8,mR c.s⟩) hi rfl]
       have hk14:=hk13.mv m78 (hk13.ne hc.own (by omega))
       exact hk14.mv p9.mv (.inr (hk14.neBlock b8 (by omega)))
     have hout9:Own (w.heap.size + 1) 4 131 w9 u12 ((gcs2.take j).map GC.cells):=by
      have h1:=hout6.mv (m7.trans m8) (hout6.ne hc.own (by omega))
      exact h1.mv p9.mv (.inr (hob c (List.mem_of_getElem? hi)))
     have b9:w9.heap[c.b]? = some (.cells [aI c.s.name, .int .i64 c.s.kind, .int .i64 c.s.ttl,v8].toArray 131 (0,0)):=p9.this
     have o9:Own (w.heap.size + 1) 1 9 w9 v8 (aP (mR c.s).data):=(hM9.sets.each ⟨c.b,v8,mR c.s⟩ (List.mem_of_getElem? (List.getElem?_set_self hjl))).own
     have hnl:(aP (mR c.s).data).length=(mR c.s).data.length:=bA _
     clear hpc m7 m8 p9 x6 hp6 b7 b8 o7 o8
     have hpc:=aE b9
     have hsl9:=o9.sl
     refine_lift xD (fun _ => ?_) (fun _ => ?_)
     ·have hlong:=‹20 < ((aP (mR c.s).data).length:Int)›
      go_ret2
      refine ⟨_,rfl,hM9.ext,?_⟩
      have hE:iK l=4:=by
       have h1:(eV l).any LX=true:=by
        rw [List.any_eq_true]
        refine ⟨mR c.s,?_,by simp [LX];omega⟩
        rw [hcj,eV]
        exact List.mem_map.2 ⟨_,List.getElem_mem hlt2,rfl⟩
       rw [iK,if_neg (by rw [hall];simp),if_pos h1]
      unfold GroupO
      rw [hE,if_neg (by omega)]
      rfl
     ·have hshort:=‹((aP (mR c.s).data).length:Int)≤20›
      refine_lift bR ?_
      refine bN (e:=131) (k:=4) (bytes:=56) (xs:=[.agg #[aI c.s.name, .int .i64 c.s.kind, .int .i64 c.s.ttl,v8]]) rfl rfl rfl (by simp [Value.cells]) (by decide +kernel) (by simp) ?_
      intro v10 w10 x10 s10 sl10 _
      refine aA ?_
      refine_lift bR ?_
      have hM10:=hM9.grow x10
      have hol:((gcs2.take j).map GC.cells).length=j:=by rw [List.length_map,List.length_take];omega
      refine fY (B:=w.heap.size + 1) (e:=131) (k:=4) (bytes:=56) rfl (hout9.ext x10) rfl sl10 (by decide +kernel) (by intro f hf u hu;simp only [List.map_cons,List.map_nil,List.mem_singleton] at hf;subst hf;simp only [Value.cells,List.mem_cons,List.not_mem_nil,or_false] at hu;rcases hu with rfl | rfl | rfl | rfl;rfl;rfl;rfl;exact o9.one) (by have:=hM10.map.lt;omega) (by rw [hol];simp;omega) (by rw [hol];simp;omega) ?_
      intro v11 w11 o11 m11 k11
      have hob2:∀ x ∈ gcs2.set j ⟨c.b,v8,mR c.s⟩,u12.ownBlock≠some x.b:=by
       intro x hx
       rcases xT hx with rfl | ⟨i,_,hx⟩
       ·exact hob c (List.mem_of_getElem? hi)
       ·exact hob x (List.mem_of_getElem? hx)
      have hM11:L1 w w11 u5 (gcs2.set j ⟨c.b,v8,mR c.s⟩):=hM10.mvOut m11 (hout9.ext x10) hob2
      refine_lift bR ?_
      refine ⟨⟨j + 1,_,by omega,rfl,hM11,?_,?_,?_,?_⟩,by simp [intOf];omega⟩
      ·rw [List.map_set,hs2,fR hlt2]
       have hA:(((dC l).take j).map mR).length=j:=by rw [List.length_map,List.length_take];omega
       rw [List.set_append_right _ _ (by omega),hA,Nat.sub_self,List.drop_eq_getElem_cons hlt2,List.set_cons_zero,List.append_assoc,hcj]
       rfl
      ·rw [fR hlt2,List.any_append,hbig,← hcj]
       simp [LX];omega
      ·have e1:((gcs2.set j ⟨c.b,v8,mR c.s⟩).take (j + 1)).map GC.cells=(gcs2.take j).map GC.cells ++ [[aI c.s.name, .int .i64 c.s.kind, .int .i64 c.s.ttl,v8]]:=by
        rw [fR (by rw [List.length_set];exact hjl)]
        congr 1
        ·rw [List.take_set_of_le (Nat.le_refl _)]
        ·rw [List.getElem_set_self];rfl
       rw [e1]
       simpa [Value.cells] using o11
      ·intro x hx
       have hxb:x.b < w9.heap.size:=(Array.getElem?_eq_some_iff.1 (hM9.sets.each x hx).blk).1
       rcases k11 with h | h
       ·rw [h];exact hob2 x hx
       ·rw [h];intro e;have:=Option.some.inj e;omega
    ·have hj2:j=(dC l).length:=by omega
     subst hj2
     rw [List.take_length,List.drop_length,List.append_nil] at hs2
     rw [List.take_length] at hbig
     rw [← hl2,List.take_length] at hout
     have hosl:=hout.sl
     have hol:(gcs2.map GC.cells).length=(dC l).length:=by rw [List.length_map,hl2]
     have hbig2:(eV l).any LX=false:=hbig
     have hgl2:(eV l).length=(dC l).length:=by rw [eV,List.length_map]
     refine_lift VX (fun _ _ _ _ => ?_) (fun _ _ _ _ => ?_)
     ·have h200:=‹200 < (gcs2.length:Int)›
      go_ret2
      refine ⟨_,rfl,hM.ext,?_⟩
      have hE:iK l=4:=by rw [iK,if_neg (by rw [hall];simp),if_neg (by rw [hbig2];simp),if_pos (by omega)]
      unfold GroupO
      rw [hE,if_neg (by omega)]
      rfl
     ·have h200:=‹(gcs2.length:Int)≤200›
      have hE:iK l=0:=by rw [iK,if_neg (by rw [hall];simp),if_neg (by rw [hbig2];simp),if_neg (by omega)]
      rcases hout.form with ⟨rfl,h0⟩ | ⟨g,cap,hform,hgs3,hgB,hgc,hg63⟩
      ·have hg0:gcs2=[]:=by simpa using h0
       subst hg0
       refine aN (enters_of Tryz.func109 rfl rfl) rfl rfl (RW _ _) ?_
       rintro e w7 ⟨rfl,rfl⟩
       refine ⟨_,rfl,?_⟩
       refine aA ?_
       refine_lift bR ?_
       go_ret2
       refine ⟨_,rfl,hM.ext,?_⟩
       unfold GroupO
       rw [hE,if_pos rfl]
       refine ⟨[], .slice none 0 0,rfl,?_,?_,SetsO.nil _ _⟩
       ·have:eV l=[]:=by rw [eV,← hs2];rfl
        rw [this]
       ·intro i j s t _ hs;simp at hs
      ·have hcells:(gcs2.map GC.toC).map SetC.cells=gcs2.map GC.cells:=by
        rw [List.map_map]
        apply List.map_congr_left
        intro c hc
        exact GC.toC_cells (hM.sets.each c hc)
       have hlen:(gcs2.map GC.cells).length=(gcs2.map GC.toC).length:=by simp
       rw [hlen] at hform
       have hout2:=hout
       rw [← hcells,hform] at hout2
       rw [hform]
       refine aN (enters_of Tryz.func109 rfl rfl) rfl rfl (YO _ _ hout2 (by rw [List.length_map];omega)) ?_
       rintro e w7 ⟨rfl,l',hperm,hsort,o7,m7⟩
       refine ⟨_,rfl,?_⟩
       refine aA ?_
       refine_lift bR ?_
       have hob7:∀ c ∈ gcs2,(Value.slice (some ⟨g,0,none⟩) (gcs2.map GC.toC).length cap).ownBlock≠some c.b:=by
        intro c hc;rw [← hform];exact hob c hc
       have hM7:L1 w w7 u5 gcs2:=hM.mvOut (out:=.slice (some ⟨g,0,none⟩) (gcs2.map GC.toC).length cap) m7 hout2 hob7
       go_ret2
       refine ⟨_,rfl,hM7.ext,?_⟩
       unfold GroupO
       rw [hE,if_pos rfl]
       have hll:l'.length=(gcs2.map GC.toC).length:=hperm.length_eq
       refine ⟨l'.map SetC.toS, .slice (some ⟨g,0,none⟩) gcs2.length cap,rfl,?_,?_,⟨l'.map SetC.cells,by rw [hll,List.length_map] at o7;exact o7.sl,by rw [hll,List.length_map] at o7;exact o7.from' (Nat.le_succ _),⟨by simp,?_⟩,?_⟩⟩
       ·have h1:=hperm.map SetC.toS
        have h2:(gcs2.map GC.toC).map SetC.toS=eV l:=by
         rw [eV,← hs2,List.map_map]
         apply List.map_congr_left
         intro c hc
         rfl
        rw [h2] at h1
        exact h1
       ·intro i j s t hij hs ht
        rw [List.getElem?_map] at hs ht
        cases hi:l'[i]? with
        | none=>rw [hi] at hs;cases hs
        | some a =>
         cases hj3:l'[j]? with
         | none=>rw [hj3] at ht;cases ht
         | some b =>
          rw [hi] at hs;rw [hj3] at ht
          cases hs;cases ht
          obtain ⟨hi1,rfl⟩:=List.getElem?_eq_some_iff.1 hi
          obtain ⟨hj1,rfl⟩:=List.getElem?_eq_some_iff.1 hj3
          exact hsort i j hij hj1
       ·intro i s hs
        rw [List.getElem?_map] at hs
        cases hi:l'[i]? with
        | none=>rw [hi] at hs;cases hs
        | some a =>
         rw [hi] at hs
         cases hs
         have hmem:=hperm.mem_iff.1 (List.mem_of_getElem? hi)
         obtain ⟨c,hc,rfl⟩:=List.mem_map.1 hmem
         have hck:=hM7.sets.each c hc
         refine ⟨c.v,by rw [List.getElem?_map,hi,Option.map_some,GC.toC_cells hck];rfl,hck.own.sl⟩
       ·intro f hf u hu
        obtain ⟨a,ha,rfl⟩:=List.mem_map.1 hf
        obtain ⟨c,hc,rfl⟩:=List.mem_map.1 (hperm.mem_iff.1 ha)
        have hck:=hM7.sets.each c hc
        rw [GC.toC_cells hck] at hu
        simp only [GC.cells,List.mem_cons,List.not_mem_nil,or_false] at hu
        rcases hu with rfl | rfl | rfl | rfl
        ·intro b o s n c e;cases e
        ·intro b o s n c e;cases e
        ·intro b o s n c e;cases e
        ·exact hck.own.from' (Nat.le_succ _)
theorem t9 (v:Value) (l:List Rec) (w:World) (hv:Sl 4 w v (aO l)) (hl:l.length≤10000):Calls Tryz.prog 60 #[v] w (oA w (GX l)):=by
 refine (XU v l w hv hl).mono ?_
 rintro e w' ⟨r,h1,h2,h3⟩
 exact ⟨r,h1,h2,h3.group⟩
end Go.Proofs.X
