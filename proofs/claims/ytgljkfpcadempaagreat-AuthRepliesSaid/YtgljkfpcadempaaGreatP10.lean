/- Laws and walks that the proof of the statement is made of (part 10). -/
import Derived.Test.YtgljkfpcadempaaGreatP9
set_option linter.unusedSimpArgs false
set_option linter.unusedVariables false
namespace Go.Proofs.X
open Go.RowKit
set_option maxRecDepth 100000
structure SetsM (B:Nat) (w0 w:World) (css0 css:List (List Value)) (l:List RSet) (d:List UInt8) (k:Nat):Prop where
 len:css.length=l.length
 new:∀ (i:Nat) (s:RSet),l[i]? = some s→i < k→∃ x,css[i]? = some [aI s.name, .int .i64 s.kind, .int .i64 s.ttl,x]∧Own B 1 9 w x (aP (rR d s).data)
 old:∀ i,k≤i→css[i]? = css0[i]?
theorem SetsM.ext {B:Nat} {w0 w w':World} {css0 css:List (List Value)} {l:List RSet} {d:List UInt8} {k:Nat} (h:SetsM B w0 w css0 css l d k) (hx:Ext w w'):SetsM B w0 w' css0 css l d k :=
 ⟨h.len,fun i s hi hk=>let ⟨x,a,b⟩:=h.new i s hi hk;⟨x,a,b.ext hx⟩,h.old⟩
theorem SetsM.mv {B:Nat} {w0 w w':World} {css0 css:List (List Value)} {l:List RSet} {d:List UInt8} {k:Nat} {row:Option Nat} (h:SetsM B w0 w css0 css l d k) (hm:Mv row w w') (hne:∀ x es,Own B 1 9 w x es→x.ownBlock=none∨x.ownBlock≠row):SetsM B w0 w' css0 css l d k :=
 ⟨h.len,fun i s hi hk=>let ⟨x,a,b⟩:=h.new i s hi hk;⟨x,a,b.mv hm (hne x _ b)⟩,h.old⟩
theorem SetsM.step {B:Nat} {w0 w:World} {css0 css:List (List Value)} {l:List RSet} {d:List UInt8} {k:Nat} (h:SetsM B w0 w css0 css l d k) (hk:k < l.length) {y:Value} (hy:Own B 1 9 w y (aP (rR d l[k]).data)) :
 SetsM B w0 w css0 (css.set k [aI l[k].name, .int .i64 l[k].kind, .int .i64 l[k].ttl,y]) l d (k + 1):=by
 refine ⟨by rw [List.length_set,h.len],fun i s hi hik => ?_,fun i hi => ?_⟩
 ·by_cases e:k=i
  ·subst e
   rw [List.getElem?_eq_getElem hk] at hi
   cases hi
   exact ⟨y,List.getElem?_set_self (by rw [h.len];exact hk),hy⟩
  ·obtain ⟨x,a,b⟩:=h.new i s hi (by omega)
   exact ⟨x,by rw [List.getElem?_set_ne e];exact a,b⟩
 ·rw [List.getElem?_set_ne (by omega)];exact h.old i (by omega)
theorem KC {d:List UInt8} {s:RSet}:(rR d s).name=s.name∧(rR d s).kind=s.kind∧(rR d s).ttl=s.ttl:=by
 unfold rR;split <;> exact ⟨rfl,rfl,rfl⟩
theorem SetsM.done {B:Nat} {w0 w:World} {css0 css:List (List Value)} {l:List RSet} {d:List UInt8} (h:SetsM B w0 w css0 css l d l.length):SetsW B w css (l.map (rR d)):=by
 refine ⟨by rw [List.length_map,h.len],fun i s hi => ?_⟩
 rw [List.getElem?_map] at hi
 cases hq:l[i]? with
 | none=>rw [hq] at hi;cases hi
 | some t =>
  rw [hq] at hi
  cases hi
  obtain ⟨x,a,b⟩:=h.new i t hq (List.getElem?_eq_some_iff.1 hq).1
  obtain ⟨e1,e2,e3⟩:=KC (d:=d) (s:=t)
  exact ⟨x,by rw [e1,e2,e3];exact a,b⟩
theorem MR {d:List UInt8} {s:SoaR} (h:cS d=some s):s.ok=true:=by
 unfold cS at h
 simp only at h
 split at h
 ·rename_i hh;cases h;exact hh.2.2.2
 ·cases h
theorem ZoneOk.only {o:List UInt8} {l:List RSet} (h:ZoneOk o l) {s:RSet} (hs:s ∈ l) (h6:s.kind=6):s.data=[jJ o l]:=by
 obtain ⟨t,ht,_,_,_,hd,_⟩:=h.soaSet
 obtain ⟨i,hi,rfl⟩:=List.mem_iff_getElem.1 hs
 have hf:=tW h.chk hi
 rw [h6,(h.one6 hs h6).1,ht] at hf
 rw [← Option.some.inj hf]
 exact hd
theorem ZoneOk.back {o d:List UInt8} {l:List RSet} (h:ZoneOk o l):(l.map (rR d)).map (rR (jJ o l))=l:=by
 rw [List.map_map]
 conv=>rhs;rw [← List.map_id l]
 apply List.map_congr_left
 intro s hs
 simp only [Function.comp,id]
 by_cases h6:s.kind=6
 ·rw [FA (d:=d) h6,FA (by exact h6)]
  have:=h.only hs h6
  cases s
  simp only at this
  rw [this]
 ·rw [IK (d:=d) h6,IK h6]
theorem vE {l:List RSet} {r:Rec} (h:r ∈ aX l):∃ s ∈ l,∃ d ∈ s.data,r=mQ s d:=by
 simp only [aX,List.mem_flatten,List.mem_map] at h
 obtain ⟨rs,⟨s,hs,rfl⟩,hr⟩:=h
 simp only [cE,List.mem_map] at hr
 obtain ⟨d,hd,rfl⟩:=hr
 exact ⟨s,hs,d,hd,rfl⟩
def BI (a b:List Rec):List Rec:=a.filter fun r => !decide (r ∈ b)
structure DeltaR where
 fr:Int
 to:Int
 gone:List Rec
 new:List Rec
 deriving DecidableEq,Inhabited
def QP:DeltaR:=⟨0,0,[],[]⟩
def UU (oa:List UInt8) (la:List RSet) (ob:List UInt8) (lb:List RSet):Int :=
 if bZ oa la=0 then (if bZ ob lb=0 then (if oa=ob then 0 else 1) else bZ ob lb) else bZ oa la
def UV (oa:List UInt8) (la:List RSet) (ob:List UInt8) (lb:List RSet):DeltaR :=
 if UU oa la ob lb=0 then ⟨(eF oa la).serial,(eF ob lb).serial,BI (aX la) (aX lb),BI (aX lb) (aX la)⟩ else QP
def QR:List Rec→List Rec→Option (List Rec)
 | l,[]=>some l
 | l,r :: g=>if r ∈ l then QR (l.erase r) g else none
def UW:List Rec→List Rec→Option (List Rec)
 | l,[]=>some l
 | l,r :: g=>if r ∈ l then none else UW (l ++ [r]) g
def IL (l:List Rec) (d:DeltaR):Option (List Rec):=(QR l d.gone).bind fun m=>UW m d.new
def UX (o:List UInt8) (m:List Rec) (to:Int):Int :=
 if jW o m=0 then (if (eF (pN o m) (pO o m)).serial=to∧(aX (pO o m)).length=m.length∧BI m (aX (pO o m))=[] then 0 else 2) else jW o m
def rS (o:List UInt8) (l:List RSet) (d:DeltaR):Int :=
 if bZ o l=0 then (if (eF o l).serial=d.fr then (match IL (aX l) d with
  | none=>5
  | some m=>UX o m d.to) else 7) else bZ o l
def HJ (o:List UInt8) (l:List RSet) (d:DeltaR):List RSet:=if rS o l d=0 then pO o ((IL (aX l) d).getD []) else []
def FB (o:List UInt8) (l:List RSet) (d:DeltaR):List UInt8:=if rS o l d=0 then pN o ((IL (aX l) d).getD []) else []
theorem Ch.same {L M:List Rec} {s:RSet} (h:Ch L s) (hm:∀ r,r ∈ L↔r ∈ M):Ch M s where
 dat d:=by
  rw [h.dat]
  constructor
  ·rintro ⟨r,h1,h2⟩;exact ⟨r,(hm r).1 h1,h2⟩
  ·rintro ⟨r,h1,h2⟩;exact ⟨r,(hm r).2 h1,h2⟩
 ttl:=let ⟨r,h1,h2⟩:=h.ttl;⟨r,(hm r).1 h1,h2⟩
 low r h1 h2:=h.low r ((hm r).2 h1) h2
theorem UY {oa ob:List UInt8} {la lb:List RSet} (h:UU oa la ob lb=0):ZoneOk oa la∧ZoneOk oa lb∧oa=ob∧UV oa la ob lb=⟨(eF oa la).serial,(eF oa lb).serial,BI (aX la) (aX lb),BI (aX lb) (aX la)⟩:=by
 have h0:=h
 unfold UU at h
 split at h
 ·rename_i q1
  split at h
  ·rename_i q2
   split at h
   ·rename_i q3
    subst q3
    exact ⟨jC q1,jC q2,rfl,by rw [UV,if_pos h0]⟩
   ·cases h
  ·rename_i q2;exact absurd h q2
 ·rename_i q1;exact absurd h q1
def KD:List Value:=[aI [], .int .i64 0, .int .i64 0,aI []]
set_option maxHeartbeats 3000000 in
theorem tB (v:Value) (l:List Rec) (w:World) (hv:Sl 4 w v (aO l)) (hl:l.length≤1000000):Calls Tryz.prog 67 #[v] w (oA w fun v' w'=>Own w.heap.size 4 106 w' v' (aO l)):=by
 have hlen:=aQ l
 go_enter Tryz.func67,Tryz.ntmps67
 (repeat' first | ((with_reducible refine cY ?_);go_step) | ((with_reducible refine cJ ?_);first | refine eS ?_ | (refine dD ?_ ?_ <;> intro hc)) | fail)
 ·have hn:=‹DQ v=true›
  go_ret
  have:aO l=[]:=hv.isNil hn
  refine ⟨_,rfl,Ext.refl _,?_⟩
  rw [this]
  exact Own.nil _ _ _ _
 ·refine rH (t:=24) (e:=106) (k:=4) (bytes:=48) (by decide +kernel) rfl ?_
  intro v2 w2 x2 s2 o2
  refine aA ?_
  (repeat' first | ((with_reducible refine cY ?_);go_step) | ((with_reducible refine cJ ?_);first | refine eS ?_ | (refine dD ?_ ?_ <;> intro hc)) | fail)
  refine bU (B:=w.heap.size) (e:=106) rfl o2 rfl (hv.ext x2) (by intro f hf u hu;obtain ⟨r,_,rfl⟩:=List.mem_map.1 hf;simp only [Rec.cells,List.mem_cons,List.not_mem_nil,or_false] at hu;rcases hu with rfl | rfl | rfl | rfl <;> rfl) x2.size (by simp;omega) ?_
  intro v3 w3 o3 m3 _
  have x3:=o2.mvx m3 x2 (Nat.le_refl _)
  refine aA ?_
  (repeat' first | ((with_reducible refine cY ?_);go_step) | ((with_reducible refine cJ ?_);first | refine eS ?_ | (refine dD ?_ ?_ <;> intro hc)) | fail)
  go_ret
  exact ⟨_,rfl,x3,by simpa using o3⟩
def WJ:List Value:=[.int .i64 0, .int .i64 0, .slice none 0 0, .slice none 0 0]
def DelA (d:DeltaR) (r:Value) (w:World):Prop:=∃ g n,r=.agg #[.int .i64 d.fr, .int .i64 d.to,g,n]∧Sl 4 w g (aO d.gone)∧Sl 4 w n (aO d.new)
def DelO (B:Nat) (d:DeltaR) (r:Value) (w:World):Prop:=∃ g n,r=.agg #[.int .i64 d.fr, .int .i64 d.to,g,n]∧Own B 4 106 w g (aO d.gone)∧Own B 4 106 w n (aO d.new)
theorem DelO.a {B:Nat} {d:DeltaR} {r:Value} {w:World} (h:DelO B d r w):DelA d r w:=let ⟨g,n,e,a,b⟩:=h;⟨g,n,e,a.sl,b.sl⟩
def DelU (B:Nat) (d:DeltaR) (e:Int) (r:Value) (w:World):Prop:=∃ y,r=.tuple #[y, .int .i64 e]∧DelO B d y w
theorem DelU.bad {B:Nat} {d:DeltaR} {e:Int} {w:World} (h:d=QP):DelU B d e (.tuple #[.agg WJ.toArray, .int .i64 e]) w:=by
 subst h
 exact ⟨_,rfl,_,_,rfl,Own.nil _ _ _ _,Own.nil _ _ _ _⟩
structure OwnOff (B k:Nat) (e:TypeId) (w:World) (v:Value) (es:List (List Value)):Prop where
 row:(v=.slice none 0 0∧es=[])∨∃ g o cap cur fz,v=.slice (some ⟨g,o * k,none⟩) es.length cap∧B≤g∧w.heap[g]? = some (.cells cur e fz)∧(fz.2≤fz.1∨cur.size≤fz.1)∧es.length≤cap∧cap≤maxLen∧(o + cap) * k≤cur.size∧(cur.toList.drop (o * k)).take (es.length * k)=es.flatten
 each:∀ x ∈ es,x.length=k
theorem Own.off {B k e:Nat} {w:World} {v:Value} {es:List (List Value)} (h:Own B k e w v es):OwnOff B k e w v es:=by
 refine ⟨?_,h.each⟩
 rcases h.row.2 with ⟨rfl,h0⟩ | ⟨g,cap,cur,fz,rfl,hb,hg,hfz,hnc,hcm,hcs,htake⟩
 ·exact .inl ⟨rfl,List.eq_nil_of_length_eq_zero h0⟩
 ·exact .inr ⟨g,0,cap,cur,fz,by simp,hb,hg,hfz,hnc,hcm,by rw [Nat.zero_add];exact Nat.le_of_eq hcs.symm,by simpa using htake⟩
theorem OwnOff.nil (B k:Nat) (e:TypeId) (w:World):OwnOff B k e w (.slice none 0 0) []:=(Own.nil B k e w).off
theorem OwnOff.type {B k e:Nat} {w:World} {v:Value} {es:List (List Value)} (h:OwnOff B k e w v es) {r:Nat} (hr:v.ownBlock=some r):B≤r∧r < w.heap.size∧∃ cur fz,w.heap[r]? = some (.cells cur e fz):=by
 rcases h.row with ⟨rfl,_⟩ | ⟨g,o,cap,cur,fz,rfl,hb,hg,_⟩
 ·simp [Value.ownBlock] at hr
 ·simp [Value.ownBlock] at hr;subst hr;exact ⟨hb,(Array.getElem?_eq_some_iff.1 hg).1,cur,fz,hg⟩
theorem OwnOff.neBlock {B k e t b:Nat} {w:World} {v:Value} {es:List (List Value)} {cs:Array Value} {fz:Nat × Nat} (h:OwnOff B k e w v es) (hb:w.heap[b]? = some (.cells cs t fz)) (ht:t≠e):v.ownBlock≠some b:=fun e'=>by
 obtain ⟨_,_,cur,fz',h'⟩:=h.type e'
 rw [hb] at h'
 simp only [Option.some.injEq,Obj.cells.injEq] at h'
 exact ht h'.2.1
theorem OwnOff.mv {B k e:Nat} {w w':World} {v:Value} {es:List (List Value)} {row:Option Nat} (h:OwnOff B k e w v es) (hm:Mv row w w') (hne:v.ownBlock=none∨v.ownBlock≠row):OwnOff B k e w' v es:=by
 refine ⟨h.row.imp id ?_,h.each⟩
 rintro ⟨g,o,cap,cur,fz,rfl,hb,hg,r⟩
 refine ⟨g,o,cap,cur,fz,rfl,hb,hm.at hg ?_,r⟩
 rcases hne with hne | hne
 ·simp [Value.ownBlock] at hne
 ·simpa [Value.ownBlock] using hne
theorem OwnOff.ext {B k e:Nat} {w w':World} {v:Value} {es:List (List Value)} (h:OwnOff B k e w v es) (hx:Ext w w'):OwnOff B k e w' v es:=by
 refine ⟨h.row.imp id ?_,h.each⟩
 rintro ⟨g,o,cap,cur,fz,rfl,hb,hg,r⟩
 exact ⟨g,o,cap,cur,fz,rfl,hb,hx.at hg,r⟩
theorem OwnOff.weaken {B C k e:Nat} {w:World} {v:Value} {es:List (List Value)} (h:OwnOff B k e w v es) (hc:C≤B):OwnOff C k e w v es :=
 ⟨h.row.imp id fun ⟨g,o,cap,cur,fz,a,b,r⟩=>⟨g,o,cap,cur,fz,a,Nat.le_trans hc b,r⟩,h.each⟩
theorem OwnOff.sl {B k e:Nat} {w:World} {v:Value} {es:List (List Value)} (h:OwnOff B k e w v es):Sl k w v es:=by
 rcases h.row with ⟨rfl,rfl⟩ | ⟨g,o,cap,cur,fz,rfl,hb,hg,hfz,hnc,hcm,hcs,htake⟩
 ·exact Sl.nil _ _
 ·refine ⟨_,cap,rfl,hnc,by unfold maxLen at hcm;omega,h.each,(fun e=>by cases e),fun _=>⟨g,o * k,rfl,?_⟩⟩
  intro i ce j x hi hj
  have hfl:=iT h.each hi hj
  rw [← htake,List.getElem?_take] at hfl
  split at hfl
  ·rw [List.getElem?_drop] at hfl
   have hlt:o * k + (i * k + j) < cur.size:=by
    have:=(List.getElem?_eq_some_iff.1 hfl).1
    simpa using this
   simp only [World.cell?,hg]
   rw [← Nat.add_assoc] at hfl
   simpa [Array.getElem?_toList] using hfl
  ·cases hfl
theorem OwnOff.drop {B k e:Nat} {w:World} {v:Value} {es:List (List Value)} (h:OwnOff B k e w v es) {m:Nat} (hm:m≤es.length):OwnOff B k e w (dU v k m es.length) (es.drop m):=by
 refine ⟨?_,fun x hx=>h.each x (List.mem_of_mem_drop hx)⟩
 rcases h.row with ⟨rfl,rfl⟩ | ⟨g,o,cap,cur,fz,rfl,hb,hg,hfz,hnc,hcm,hcs,htake⟩
 ·have:m=0:=by simpa using hm
  subst this
  exact .inl ⟨by simp [dU],rfl⟩
 ·have hfl:=bO h.each
  by_cases hc:cap=m
  ·have hlm:es.length=m:=by omega
   refine .inr ⟨g,o,0,cur,fz,?_,hb,hg,hfz,?_,by unfold maxLen;omega,?_,?_⟩
   ·simp [dU,hc,hlm]
   ·simp [hlm]
   ·have:(o + 0) * k≤(o + cap) * k:=Nat.mul_le_mul_right k (by omega)
    omega
   ·have h0:es.drop m=[]:=by rw [← hlm,List.drop_length]
    rw [h0]
    simp
  ·refine .inr ⟨g,o + m,cap - m,cur,fz,?_,hb,hg,hfz,?_,by omega,?_,?_⟩
   ·simp [dU,hc,dW,Nat.add_mul]
   ·simp;omega
   ·rw [show o + m + (cap - m)=o + cap by omega];exact hcs
   ·have hd:=nJ es m h.each
    rw [hd,← htake,List.drop_take,List.drop_drop,List.length_drop,Nat.add_mul,← Nat.sub_mul]
section
variable {P:Program} {ops:Array Oper} {Q:Exit→Act→World→Prop} {w:World} {rest:List Oper} {ts:List Value} {df:List Deferred} {ty:TypeId} {ps:String} {af:Array Edge}
end
theorem Pts.front {w:World} {p:Value} {vs:List Value} (h:Pts w p vs) (n:Nat):Pts w p (vs.take n):=by
 obtain ⟨b,o,e,hc⟩:=h
 refine ⟨b,o,e,fun j x hx=>hc j x ?_⟩
 rw [List.getElem?_take] at hx
 split at hx
 ·exact hx
 ·cases hx
section
variable {P:Program} {w:World} {ts:List Value} {df:List Deferred} {d:Option Nat} {ty:TypeId} {ps:String} {af:Array Edge} {g:Option (Nat × Bool)}
end
structure SetsN (B:Nat) (w:World) (css0 css:List (List Value)) (l:List RSet) (k:Nat):Prop where
 len:css.length=l.length
 new:∀ (i:Nat) (s:RSet),l[i]? = some s→i < k→∃ x,css[i]? = some [aI s.name, .int .i64 s.kind, .int .i64 s.ttl,x]∧Own B 1 9 w x (aP s.data)
 old:∀ i,k≤i→css[i]? = css0[i]?
theorem SetsN.ext {B:Nat} {w w':World} {css0 css:List (List Value)} {l:List RSet} {k:Nat} (h:SetsN B w css0 css l k) (hx:Ext w w'):SetsN B w' css0 css l k :=
 ⟨h.len,fun i s hi hk=>let ⟨x,a,b⟩:=h.new i s hi hk;⟨x,a,b.ext hx⟩,h.old⟩
theorem SetsN.mv {B:Nat} {w w':World} {css0 css:List (List Value)} {l:List RSet} {k:Nat} {row:Option Nat} (h:SetsN B w css0 css l k) (hm:Mv row w w') (hne:∀ x es,Own B 1 9 w x es→x.ownBlock=none∨x.ownBlock≠row):SetsN B w' css0 css l k :=
 ⟨h.len,fun i s hi hk=>let ⟨x,a,b⟩:=h.new i s hi hk;⟨x,a,b.mv hm (hne x _ b)⟩,h.old⟩
theorem SetsN.step {B:Nat} {w:World} {css0 css:List (List Value)} {l:List RSet} {k:Nat} (h:SetsN B w css0 css l k) (hk:k < l.length) {y:Value} (hy:Own B 1 9 w y (aP l[k].data)) :
 SetsN B w css0 (css.set k [aI l[k].name, .int .i64 l[k].kind, .int .i64 l[k].ttl,y]) l (k + 1):=by
 refine ⟨by rw [List.length_set,h.len],fun i s hi hik => ?_,fun i hi => ?_⟩
 ·by_cases e:k=i
  ·subst e
   rw [List.getElem?_eq_getElem hk] at hi
   cases hi
   exact ⟨y,List.getElem?_set_self (by rw [h.len];exact hk),hy⟩
  ·obtain ⟨x,a,b⟩:=h.new i s hi (by omega)
   exact ⟨x,by rw [List.getElem?_set_ne e];exact a,b⟩
 ·rw [List.getElem?_set_ne (by omega)];exact h.old i (by omega)
theorem SetsN.done {B:Nat} {w:World} {css0 css:List (List Value)} {l:List RSet} (h:SetsN B w css0 css l l.length):SetsW B w css l :=
 ⟨h.len,fun i s hi=>h.new i s hi (List.getElem?_eq_some_iff.1 hi).1⟩
section
variable {P:Program} {a:Act} {w:World} {d:Option Nat} {ty:TypeId} {ps:String} {af:Array Edge} {g:Option (Nat × Bool)}
theorem Runs.isNil {t u:TypeId} {x y:Operand} {p:Option Addr} (hx:a.eval x=.pointer p) (hy:a.eval y=.pointer none) (ht:P.underlying t=some (.pointer (P.pointee t))) :
 Runs P (Oper.mk d (.binOp .eql t x y u) ty ps af g) a w (.bool p.isNone):=by
 constructor
 simp [execOp,hx,hy,eqGuard,run_eql_pointer_nil w t p ht]
end
theorem SetsV.sets {B:Nat} {w:World} {v:Value} {l:List RSet} (h:SetsV B w v l):SetsAt w v l:=by
 obtain ⟨css,h1,h2⟩:=h
 exact h2.sets.sets h1.sl
section
variable {P:Program} {a:Act} {w:World} {d:Option Nat} {ty:TypeId} {ps:String} {af:Array Edge} {g:Option (Nat × Bool)}
end
def QS (n:Int):Bool:=decide (0≤n) && decide (n≤4294967295)
def rT (a b:Int):Bool:=QS a && QS b && decide (2147483648 < (b - a) % 4294967296)
section
variable {P:Program} {ops:Array Oper} {Q:Exit→Act→World→Prop} {w:World} {rest:List Oper} {ts:List Value} {df:List Deferred} {d:Option Nat} {ty:TypeId} {ps:String} {af:Array Edge} {g:Option (Nat × Bool)}
end
theorem MS {o:List UInt8} {l:List RSet} (h:ZoneOk o l):l.length≤200∧(∀ s ∈ l,s.data.length≤20)∧(∀ s ∈ l,∀ d ∈ s.data,d.length≤4000)∧(aX l).length≤4000:=by
 have h1:l.length≤200:=by
  have:=h.chk
  unfold cX at this
  split at this
  ·cases this
  ·omega
 have h2:∀ s ∈ l,s.data.length≤20:=fun s hs=>by
  have hm:=h.may hs
  simp only [fW,Bool.and_eq_true,decide_eq_true_eq] at hm
  exact hm.1.2
 refine ⟨h1,h2,fun s hs d hd => ?_,?_⟩
 ·obtain ⟨i,hi,rfl⟩:=List.mem_iff_getElem.1 hd
  exact (pK (HG (h.may hs) hi)).1
 ·have:∀ {L:List RSet},(∀ s ∈ L,s.data.length≤20)→(aX L).length≤20 * L.length:=by
   intro L
   induction L with
   | nil=>intro _;simp [aX]
   | cons s L ih =>
    intro hL
    have e:aX (s :: L)=cE s ++ aX L:=by simp [aX]
    have i1:=ih fun t ht=>hL t (by simp [ht])
    have i2:=hL s (by simp)
    rw [e,List.length_append,cE,List.length_map,List.length_cons]
    omega
  have:=this h2
  omega
def PC (o:List UInt8) (l:List RSet) (o':List UInt8) (l':List RSet):Int :=
 if bZ o' l'≠0 then bZ o' l' else if o'≠o then 1 else if rT (eF o' l').serial (eF o l).serial=false then 7 else 0
def MT (room:Int) (ds:List DeltaR):List DeltaR:=ds.drop (ds.length - room.toNat)
end Go.Proofs.X
set_option linter.unusedSimpArgs false
set_option linter.unusedVariables false
namespace Go.Proofs.X
open Go.RowKit
end Go.Proofs.X
set_option linter.unusedSimpArgs false
set_option linter.unusedVariables false
namespace Go.Proofs.X
open Go.RowKit
set_option maxRecDepth 100000
section
variable {P:Program} {n:Nat} {r:Option Nat} {ops:Array Oper} {Q:Exit→Act→World→Prop} {md:Region.Mode}
end
section
variable {P:Program} {w w':World} {ts:List Value} {df:List Deferred} {d:Option Nat} {ty:TypeId} {ps:String} {af:Array Edge} {g:Option (Nat × Bool)}
end
structure DelN (B:Nat) (w:World) (css0 css:List (List Value)) (ds:List DeltaR) (k:Nat):Prop where
 len:css.length=ds.length
 new:∀ (i:Nat) (d:DeltaR),ds[i]? = some d→i < k→∃ g n,css[i]? = some [.int .i64 d.fr, .int .i64 d.to,g,n]∧Own B 4 106 w g (aO d.gone)∧Own B 4 106 w n (aO d.new)
 old:∀ i,k≤i→css[i]? = css0[i]?
theorem DelN.ext {B:Nat} {w w':World} {css0 css:List (List Value)} {ds:List DeltaR} {k:Nat} (h:DelN B w css0 css ds k) (hx:Ext w w'):DelN B w' css0 css ds k :=
 ⟨h.len,fun i s hi hk=>let ⟨x,y,a,b,c⟩:=h.new i s hi hk;⟨x,y,a,b.ext hx,c.ext hx⟩,h.old⟩
theorem DelN.mv {B:Nat} {w w':World} {css0 css:List (List Value)} {ds:List DeltaR} {k:Nat} {row:Option Nat} (h:DelN B w css0 css ds k) (hm:Mv row w w') (hne:∀ x es,Own B 4 106 w x es→x.ownBlock=none∨x.ownBlock≠row):DelN B w' css0 css ds k :=
 ⟨h.len,fun i s hi hk=>let ⟨x,y,a,b,c⟩:=h.new i s hi hk;⟨x,y,a,b.mv hm (hne x _ b),c.mv hm (hne y _ c)⟩,h.old⟩
theorem DelN.step {B:Nat} {w:World} {css0 css:List (List Value)} {ds:List DeltaR} {k:Nat} (h:DelN B w css0 css ds k) (hk:k < ds.length) {x y:Value} (hx:Own B 4 106 w x (aO ds[k].gone)) (hy:Own B 4 106 w y (aO ds[k].new)) :
 DelN B w css0 (css.set k [.int .i64 ds[k].fr, .int .i64 ds[k].to,x,y]) ds (k + 1):=by
 refine ⟨by rw [List.length_set,h.len],fun i s hi hik => ?_,fun i hi => ?_⟩
 ·by_cases e:k=i
  ·subst e
   rw [List.getElem?_eq_getElem hk] at hi
   cases hi
   exact ⟨x,y,List.getElem?_set_self (by rw [h.len];exact hk),hx,hy⟩
  ·obtain ⟨x,y,a,b⟩:=h.new i s hi (by omega)
   exact ⟨x,y,by rw [List.getElem?_set_ne e];exact a,b⟩
 ·rw [List.getElem?_set_ne (by omega)];exact h.old i (by omega)
def Keep (T:List TypeId) (w w':World):Prop:=∀ (c:Nat) (cs:Array Value) (t:TypeId) (fz:Nat × Nat),w.heap[c]? = some (.cells cs t fz)→t ∉ T→w'.heap[c]? = some (.cells cs t fz)
theorem Keep.trans {T:List TypeId} {a b c:World} (h:Keep T a b) (k:Keep T b c):Keep T a c:=fun i cs t fz hc ht=>k i cs t fz (h i cs t fz hc ht) ht
end Go.Proofs.X
set_option linter.unusedSimpArgs false
set_option linter.unusedVariables false
namespace Go.Proofs.X
open Go.RowKit
end Go.Proofs.X
set_option linter.unusedSimpArgs false
set_option linter.unusedVariables false
namespace Go.Proofs.X
open Go.RowKit
set_option maxRecDepth 100000
theorem eA {l:List Rec}:∀ f ∈ aO l,∀ u ∈ f,u.oneCell'=true:=by
 intro f hf u hu
 obtain ⟨r,_,rfl⟩:=List.mem_map.1 hf
 simp only [Rec.cells,List.mem_cons,List.not_mem_nil,or_false] at hu
 rcases hu with rfl | rfl | rfl | rfl <;> rfl
set_option maxHeartbeats 500000 in
theorem SH (o:List UInt8) (v:Value) (l:List RSet) (w:World) (hv:SetsAt w v l):Calls Tryz.prog 24 #[.agg #[aI o,v]] w (bM w (.bool (decide ((o.length:Int)≤300) && sP l))):=by
 go_enter Tryz.func24,Tryz.ntmps24
 repeat' (first | ((with_reducible refine cY ?_);go_step) | fail)
 refine bJ (vs:=[aI o,v]) rfl rfl ?_
 intro p w1 x1 hp
 refine aA ?_
 have hv1:=hv.ext x1
 (repeat' first | ((with_reducible refine cY ?_);go_step) | ((with_reducible refine cJ ?_);first | refine eS ?_ | (refine dD ?_ ?_ <;> intro hc)) | fail)
 ·refine aD (enters_of Tryz.func59 rfl rfl) rfl rfl (YR v l _ hv1) ?_;intro w2 x2;refine aA ?_
  (repeat' first | ((with_reducible refine cY ?_);go_step) | ((with_reducible refine cJ ?_);first | refine eS ?_ | (refine dD ?_ ?_ <;> intro hc)) | fail)
  go_ret
  exact ⟨by rw [decide_eq_true hc];rfl,x1.trans x2⟩
 ·go_ret
  exact ⟨by rw [decide_eq_false hc];rfl,x1⟩
theorem DelA.ext {d:DeltaR} {r:Value} {w w':World} (h:DelA d r w) (hx:Ext w w'):DelA d r w':=by
 obtain ⟨g,n,e,a,b⟩:=h
 exact ⟨g,n,e,a.ext hx,b.ext hx⟩
theorem KE (pn:Value) (n:List UInt8) (s:RSet) (u:Value) (w:World) (hn:Pts w pn [aI n]):Calls Tryz.prog 212 #[.agg #[aI s.name, .int .i64 s.kind, .int .i64 s.ttl,u],pn] w (bM w (.bool (bQ s.name n))):=by
 go_enter Tryz.func212,Tryz.ntmps212
 refine_lift lF fun _ _ => ?_
 refine bJ (vs:=[aI s.name, .int .i64 s.kind, .int .i64 s.ttl,u]) rfl rfl ?_
 intro ps w1 x1 hs
 refine aA ?_
 have hn1:=hn.ext x1
 refine_lift dR fun _ _ => ?_
 refine aD (enters_of Tryz.func64 rfl rfl) rfl rfl (sX s.name n _) ?_;intro w2 x2;refine aA ?_
 refine_lift bR ?_
 go_ret
 exact ⟨rfl,x1.trans x2⟩
theorem MU (o:List UInt8) (v:Value) (l:List RSet) (n:List UInt8) (w:World) (hv:SetsAt w v l):Calls Tryz.prog 173 #[.agg #[aI o,v],aI n] w (bM w (.bool (l.any fun s=>bQ s.name n))):=by
 go_enter Tryz.func173,Tryz.ntmps173
 refine_lift zN ?_;intro _ _ _
 refine bJ (vs:=[aI o,v]) rfl rfl ?_
 intro p w1 x1 hp
 refine aA ?_
 refine_lift TN ?_
 refine bJ (vs:=[aI n]) rfl rfl ?_
 intro pn w2 x2 hn
 refine aA ?_
 have hx2:=x1.trans x2
 have hp2:=hp.ext x2
 have hv2:=hv.ext hx2
 refine_lift dR fun _ _ => ?_
 have hf:SetFn w2 212 #[pn] l (fun s=>bQ s.name n):=fun s _ x w' hx' _=>KE pn n s x w' (hn.ext hx')
 refine aD (enters_of Tryz.func113 rfl rfl) rfl rfl (lK v l 212 #[pn] (fun s=>bQ s.name n) _ hv2 (enters_of Tryz.func212 rfl rfl) hf) ?_;intro w3 x3;refine aA ?_
 refine_lift bR ?_
 go_ret
 exact ⟨rfl,hx2.trans x3⟩
def BJ (l:List RSet) (n a:List UInt8):List RSet:=(l.filter fun s=>decide (s.name=n)).map fun s=>⟨a,s.kind,s.ttl,s.data⟩
theorem IM {l:List RSet} {n a:List UInt8} {k:Nat} (h:k < l.length):BJ (l.take (k + 1)) n a=BJ (l.take k) n a ++ (if l[k].name=n then [⟨a,l[k].kind,l[k].ttl,l[k].data⟩] else []):=by
 unfold BJ
 rw [List.take_succ_eq_append_getElem h,List.filter_append,List.map_append]
 congr 1
 by_cases hm:l[k].name=n <;> simp [hm]
theorem HK (l:List RSet) (n a:List UInt8):(BJ l n a).length≤l.length:=by
 unfold BJ;rw [List.length_map];exact List.length_filter_le _ _
set_option maxHeartbeats 3000000 in
theorem UZ (o:List UInt8) (v:Value) (l:List RSet) (n a:List UInt8) (w0 w:World) (hx0:Ext w0 w) (hv0:SetsAt w0 v l) (hl:l.length≤100000) :
 Calls Tryz.prog 174 #[.agg #[aI o,v],aI n,aI a] w (oA w fun r w'=>∃ css,Own w.heap.size 4 131 w' r css∧SetsC w0 css (BJ l n a)):=by
 have hv:=hv0.ext hx0
 obtain ⟨cv,hv1,hvl⟩:=hv.sl
 go_enter Tryz.func174,Tryz.ntmps174
 refine_lift zN ?_;intro _ _ _
 refine bJ (vs:=[aI o,v]) rfl rfl ?_
 intro p w1 x1 hp
 refine aA ?_
 have hv2:=hv1.ext x1
 refine_lift dR fun _ _ => ?_
 go_loopw [7,9,13] (fun r _ i wr=>∃ (k:Nat) (css:List (List Value)),k≤l.length∧i=.int .i64 k∧Ext w wr∧Own w.heap.size 4 131 wr r css∧SetsC w0 css (BJ (l.take k) n a)) (fun _ _ i _=>l.length - (intOf i).toNat)
 case atStart=>exact ⟨0,[],Nat.zero_le _,rfl,x1,Own.nil _ _ _ _,⟨rfl,by simp [BJ]⟩⟩
 case round =>
  obtain ⟨k,css,hk,rfl,hx,ho,hc⟩:=hrel
  have hvr:=hv1.ext hx
  by_cases hlt:k < l.length
  ·obtain ⟨x,h4w,h4dw⟩:=hv0.elem (List.getElem?_eq_getElem hlt)
   have h4:=h4w.ext (hx0.trans hx)
   have h4d:=h4dw.ext (hx0.trans hx)
   have hst:=IM (n:=n) (a:=a) hlt
   have hcl:=hc.len
   have hal:=HK (l.take k) n a
   rw [List.length_take] at hal
   refine_lift xG ?_;intro _ _ _ _ _ _
   refine aL (z:=fX) rfl (by decide +kernel) ?_
   intro w2 x2 s2 h2
   refine aA ?_
   refine aG (v:=.agg #[aI l[k].name, .int .i64 l[k].kind, .int .i64 l[k].ttl,x]) rfl rfl rfl h2 (show aR Tryz.prog 131 4=true by decide +kernel) rfl (eR rfl rfl rfl (h4d.ext x2).one) ?_
   intro w3 p3
   have x3:Ext wr w3:=x2.move p3.mv (by rintro k ⟨⟩;exact Nat.le_refl _)
   have b3:w3.heap[wr.heap.size]? = some (.cells [aI l[k].name, .int .i64 l[k].kind, .int .i64 l[k].ttl,x].toArray 131 (0,0)):=p3.this
   have h3:=aE b3
   have hx3:=hx.trans x3
   have ho3:=ho.ext x3
   clear p3 h2 x2
   refine_lift LM (fun _ => ?_) (fun _ _ _ => ?_)
   ·have hm:l[k].name=n:=by assumption
    rw [if_pos hm] at hst
    refine aM (n:=0) b3 rfl rfl rfl (by simp) (by decide +kernel) rfl ?_
    intro w4 p4
    have x4:Ext wr w4:=x3.move p4.mv (by rintro k ⟨⟩;exact Nat.le_refl _)
    have h5:Pts w4 (.pointer (some ⟨wr.heap.size,0,none⟩)) [aI a, .int .i64 l[k].kind, .int .i64 l[k].ttl,x]:=aE p4.this
    have hx4:=hx.trans x4
    have ho4:=ho.ext x4
    have hd4:=h4d.ext x4
    clear p4 b3 h3
    refine_lift bR ?_
    refine XH [aI a, .int .i64 l[k].kind, .int .i64 l[k].ttl,x] hx4 ho4 (by omega) ?_ ⟨rfl,rfl,rfl,by intro u hu;simp only [List.mem_cons,List.not_mem_nil,or_false] at hu;rcases hu with rfl | rfl | rfl | rfl <;> first | rfl | exact hd4.one⟩
    intro s5 v5 w5 w6 x5 m6 x6 o6
    refine aA ?_
    refine_lift bR ?_
    exact ⟨⟨k + 1,_,by omega,by go_num,x6,o6,by rw [hst];exact hc.append (SetsC.one (s:=⟨a,l[k].kind,l[k].ttl,l[k].data⟩) h4dw)⟩,by simp [intOf];omega⟩
   ·have hm:¬ l[k].name=n:=by assumption
    rw [if_neg hm,List.append_nil] at hst
    exact ⟨⟨k + 1,css,by omega,by go_num,hx3,ho3,by rw [hst];exact hc⟩,by simp [intOf];omega⟩
  ·have:k=l.length:=by omega
   subst this
   rw [List.take_length] at hc
   refine_lift jP fun _ => ?_
   go_ret
   exact ⟨_,rfl,hx,_,ho,hc⟩
def eO (o:Option RSet):List Rec:=match o with | some s=>cE s | none=>[]
theorem dF (s:RSet):aX [s]=cE s:=by simp [aX]
theorem eI (o:Option RSet):eO o=aX [o.getD bW]:=by cases o <;> simp [eO,dF,cE,bW]
def dV (o:List UInt8) (l:List RSet):Rec:=⟨o,6,min ((bB l o 6).getD bW).ttl (eF o l).minimum,jJ o l⟩
def nV (l:List RSet) (n:List UInt8):Bool:=l.any fun s=>bQ s.name n
def iX (l:List RSet):List (List UInt8)→List (List UInt8)
 | []=>[]
 | x :: t=>if nV l (enc (x :: t))=true then x :: t else iX l t
def oI (l:List RSet) (n:List UInt8):List UInt8:=(jG ([42] :: iX l ((aV n).getD []))).getD []
def aZ (l:List RSet) (n:List UInt8):List RSet:=if nV l n=true then BJ l n n else BJ l (oI l n) n
def pP (l:List RSet) (n:List UInt8):Bool:=nV l n || decide (0 < (BJ l (oI l n) n).length)
def oJ (k:Int):Bool:=decide (k=2) || decide (k=15) || decide (k=33)
def gN (l:List RSet) (b:List (List UInt8) × List Rec) (r:Rec):List (List UInt8) × List Rec :=
 if (aY r.kind r.data).2≠0∨oJ r.kind=false∨fold (aY r.kind r.data).1 ∈ b.1 then b
 else (b.1 ++ [fold (aY r.kind r.data).1],b.2 ++ eO (bB l (fold (aY r.kind r.data).1) 1) ++ eO (bB l (fold (aY r.kind r.data).1) 28))
def eP (l:List RSet) (rs:List Rec):List (List UInt8) × List Rec:=rs.foldl (gN l) ([],[])
def tY (l:List RSet) (rs:List Rec):List Rec:=(eP l rs).2
structure StepR where
 kind:Int
 ans:List Rec
 auth:List Rec
 next:List UInt8
 more:Bool
 deriving Inhabited
def eN (s:RSet):Bool:=decide (s.kind=5)
def bF (l:List RSet) (n:List UInt8):RSet:=((aZ l n).find? eN).getD bW
def bP (k:Int) (s:RSet):Bool:=decide (k=255) || decide (s.kind=k)
def bX (o:List UInt8) (l:List RSet) (n:List UInt8) (k c:Int):StepR :=
 if bQ n o=false then ⟨if c=0 then 4 else 0,[],[],[],false⟩
 else if (eH o l n).2=true then ⟨3,[],eO (bB l (eH o l n).1 2),[],false⟩
 else if pP l n=false then ⟨2,[],[dV o l],[],false⟩
 else if (aZ l n).any eN=true∧k≠5∧k≠255 then
  if c=8 then ⟨0,[],[],[],false⟩
  else ⟨0,cE (bF l n),[],fold (aY 5 ((bF l n).data.getD 0 [])).1,true⟩
 else if (aZ l n).filter (bP k)=[] then ⟨1,[],[dV o l],[],false⟩
 else ⟨0,aX ((aZ l n).filter (bP k)),[],[],false⟩
def cT (o:List UInt8) (l:List RSet) (k:Int):Nat→Int→List UInt8→StepR
 | 0,_,_=>⟨0,[],[],[],false⟩
 | f + 1,c,n=>if (bX o l n k c).more=true then
     ⟨(cT o l k f (c + 1) (bX o l n k c).next).kind,(bX o l n k c).ans ++ (cT o l k f (c + 1) (bX o l n k c).next).ans,(cT o l k f (c + 1) (bX o l n k c).next).auth,[],false⟩
   else bX o l n k c
structure AnsR where
 kind:Int
 ans:List Rec
 auth:List Rec
 extra:List Rec
 deriving DecidableEq,Inhabited
def IN:AnsR:=⟨0,[],[],[]⟩
def mV (o:List UInt8) (l:List RSet) (q:List UInt8):Int:=if bZ o l≠0 then bZ o l else dM q
def gC (r:StepR):List Rec:=r.ans ++ if r.kind=3 then r.auth else []
def pQ (o:List UInt8) (l:List RSet) (q:List UInt8) (k:Int):AnsR :=
 if mV o l q≠0 then IN else
  ⟨(cT o l k 9 0 (fold q)).kind,(cT o l k 9 0 (fold q)).ans,(cT o l k 9 0 (fold q)).auth,tY l (gC (cT o l k 9 0 (fold q)))⟩
theorem pR (n:List UInt8):(aV (fold n)).isSome=(aV n).isSome:=by
 cases h:aV n with
 | none =>
  have:fold n=n:=by unfold fold;rw [h]
  rw [this,h]
 | some ls=>rw [(rO h).2.1];rfl
theorem lM {s:RSet} (h:fW s=true):1≤s.data.length∧s.data.length≤20:=by
 simp only [fW,Bool.and_eq_true,decide_eq_true_eq] at h
 exact ⟨h.1.1.2,h.1.2⟩
def InZ (l:List RSet) (r:Rec):Prop:=(∃ s ∈ l,∃ d ∈ s.data,r=mQ s d)∨nV l r.name=false
theorem InZ.opt {l:List RSet} {n:List UInt8} {k:Int}:∀ r ∈ eO (bB l n k),InZ l r:=by
 intro r hr
 cases hf:bB l n k with
 | none=>rw [hf] at hr;cases hr
 | some s =>
  rw [hf] at hr
  obtain ⟨d,hd,rfl⟩:=List.mem_map.1 hr
  exact .inl ⟨s,(kR hf).1,d,hd,rfl⟩
theorem CP {l:List RSet} {m n:List UInt8} {s:RSet} (h:s ∈ BJ l m n):∃ t ∈ l,t.name=m∧s=⟨n,t.kind,t.ttl,t.data⟩:=by
 unfold BJ at h
 obtain ⟨t,ht,rfl⟩:=List.mem_map.1 h
 obtain ⟨h1,h2⟩:=List.mem_filter.1 ht
 exact ⟨t,h1,by simpa using h2,rfl⟩
theorem InZ.at {l:List RSet} {n:List UInt8} {s:RSet} (h:s ∈ aZ l n):∀ d ∈ s.data,InZ l (mQ s d):=by
 intro d hd
 unfold aZ at h
 split at h
 ·obtain ⟨t,ht,h1,rfl⟩:=CP h
  exact .inl ⟨t,ht,d,hd,by simp [mQ,h1]⟩
 ·rename_i hn
  obtain ⟨t,ht,h1,rfl⟩:=CP h
  exact .inr (by simpa [mQ] using hn)
theorem mW {l:List RSet} {n:List UInt8} (h:(aZ l n).any eN=true):bF l n ∈ aZ l n∧(bF l n).kind=5∧(aZ l n).find? eN=some (bF l n):=by
 unfold bF
 cases hf:(aZ l n).find? eN with
 | none =>
  rw [List.find?_eq_none] at hf
  obtain ⟨s,hs,h1⟩:=List.any_eq_true.1 h
  exact absurd h1 (hf s hs)
 | some s =>
  have:=List.find?_some hf
  exact ⟨List.mem_of_find?_eq_some hf,by simpa [eN] using this,rfl⟩
theorem iY {l:List RSet} (h:cX l=0) {n:List UInt8} {s:RSet} (hs:s ∈ aZ l n):∃ t ∈ l,s.kind=t.kind∧s.ttl=t.ttl∧s.data=t.data∧s.name=n:=by
 unfold aZ at hs
 split at hs <;> (obtain ⟨t,ht,h1,rfl⟩:=CP hs;exact ⟨t,ht,rfl,rfl,rfl,rfl⟩)
theorem BK {l:List RSet} (h:cX l=0) {s:RSet} (hs:s ∈ l):fW s=true:=by
 obtain ⟨i,hi,rfl⟩:=List.mem_iff_getElem.1 hs
 exact tV h hi
theorem fF {l:List RSet} (h:cX l=0) {n:List UInt8} {s:RSet} (hs:s ∈ aZ l n):cE s≠[]∧s.data.length≤20∧1≤s.data.length:=by
 obtain ⟨t,ht,_,_,h3,_⟩:=iY h hs
 have:=lM (BK h ht)
 have h5:s.data.length=t.data.length:=by rw [h3]
 refine ⟨fun e => ?_,by omega,by omega⟩
 unfold cE at e
 rw [List.map_eq_nil_iff] at e
 rw [e] at h3
 have h4:=congrArg List.length h3
 simp at h4
 omega
theorem yM {α:Type} {p:α→Bool}:∀ {l:List α} {s:α},s ∈ l→p s=true→l.Pairwise (fun a b=>¬ (p a=true∧p b=true))→l.filter p=[s]
 | a :: l,s,hs,hp,hw=>by
   rw [List.pairwise_cons] at hw
   rcases List.mem_cons.1 hs with rfl | hs
   ·rw [List.filter_cons_of_pos hp]
    congr 1
    rw [List.filter_eq_nil_iff]
    intro b hb hpb
    exact hw.1 b hb ⟨hp,hpb⟩
   ·have:¬ p a=true:=fun e=>hw.1 s hs ⟨e,hp⟩
    rw [List.filter_cons_of_neg this]
    exact yM hs hp hw.2
theorem KF (a:List UInt8):jH a a=0:=by rw [lE];simp
theorem FC {l:List RSet} (h:cX l=0):l.Pairwise fun a b=>¬ (a.name=b.name∧a.kind=b.kind):=by
 rw [List.pairwise_iff_getElem]
 intro i j hi hj hij hh
 have h1:=tW h hi
 have h2:=tW h hj
 rw [hh.1,hh.2,h2] at h1
 have h3:=kJ h i j hij hj
 rw [show l[i]=l[j] by simpa using h1.symm] at h3
 unfold eJ GW at h3
 have h4:gQ l[j].name l[j].name=0:=by
  unfold gQ
  cases dB l[j].name with
  | none=>simp only [KF]
  | some x =>
   have:=sU (a:=x) (b:=x) (k:=x.length) rfl (Nat.le_refl _) (Nat.le_refl _) (.inl rfl)
   simpa using this
 simp [h4] at h3
section
variable {P:Program} {a:Act} {w:World} {d:Option Nat} {ty:TypeId} {ps:String} {af:Array Edge} {g:Option (Nat × Bool)}
theorem Runs.dropSU {t:TypeId} {x lo:Operand} {l:List UInt8} {m:Nat} (hx:a.eval x=aI l) (h1:a.eval lo=.int .u8 (m:Nat)) (hm:m≤l.length) (ht:jT P t=true) :
 Runs P (Oper.mk d (.slice t x (some lo) none none) ty ps af g) a w (aI (l.drop m)):=by
 constructor
 simp [execOp,hx,h1,aI,Instr.sliceAt,Instr.slice,run_underlying (fA ht),Instr.sliceBounds,Instr.sliceBound,asIntOf,fD,-ByteArray.size_data,hm,nH]
end
theorem FD (nm:List UInt8) (w:World):Calls Tryz.prog 63 #[aI nm] w (oA w fun v w'=>Own w.heap.size 1 9 w' v (aP ((aV nm).getD []))):=by
 go_enter Tryz.func63,Tryz.ntmps63
 refine_lift zO ?_;intro _ _ _
 refine aK (enters_of Tryz.func69 rfl rfl) rfl rfl (VM nm _) ?_
 intro v w1 x1 hv
 cases hl:aV nm with
 | none =>
  rw [hl] at hv
  subst hv
  refine_lift bR ?_
  go_ret
  exact ⟨_,rfl,x1,by rw [hl];exact Own.nil _ _ _ _⟩
 | some ls =>
  rw [hl] at hv
  obtain ⟨s,rfl,hs⟩:=hv
  refine_lift bR ?_
  go_ret
  exact ⟨_,rfl,x1,by rw [hl];exact hs⟩
theorem MV {nm x:List UInt8} {t:List (List UInt8)} (w:World) (h:aV nm=some (x :: t)):Calls Tryz.prog 175 #[aI nm] w (bM w (.tuple #[aI (enc t), .int .i64 0])):=by
 obtain ⟨h1,h2,h3⟩:=dG h
 have hx63:x.length≤63:=by simp [iI] at h1;omega
 have e:nm=UInt8.ofNat x.length :: (x ++ enc t):=by rw [← h2];simp [enc]
 have hlen:0 < nm.length:=by rw [e];simp
 have h0:nm.getD 0 0=UInt8.ofNat x.length:=by rw [e];rfl
 have hne:nm≠[]:=by intro e0;rw [e0] at hlen;cases hlen
 have hn0:(nm.getD 0 0).toNat=x.length:=by rw [h0];simp;omega
 have hdr:nm.drop (x.length + 1)=enc t:=by rw [e];simp
 have hl:x.length + 1≤nm.length:=by rw [e];simp
 have hsome:(aV nm).isSome=true:=by rw [h];rfl
 go_enter Tryz.func175,Tryz.ntmps175
 refine_lift oQ fun _ _ _ _ => ?_
 refine aD (enters_of Tryz.func65 rfl rfl) rfl rfl (RV nm _) ?_;intro w1 x1;refine aA ?_
 rw [if_pos hsome]
 refine_lift zO fun _ _ _ => ?_
 refine aT (Runs.dropSU (l:=nm) (m:=x.length + 1) rfl ?_ hl (by decide +kernel)) ?_
 ·show Value.int .u8 (IntKind.wrap .u8 (((nm.getD 0 0).toNat:Nat) + 1))=_
  rw [hn0]
  congr 1
  simp only [IntKind.wrap,IntKind.bits,IntKind.signed]
  simp
  omega
 ·refine aA ?_
  rw [hdr]
  refine_lift bR ?_
  go_ret2
  exact ⟨rfl,x1⟩
def mG (r:Rec):Value:=.agg #[aI r.name, .int .i64 r.kind, .int .i64 r.ttl,aI r.data]
theorem mX {o:List UInt8} {l:List RSet} (h:ZoneOk o l):∀ s ∈ l,s.data.length≤1000000:=fun s hs=>by
 have:=lM (h.may hs);omega
theorem gD {o:List UInt8} {l:List RSet} (h:ZoneOk o l):∀ s ∈ l,∀ d ∈ s.data,d.length≤4611686018427387904:=fun s hs d hd=>by
 obtain ⟨i,hi,rfl⟩:=List.mem_iff_getElem.1 hd
 have:=pK (HG (h.may hs) hi)
 simp only at this
 omega
theorem tC {o:List UInt8} {l:List RSet} (h:ZoneOk o l):l.length≤200:=by
 have:=h.chk
 unfold cX at this
 split at this
 ·cases this
 ·omega
set_option maxHeartbeats 3000000 in
theorem MW (o:List UInt8) (v:Value) (l:List RSet) (w:World) (hv:SetsAt w v l) (hz:ZoneOk o l):Calls Tryz.prog 176 #[.agg #[aI o,v]] w (bM w (.tuple #[mG (dV o l), .int .i64 0])):=by
 have hb:=mX hz
 have hd:=gD hz
 have hzr:=mT hz
 obtain ⟨s,hf,hs,hn,hk,hdat,hpar,hlen⟩:=hz.soaSet
 have hden:dV o l=⟨s.name,s.kind,min s.ttl (eF o l).minimum,jJ o l⟩:=by rw [dV,hf,hn,hk];rfl
 go_enter Tryz.func176,Tryz.ntmps176
 refine_lift lF fun _ _ => ?_
 refine bJ (vs:=[aI o,v]) rfl rfl ?_
 intro p w1 x1 hp
 refine aA ?_
 refine aL (z:=KD) rfl (by decide +kernel) ?_
 intro w2 x2 s2 h2
 refine aA ?_
 have hx2:=x1.trans x2
 have hp2:=hp.ext x2
 have hv2:=hv.ext hx2
 refine_lift dR fun _ _ => ?_
 refine aD (enters_of Tryz.func213 rfl rfl) rfl rfl (UQ o v l _ hv2 hb hd) ?_;intro w3 x3;refine aA ?_
 have h3:=x3.at h2
 have hp3:=hp2.ext x3
 have hv3:=hv2.ext x3
 rw [hzr]
 refine_lift bR ?_
 refine aL (z:=bK) rfl (by decide +kernel) ?_
 intro w4 x4 s4 h4
 refine aA ?_
 refine aG (v:=.agg (eF o l).cells.toArray) rfl rfl rfl h4 (show aR Tryz.prog 160 7=true by decide +kernel) rfl (pL _) ?_
 intro w5 p5
 have x5:Ext w3 w5:=x4.move p5.mv (by rintro k ⟨⟩;exact Nat.le_refl _)
 have h5:=x5.at h3
 have hs5:=aE (cs:=(eF o l).cells) p5.this
 have hp5:=hp3.ext x5
 have hv5:=hv3.ext x5
 have hx5:=hx2.trans (x3.trans x5)
 clear p5 h4 x4
 refine_lift dR fun _ _ => ?_
 refine aK (enters_of Tryz.func112 rfl rfl) rfl rfl (TP v l o 6 _ hv5 (fun s hs=>by have:=hb s hs;omega)) ?_
 intro r6 w6 x6 hr6
 rw [hf] at hr6
 obtain ⟨y,rfl,oy⟩:=hr6
 have h6:=x6.at h5
 have hs6:=hs5.ext x6
 refine_lift bR ?_
 refine aL (z:=fX) rfl (by decide +kernel) ?_
 intro w7 x7 s7 h7
 refine aA ?_
 refine aG (v:=.agg #[aI s.name, .int .i64 s.kind, .int .i64 s.ttl,y]) rfl rfl rfl h7 (show aR Tryz.prog 131 4=true by decide +kernel) rfl (eR rfl rfl rfl oy.one) ?_
 intro w8 p8
 have x8:Ext w6 w8:=x7.move p8.mv (by rintro k ⟨⟩;exact Nat.le_refl _)
 have b8:w8.heap[w6.heap.size]? = some (.cells [aI s.name, .int .i64 s.kind, .int .i64 s.ttl,y].toArray 131 (0,0)):=p8.this
 have hp8:=aE b8
 have h8:=x8.at h6
 have hs8:=hs6.ext x8
 have hy8:=oy.sl.ext x8
 have hx8:=hx5.trans (x6.trans x8)
 clear p8 h7 x7
 refine_lift dR fun _ _ => ?_
 refine aM (n:=2) b8 rfl rfl rfl (by simp) (by decide +kernel) rfl ?_
 intro w9 p9
 have b9:w9.heap[w6.heap.size]? = some (.cells [aI s.name, .int .i64 s.kind, .int .i64 (min s.ttl (eF o l).minimum),y].toArray 131 (0,0)):=p9.this
 have z6:w.heap.size≤w6.heap.size:=(hx5.trans x6).size
 have x9:Ext w w9:=hx8.move p9.mv (by rintro k ⟨⟩;exact z6)
 have zlt:w1.heap.size < w6.heap.size:=by
  have a1:=(Array.getElem?_eq_some_iff.1 h6).1
  exact a1
 have h9:w9.heap[w1.heap.size]? = some (.cells KD.toArray 106 (0,0)):=(p9.other _ (by omega)).trans h8
 have hy9:=((oy.ext x8).mv p9.mv (.inr ((oy.ext x8).neBlock b8 (by decide)))).sl
 have hp9:=aE b9
 clear p9 b8 hp8 h8 hy8
 refine_lift dR fun _ _ => ?_
 refine bN (e:=131) (k:=4) (bytes:=56) (xs:=[.agg #[aI s.name, .int .i64 s.kind, .int .i64 (min s.ttl (eF o l).minimum),y]]) rfl rfl rfl (by simp [Value.cells]) (by decide +kernel) (by simp) ?_
 intro v10 w10 x10 _ sl10 _
 refine aA ?_
 have hs10:SetsAt w10 v10 [⟨s.name,s.kind,min s.ttl (eF o l).minimum,s.data⟩]:=(SetsC.one (s:=⟨s.name,s.kind,min s.ttl (eF o l).minimum,s.data⟩) (hy9.ext x10)).sets sl10
 refine_lift bR ?_
 have hrec:aX [⟨s.name,s.kind,min s.ttl (eF o l).minimum,s.data⟩]=[dV o l]:=by rw [dF,hden,cE,hdat];rfl
 refine aK (enters_of Tryz.func119 rfl rfl) rfl rfl (UM v10 _ _ hs10 (by rw [hrec];simp)) ?_
 intro r11 w11 x11 o11
 rw [hrec] at o11
 refine aA ?_
 have sl11:=o11.sl
 have el11:=sl11.elem (i:=0) (e:=[aI (dV o l).name, .int .i64 (dV o l).kind, .int .i64 (dV o l).ttl,aI (dV o l).data]) rfl
 have hl11:(aO [dV o l]).length=1:=rfl
 have h11:=(x10.trans x11).at h9
 have x911:=x9.trans (x10.trans x11)
 refine_lift bR ?_
 refine aG (v:=mG (dV o l)) rfl rfl rfl h11 (show aR Tryz.prog 106 4=true by decide +kernel) rfl (eR rfl rfl rfl rfl) ?_
 intro w12 p12
 have x12:Ext w w12:=x911.move p12.mv (by rintro k ⟨⟩;exact x1.size)
 refine_lift bR ?_
 refine bodyPost_ret (aU (cs:=[aI (dV o l).name, .int .i64 (dV o l).kind, .int .i64 (dV o l).ttl,aI (dV o l).data]) rfl rfl p12.this (show cP Tryz.prog 106 4=true by decide +kernel)) rfl ⟨rfl,x12⟩
theorem MX (k:Int) (d:List UInt8):(fold (aY k d).1).length≤254:=by
 have h0:(fold []).length≤254:=sQ [] rfl
 unfold aY
 split
 ·exact h0
 ·split
  ·exact h0
  ·split
   ·exact h0
   ·rename_i n hn
    unfold eX at hn
    split at hn
    ·rename_i hh
     cases hn
     exact sQ _ hh.2
    ·cases hn
theorem nW {l:List RSet} {rs:List Rec} {k:Nat} (h:k < rs.length):eP l (rs.take (k + 1))=gN l (eP l (rs.take k)) rs[k]:=by
 rw [List.take_succ_eq_append_getElem h,eP,List.foldl_append];rfl
theorem fI {l:List RSet} (hb:∀ s ∈ l,s.data.length≤20) (n:List UInt8) (k:Int):(eO (bB l n k)).length≤20:=by
 cases hf:bB l n k with
 | none=>simp [eO]
 | some s=>simp only [eO,cE,List.length_map];exact hb s (kR hf).1
theorem tZ {l:List RSet} (hb:∀ s ∈ l,s.data.length≤20) (rs:List Rec):∀ k,k≤rs.length→(eP l (rs.take k)).2.length≤40 * k
 | 0,_=>by simp [eP]
 | k + 1,h=>by
   rw [nW h]
   have ih:=tZ hb rs k (by omega)
   unfold gN
   split
   ·omega
   ·have a1:=fI hb (fold (aY rs[k].kind rs[k].data).1) 1
    have a2:=fI hb (fold (aY rs[k].kind rs[k].data).1) 28
    simp only [List.length_append]
    omega
def vF (ns:List (List UInt8)):List (Value × Value):=ns.map fun n=>(aI n, .bool true)
theorem MY {ns:List (List UInt8)} {n:List UInt8} {i:Nat} {v:Value} (h:(vF ns)[i]? = some (aI n,v)):n ∈ ns∧v=.bool true:=by
 rw [vF,List.getElem?_map] at h
 cases hi:ns[i]? with
 | none=>rw [hi] at h;cases h
 | some m =>
  rw [hi] at h
  simp only [Option.map_some,Option.some.injEq,Prod.mk.injEq,aI,Value.string.injEq,ByteArray.mk.injEq] at h
  have:m=n:=by simpa using h.1
  exact ⟨this ▸ List.mem_of_getElem? hi,h.2.symm⟩
theorem PD {ns:List (List UInt8)} {n:List UInt8} (h:∀ (i:Nat) (e:Value × Value),(vF ns)[i]? = some e→e.1≠aI n):n ∉ ns:=by
 intro hm
 obtain ⟨i,hi,rfl⟩:=List.mem_iff_getElem.1 hm
 exact h i (aI ns[i], .bool true) (by simp [vF,hi]) rfl
theorem QT:WideMaps.KeyLaw Tryz.prog 47:=WideMaps.string_law Tryz.underlying47
theorem PE (n:List UInt8) (hn:n.length≤1000000):∃ l,keyOf Tryz.prog 47 (aI n)=some l :=
 ⟨_,WideMaps.keyOf_string_mk Tryz.underlying47 (by rw [fD];unfold maxLen;omega)⟩
def tD (l:List RSet) (n:List UInt8) (j:Nat):List Rec:=((([1,28]:List Int).take j).map fun k=>eO (bB l n k)).flatten
theorem MZ (l:List RSet) (n:List UInt8):tD l n 2=eO (bB l n 1) ++ eO (bB l n 28):=by simp [tD]
set_option maxHeartbeats 8000000 in
theorem IP (o:List UInt8) (v u:Value) (l:List RSet) (rs:List Rec) (w:World) (hv:SetsAt w v l) (hu:Sl 4 w u (aO rs)) (hz:ZoneOk o l) (hr:rs.length≤10000) (hd:∀ r ∈ rs,r.data.length≤9223372036854775807) :
 Calls Tryz.prog 68 #[.agg #[aI o,v],u] w (oA w fun r w'=>Own w.heap.size 4 106 w' r (aO (tY l rs))):=by
 have hb20:∀ s ∈ l,s.data.length≤20:=fun s hs=>(lM (hz.may hs)).2
 have hb:=mX hz
 have hle:=aQ rs
 go_enter Tryz.func68,Tryz.ntmps68
 refine_lift zN ?_;intro _ _ _
 refine bJ (vs:=[aI o,v]) rfl rfl ?_
 intro p w1 x1 hp
 refine aA ?_
 refine_lift dR fun _ _ => ?_
 refine oU (kt:=47) rfl ?_
 intro w2 x2 s2 hm2
 refine aA ?_
 refine_lift dR fun _ _ => ?_
 go_loopw [5,8,9,10,12,13,14,18] (fun out _ _ _ _ _ _ i wr=>∃ k:Nat,k≤rs.length∧i=.int .i64 k∧Ext w1 wr∧MapAt Tryz.prog 47 wr w1.heap.size (vF (eP l (rs.take k)).1)∧Own w1.heap.size 4 106 wr out (aO (eP l (rs.take k)).2)) (fun _ _ _ _ _ _ _ i _=>rs.length - (intOf i).toNat)
 case atStart=>exact ⟨0,Nat.zero_le _,rfl,x2,hm2,Own.nil _ _ _ _⟩
 case round =>
  obtain ⟨k,hk,rfl,hx,hm,ho⟩:=hrel
  have hur:=(hu.ext x1).ext hx
  by_cases hlt:k < rs.length
  ·have h4:=hur.elem (gJ hlt)
   refine_lift xG ?_;intro _ _ _ _ _ _
   refine aL (z:=KD) rfl (by decide +kernel) ?_
   intro w3 x3 s3 h3
   refine aA ?_
   refine aG (v:=.agg #[aI rs[k].name, .int .i64 rs[k].kind, .int .i64 rs[k].ttl,aI rs[k].data]) rfl rfl rfl h3 (show aR Tryz.prog 106 4=true by decide +kernel) rfl (eR rfl rfl rfl rfl) ?_
   intro w4 p4
   have x4:Ext wr w4:=x3.move p4.mv (by rintro k ⟨⟩;exact Nat.le_refl _)
   have h4':=aE (cs:=[aI rs[k].name, .int .i64 rs[k].kind, .int .i64 rs[k].ttl,aI rs[k].data]) p4.this
   have hx4:=hx.trans x4
   have hm4:=hm.at (fun o ho=>x4.at ho)
   have ho4:=ho.ext x4
   clear p4 h3 x3
   refine_lift dR fun _ _ => ?_
   refine aD (enters_of Tryz.func105 rfl rfl) rfl rfl (VN rs[k].kind rs[k].data _ (hd _ (List.getElem_mem hlt))) ?_;intro w5 x5;refine aA ?_
   have h5:=h4'.ext x5
   refine_lift dR fun _ _ => ?_
   refine aD (enters_of Tryz.func32 rfl rfl) rfl rfl (LR (aY rs[k].kind rs[k].data).1 _) ?_;intro w6 x6;refine aA ?_
   have h6:=h5.ext x6
   have x46:=x5.trans x6
   have hx6:=hx4.trans x46
   have hm6:=hm4.at (fun o ho=>x46.at ho)
   have ho6:=ho4.ext x46
   have hst:=nW (l:=l) hlt
   have hlen:=MX rs[k].kind rs[k].data
   have hol:=tZ hb20 rs k hk
   generalize hnn:fold (aY rs[k].kind rs[k].data).1=n at *
   by_cases hg:(aY rs[k].kind rs[k].data).2=0∧oJ rs[k].kind=true
   ·(repeat' first | ((with_reducible refine cY ?_);go_step) | ((with_reducible refine cJ ?_);first | refine eS ?_ | (refine dD ?_ ?_ <;> intro hc)) | fail)
    all_goals first
     | (exfalso;clear hx hm ho hur h4 h4' h5 h6 hx4 hm4 ho4 hx6 hm6 ho6 hv hu hp hm2 hb hb20 hd hz hst;simp_all [oJ];done)
     | skip
    all_goals
     obtain ⟨lx,hlx⟩:=PE n (by omega)
     have hzv:∀ w,(zeroValue 4).run Tryz.prog w=.ok (.bool false) w:=fun w=>by kernel_rfl
     obtain ⟨bv,bb,hrl,hcase⟩:=iG QT (show oT Tryz.prog 182 47 4=true by decide +kernel) hzv hm6 hlx false
     simp only [Bool.false_eq_true,if_false] at hrl
     refine cH rfl (Runs.lookup rfl rfl hrl) ?_
     refine aA ?_
     rcases hcase with ⟨i,hie,rfl⟩ | ⟨hno,rfl,rfl⟩
     ·obtain ⟨hin,rfl⟩:=MY hie
      have hst':eP l (rs.take (k + 1))=eP l (rs.take k):=by rw [hst,gN,hnn,if_pos (.inr (.inr hin))]
      refine_lift bR ?_
      exact ⟨⟨k + 1,by omega,by go_num,hx6,by rw [hst'];exact hm6,by rw [hst'];exact ho6⟩,by simp [intOf];omega⟩
     ·have hni:=PD hno
      have hst':eP l (rs.take (k + 1))=((eP l (rs.take k)).1 ++ [n],(eP l (rs.take k)).2 ++ tD l n 2):=by
       rw [hst,gN,hnn,if_neg (by rintro (h | h | h);exact h hg.1;rw [hg.2] at h;cases h;exact hni h),MZ,List.append_assoc]
      refine_lift dR fun _ _ => ?_
      obtain ⟨w7,o7,hr7,p7,hm7⟩:=kZ QT (show oT Tryz.prog 182 47 4=true by decide +kernel) hm6 hlx (v:=.bool true) hno
      refine mA rfl rfl rfl rfl hr7 ?_
      have hx7:Ext w1 w7:=hx6.move p7.mv (by rintro k ⟨⟩;exact Nat.le_refl _)
      obtain ⟨es,ck,hme,_⟩:=hm6.out
      have ho7:=ho6.mv p7.mv (.inr (ho6.neMap hme))
      have hm7':MapAt Tryz.prog 47 w7 w1.heap.size (vF ((eP l (rs.take k)).1 ++ [n])):=by simpa [vF] using hm7
      refine_lift dR fun _ _ => ?_
      refine bN (e:=3) (k:=1) (bytes:=8) (xs:=[.int .i64 1, .int .i64 28]) rfl rfl rfl (by simp [Value.cells]) (by decide +kernel) (by simp) ?_
      intro v8 w8 x8 _ sl8 o8
      refine aA ?_
      have o8':Own w1.heap.size 1 3 w8 v8 [[.int .i64 1],[.int .i64 28]]:=(show Own _ 1 3 w8 v8 [[.int .i64 1],[.int .i64 28]] from o8).weaken hx7.size
      have hx8:=hx7.trans x8
      have hm8:=hm7'.at (fun o ho=>x8.at ho)
      have ho8:=ho7.ext x8
      have sl8':=o8'.sl
      refine_lift bR ?_
      clear sl8 sl8' hm7 hme o8 hm6 ho6 hx6 hm4 ho4 hm ho h4 h4' h5 h6 hrl hno
      go_loopw [5,12,13,14,58] (fun out _ _ _ i wr=>∃ j:Nat,j≤2∧i=.int .i64 j∧Ext w1 wr∧MapAt Tryz.prog 47 wr w1.heap.size (vF ((eP l (rs.take k)).1 ++ [n]))∧Own w1.heap.size 4 106 wr out (aO ((eP l (rs.take k)).2 ++ tD l n j))∧Own w1.heap.size 1 3 wr v8 [[.int .i64 1],[.int .i64 28]]) (fun _ _ _ _ i _=>2 - (intOf i).toNat)
      case atStart=>exact ⟨0,by omega,rfl,hx8,hm8,by simpa [tD] using ho8,o8'⟩
      case round =>
       obtain ⟨j,hj,rfl,hxr,hmr,hor,h8r⟩:=hrel
       have s8r:=h8r.sl
       by_cases hj2:j < 2
       ·obtain ⟨K,hK,hfam⟩:∃ K:Int,([[.int .i64 1],[.int .i64 28]]:List (List Value))[j]? = some [.int .i64 K]∧tD l n (j + 1)=tD l n j ++ eO (bB l n K):=by
         rcases (show j=0∨j=1 by omega) with rfl | rfl
         ·exact ⟨1,rfl,by simp [tD]⟩
         ·exact ⟨28,rfl,by simp [tD]⟩
        have hel:=s8r.elem hK
        have hpr:=hp.ext hxr
        have hvr:=(hv.ext x1).ext hxr
        have hfl:=fI hb20 n 1
        have hfl2:(tD l n j).length≤40:=by
         rcases (show j=0∨j=1 by omega) with rfl | rfl
         ·simp [tD]
         ·simp [tD];omega
        have hfl3:=fI hb20 n K
        (repeat' first | ((with_reducible refine cY ?_);go_step) | ((with_reducible refine cJ ?_);first | refine eS ?_ | (refine dD ?_ ?_ <;> intro hc)) | fail)
        rotate_left 1
        ·exfalso
         have hq:(([[.int .i64 1],[.int .i64 28]]:List (List Value)).length:Int)≤j:=by assumption
         simp at hq
         omega
        refine aK (enters_of Tryz.func112 rfl rfl) rfl rfl (TP v l n K _ hvr (fun s hs=>by have:=hb s hs;omega)) ?_
        intro r9 w9 x9 hr9
        obtain ⟨y9,rfl,hy9⟩:=lL hr9
        clear hr9
        refine_lift bR ?_
        refine aL (z:=fX) rfl (by decide +kernel) ?_
        intro w10 x10 s10 h10
        refine aA ?_
        refine aG (v:=.agg #[aI ((bB l n K).getD bW).name, .int .i64 ((bB l n K).getD bW).kind, .int .i64 ((bB l n K).getD bW).ttl,y9]) rfl rfl rfl h10 (show aR Tryz.prog 131 4=true by decide +kernel) rfl (eR rfl rfl rfl hy9.one) ?_
        intro w11 p11
        have x11:Ext w9 w11:=x10.move p11.mv (by rintro k ⟨⟩;exact Nat.le_refl _)
        have h11:=aE (cs:=[aI ((bB l n K).getD bW).name, .int .i64 ((bB l n K).getD bW).kind, .int .i64 ((bB l n K).getD bW).ttl,y9]) p11.this
        have y11:=hy9.ext x11
        have xr11:=x9.trans x11
        have hx11:=hxr.trans xr11
        have hm11:=hmr.at (fun o ho=>xr11.at ho)
        have ho11:=hor.ext xr11
        have h8_11:=h8r.ext xr11
        clear p11 h10 x10
        cases hfs:(bB l n K).isSome with
        | false =>
         have e0:eO (bB l n K)=[]:=by
          cases hff:bB l n K with
          | none=>rfl
          | some s=>rw [hff] at hfs;cases hfs
         refine_lift jP fun _ => ?_
         exact ⟨⟨j + 1,by omega,by go_num,hx11,hm11,by rw [hfam,e0,List.append_nil];exact ho11,h8_11⟩,by simp [intOf];omega⟩
        | true =>
         refine_lift jP fun _ => ?_
         refine bN (e:=131) (k:=4) (bytes:=56) (xs:=[.agg #[aI ((bB l n K).getD bW).name, .int .i64 ((bB l n K).getD bW).kind, .int .i64 ((bB l n K).getD bW).ttl,y9]]) rfl rfl rfl (by simp [Value.cells]) (by decide +kernel) (by simp) ?_
         intro v12 w12 x12 _ sl12 _
         refine aA ?_
         have hs12:SetsAt w12 v12 [(bB l n K).getD bW]:=(SetsC.one (s:=(bB l n K).getD bW) (y11.ext x12)).sets sl12
         refine_lift bR ?_
         refine aK (enters_of Tryz.func119 rfl rfl) rfl rfl (UM v12 _ _ hs12 (by rw [← eI];omega)) ?_
         intro r13 w13 x13 o13
         rw [← eI] at o13
         refine aA ?_
         have x1113:=x12.trans x13
         have ho13:=ho11.ext x1113
         have hx13:=hx11.trans x1113
         refine bU (e:=106) (k:=4) rfl ho13 rfl o13.sl eA hx13.size (by rw [aQ,aQ,List.length_append];omega) ?_
         intro v14 w14 o14 m14 _
         refine aA ?_
         have hx14:=ho13.mvx m14 hx13 (Nat.le_refl _)
         have hm13:=hm11.at (fun o ho=>x1113.at ho)
         obtain ⟨es',ck',hme',_⟩:=hm13.out
         have hm14:=hm13.at (w':=w14) (fun o ho=>m14.at ho (fun e=>ho13.neMap hme' e.symm))
         have h8_13:=h8_11.ext x1113
         have h8_14:=h8_13.mv m14 (h8_13.ne ho13 (by decide))
         have hrc:aO ((eP l (rs.take k)).2 ++ tD l n j) ++ aO (eO (bB l n K))=aO ((eP l (rs.take k)).2 ++ tD l n (j + 1)):=by
          rw [hfam];simp [aO]
         rw [hrc] at o14
         refine_lift bR ?_
         exact ⟨⟨j + 1,by omega,by go_num,hx14,hm14,o14,h8_14⟩,by simp [intOf];omega⟩
       ·have:j=2:=by omega
        subst this
        refine_lift jP fun _ => ?_
        exact ⟨⟨k + 1,by omega,by go_num,hxr,by rw [hst'];exact hmr,by rw [hst'];exact hor⟩,by simp [intOf];omega⟩
   ·have hst':eP l (rs.take (k + 1))=eP l (rs.take k):=by
     rw [hst,gN]
     rw [if_pos]
     by_cases h0:(aY rs[k].kind rs[k].data).2=0
     ·exact .inr (.inl (by simpa [h0] using hg))
     ·exact .inl h0
    (repeat' first | ((with_reducible refine cY ?_);go_step) | ((with_reducible refine cJ ?_);first | refine eS ?_ | (refine dD ?_ ?_ <;> intro hc)) | fail)
    all_goals first
     | (exfalso;clear hx hm ho hur h4 h4' h5 h6 hx4 hm4 ho4 hx6 hm6 ho6 hv hu hp hm2 hb hb20 hd hz hst hst';simp_all [oJ];done)
     | exact ⟨⟨k + 1,by omega,by go_num,hx6,by rw [hst'];exact hm6,by rw [hst'];exact ho6⟩,by simp [intOf];omega⟩
  ·have:k=rs.length:=by omega
   subst this
   rw [List.take_length] at ho
   refine_lift jP fun _ => ?_
   go_ret
   exact ⟨_,rfl,x1.trans hx,ho.weaken x1.size⟩
end Go.Proofs.X
