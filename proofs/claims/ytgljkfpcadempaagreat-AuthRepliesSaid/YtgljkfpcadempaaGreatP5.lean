/- Laws and walks that the proof of the statement is made of (part 5). -/
import Derived.Test.YtgljkfpcadempaaGreatP4
set_option linter.unusedSimpArgs false
set_option linter.unusedVariables false
namespace Go.Proofs.X
open Go.RowKit
set_option maxRecDepth 100000
structure SetC where
 name:List UInt8
 kind:Int
 ttl:Int
 a:Option Addr
 n:Nat
 c:Nat
 d:List (List UInt8)
 deriving Inhabited
def SetC.v (s:SetC):Value:=.slice s.a s.n s.c
def SetC.cells (s:SetC):List Value:=[aI s.name, .int .i64 s.kind, .int .i64 s.ttl,s.v]
def OR (x y:SetC):Int:=eJ x.name y.name x.kind y.kind
theorem lG:TPO (fun x y:List UInt8 × Int=>eJ x.1 y.1 x.2 y.2) :=
 (LI.comap Prod.fst).lex (ON.comap Prod.snd)
theorem LT:TPO OR:=lG.comap fun s:SetC=>(s.name,s.kind)
theorem YO {B g cap:Nat} (l:List SetC) (w:World) (h:Own B 4 131 w (.slice (some ⟨g,0,none⟩) l.length cap) (l.map SetC.cells)) (hl:l.length < 4611686018427387904) :
 Calls Tryz.prog 109 #[.slice (some ⟨g,0,none⟩) l.length cap, .func (.func 110) #[] #[]] w fun e w'=>e=.returned (.tuple #[])∧∃ l':List SetC,l'.Perm l∧(∀ i j (hi:i < j) (hj:j < l'.length),0≤OR l'[j] l'[i])∧Own B 4 131 w' (.slice (some ⟨g,0,none⟩) l'.length cap) (l'.map SetC.cells)∧Mv (some g) w w':=by
 have hlen:(l.map SetC.cells).length=l.length:=by simp
 have h0:=h
 rw [← hlen] at h0
 have eg:∀ args w,(callFunc 110 args).run Tryz.prog w=.ok (.enter 110 args) w:=enters_of Tryz.func110 (by kernel_rfl) rfl
 have hk:∀ x,(SetC.cells x).length=4:=fun _=>rfl
 have hfl:=sL SetC.cells 4 hk l
 have hH:Sort.HoldsK SetC.cells 4 w g 0 l.toArray:=by
  unfold Sort.HoldsK
  have:=h.holdsF
  rw [← hfl] at this
  simpa using this
 have hcmp:Go.Proofs.CmpLays Tryz.prog 110 #[] SetC.cells 4 OR g 0 l.toArray.size w:=by
  intro m os dk hdk x y
  refine (XT x.name y.name x.kind y.kind x.ttl y.ttl x.v y.v _).mono ?_
  rintro e w' ⟨rfl,hx⟩
  exact ⟨rfl,hx.grown⟩
 have hc:=Go.Proofs.AnyQ.slices_SortFunc Tryz.sortSet 4 (fun w=>mM (u:=(Tryz.prog.underlying 131).getD (.struct #[])) (by rfl) (by rfl)) (fun w=>by obtain ⟨i,hq,hz⟩:=sC (jE (show aR Tryz.prog 131 4=true by decide +kernel));exact (by simp [sizeOf,typeInfo,hq,hz]:(Go.sizeOf 131).run Tryz.prog w=.ok 4 w)) SetC.cells hk (fun x v hv=>by
  simp only [SetC.cells,List.mem_cons,List.not_mem_nil,or_false] at hv
  rcases hv with rfl | rfl | rfl | rfl <;> rfl) OR LT.swo 110 #[] g 0 cap l.toArray w eg hcmp hH (h.block g rfl).2 (by simpa using hl)
 change Calls Tryz.prog 109 _ _ _ at hc
 refine hc.mono ?_
 rintro e w' ⟨rfl,d',n,os,hp,hs,rfl⟩
 obtain ⟨p1,p2,p3⟩:=hp
 have hd:d'.toList.length=l.length:=by simpa using p1
 have hfl2:=sL SetC.cells 4 hk d'.toList
 have hperm:d'.toList.Perm l:=by
  have e1:d'.extract 0 l.toArray.size=d':=by rw [← p1];simp
  have e2:l.toArray.extract 0 l.toArray.size=l.toArray:=by simp
  rw [e1,e2] at p3
  simpa using p3
 have hput:=h0.putRowF (fs:=d'.toList.map SetC.cells) (by simpa using hd) (by intro x hx;obtain ⟨y,_,rfl⟩:=List.mem_map.1 hx;rfl) n os
 have hrow:Go.Proofs.sortWorldK SetC.cells 4 w g 0 n d' os=Sort.grow (Sort.putRow id (Sort.ahead w n) g 0 (d'.toList.map SetC.cells).flatten.toArray) os:=by
  unfold Go.Proofs.sortWorldK Sort.putRowK
  rw [← hfl2]
 rw [hrow]
 refine ⟨rfl,d'.toList,hperm,?_,?_,hput.2⟩
 ·intro i j hi hj
  have hjs:j < d'.size:=by simpa using hj
  have:=hs i j (Nat.zero_le _) hi (by rw [← p1];exact hjs)
  rw [getElem!_pos d' j hjs,getElem!_pos d' i (by omega)] at this
  simp only [Go.Proofs.ltOf,decide_eq_false_iff_not] at this
  simp only [Array.getElem_toList]
  omega
 ·have:=hput.1
  rw [hlen] at this
  rw [hd]
  exact this
theorem RW (v:Value) (w:World):Calls Tryz.prog 109 #[.slice none 0 0,v] w fun e w'=>e=.returned (.tuple #[])∧w'=w:=by
 have h:=Go.Proofs.AnyF.slices_SortFunc_none Tryz.sortSet none 0 v w
 change Calls Tryz.prog 109 _ _ _ at h
 exact h
def bS (s:RSet) (r:Rec):Bool:=decide (s.name=fold r.name) && decide (s.kind=r.kind)
def jQ (s:RSet) (r:Rec):RSet:=⟨s.name,s.kind,min s.ttl r.ttl,s.data ++ [r.data]⟩
def eD:List RSet→Rec→List RSet
 | [],r=>[⟨fold r.name,r.kind,r.ttl,[r.data]⟩]
 | s :: l,r=>if bS s r=true then jQ s r :: l else s :: eD l r
def uR (gs:List RSet):Prop:=∀ (i j:Nat) s t,gs[i]? = some s→gs[j]? = some t→i≠j→¬ (s.name=t.name∧s.kind=t.kind)
theorem AL {r:Rec}:∀ {gs:List RSet} {i:Nat} {s:RSet},gs[i]? = some s→bS s r=true→uR gs→eD gs r=gs.set i (jQ s r)
 | [],i,s,h,_,_=>by simp at h
 | a :: l,0,s,h,hm,_=>by
   cases h
   simp [eD,hm]
 | a :: l,i + 1,s,h,hm,hd=>by
   have ha:bS a r=false:=by
    cases hx:bS a r with
    | false=>rfl
    | true =>
     exfalso
     simp only [bS,Bool.and_eq_true,decide_eq_true_eq] at hm hx
     exact hd 0 (i + 1) a s rfl h (by omega) ⟨by rw [hx.1,hm.1],by rw [hx.2,hm.2]⟩
   have:=AL (gs:=l) (i:=i) (by simpa using h) hm (fun p q s t hp hq hpq=>hd (p + 1) (q + 1) s t (by simpa using hp) (by simpa using hq) (by omega))
   simp [eD,ha,this]
theorem xR {r:Rec}:∀ {gs:List RSet},(∀ s ∈ gs,bS s r=false)→eD gs r=gs ++ [⟨fold r.name,r.kind,r.ttl,[r.data]⟩]
 | [],_=>rfl
 | a :: l,h=>by
   have:=xR (gs:=l) (fun s hs=>h s (by simp [hs]))
   simp [eD,h a (by simp),this]
theorem rM {r:Rec}:∀ {gs:List RSet} {s:RSet},s ∈ eD gs r→(∃ t ∈ gs,t.name=s.name∧t.kind=s.kind)∨(s.name=fold r.name∧s.kind=r.kind)
 | [],s,h=>by
   simp only [eD,List.mem_singleton] at h
   subst h;exact .inr ⟨rfl,rfl⟩
 | a :: l,s,h=>by
   unfold eD at h
   split at h
   ·rename_i hm
    simp only [bS,Bool.and_eq_true,decide_eq_true_eq] at hm
    rcases List.mem_cons.1 h with rfl | h
    ·exact .inr ⟨hm.1,hm.2⟩
    ·exact .inl ⟨s,by simp [h],rfl,rfl⟩
   ·rcases List.mem_cons.1 h with rfl | h
    ·exact .inl ⟨s,by simp,rfl,rfl⟩
    ·rcases rM h with ⟨t,ht,h2⟩ | h2
     ·exact .inl ⟨t,by simp [ht],h2⟩
     ·exact .inr h2
theorem gV {gs:List RSet}:uR gs↔gs.Pairwise fun s t=>¬ (s.name=t.name∧s.kind=t.kind):=by
 rw [List.pairwise_iff_getElem]
 constructor
 ·intro h i j hi hj hij
  exact h i j _ _ (List.getElem?_eq_getElem hi) (List.getElem?_eq_getElem hj) (by omega)
 ·intro h i j s t hs ht hij
  obtain ⟨hi,rfl⟩:=List.getElem?_eq_some_iff.1 hs
  obtain ⟨hj,rfl⟩:=List.getElem?_eq_some_iff.1 ht
  rcases Nat.lt_or_ge i j with h1 | h1
  ·exact h i j hi hj h1
  ·have:=h j i hj hi (by omega)
   exact fun ⟨a,b⟩=>this ⟨a.symm,b.symm⟩
theorem uS {r:Rec}:∀ {gs:List RSet},uR gs→uR (eD gs r)
 | [],_=>by rw [gV];simp [eD]
 | a :: l,h=>by
   rw [gV] at h ⊢
   obtain ⟨h1,h2⟩:=List.pairwise_cons.1 h
   unfold eD
   split
   ·rename_i hm
    exact List.pairwise_cons.2 ⟨fun t ht=>h1 t ht,h2⟩
   ·rename_i hm
    refine List.pairwise_cons.2 ⟨fun t ht => ?_,gV.1 (uS (gV.2 h2))⟩
    rcases rM ht with ⟨u,hu,e1,e2⟩ | ⟨e1,e2⟩
    ·have:=h1 u hu
     rw [e1,e2] at this
     exact this
    ·rintro ⟨f1,f2⟩
     exact hm (by simp [bS,f1,f2,e1,e2])
def dC (l:List Rec):List RSet:=l.foldl eD []
theorem jZ (l:List Rec):uR (dC l):=by
 unfold dC
 suffices ∀ (l:List Rec) gs,uR gs→uR (l.foldl eD gs) from this l [] (by intro i j s t h;simp at h)
 intro l
 induction l with
 | nil=>exact fun _ h=>h
 | cons r l ih=>exact fun gs h=>ih _ (uS h)
theorem pH {l:List Rec} {k:Nat} (h:k < l.length):dC (l.take (k + 1))=eD (dC (l.take k)) l[k]:=by
 unfold dC
 rw [List.take_add_one,List.getElem?_eq_getElem h,List.foldl_append]
 rfl
theorem AM {r:Rec}:∀ {gs:List RSet},(eD gs r).length≤gs.length + 1
 | []=>by simp [eD]
 | a :: l=>by
   have:=AM (r:=r) (gs:=l)
   unfold eD
   split <;> simp <;> omega
def oF (gs:List RSet):Nat:=(gs.map fun s=>s.data.length).sum
theorem uT {r:Rec}:∀ {gs:List RSet},oF (eD gs r)=oF gs + 1
 | []=>by simp [eD,oF]
 | a :: l=>by
   have:=uT (r:=r) (gs:=l)
   unfold oF at this
   unfold eD
   split
   ·simp [oF,jQ];omega
   ·simp [oF,this];omega
theorem sO (l:List Rec):oF (dC l)=l.length:=by
 unfold dC
 suffices ∀ (l:List Rec) gs,oF (l.foldl eD gs)=oF gs + l.length from by simpa [oF] using this l []
 intro l
 induction l with
 | nil=>intro gs;simp
 | cons r l ih=>intro gs;rw [List.foldl_cons,ih,uT];simp;omega
theorem xS (l:List Rec):(dC l).length≤l.length:=by
 unfold dC
 suffices ∀ (l:List Rec) gs,(l.foldl eD gs).length≤gs.length + l.length from by simpa using this l []
 intro l
 induction l with
 | nil=>intro gs;simp
 | cons r l ih=>intro gs;rw [List.foldl_cons];have:=ih (eD gs r);have:=AM (r:=r) (gs:=gs);simp;omega
theorem EA {gs:List RSet} {s:RSet} (h:s ∈ gs):s.data.length≤oF gs:=by
 induction gs with
 | nil=>simp at h
 | cons a l ih =>
  unfold oF at *
  rcases List.mem_cons.1 h with rfl | h
  ·simp
  ·have:=ih h;simp;omega
structure GC where
 b:Nat
 v:Value
 s:RSet
def GC.cells (c:GC):List Value:=[aI c.s.name, .int .i64 c.s.kind, .int .i64 c.s.ttl,c.v]
def GC.key (c:GC):Value × Value:=(.agg #[aI c.s.name, .int .i64 c.s.kind], .pointer (some ⟨c.b,0,none⟩))
def GC.kcells (c:GC):List Value:=[aI c.s.name, .int .i64 c.s.kind]
structure GOK (w:World) (B:Nat) (c:GC):Prop where
 blk:w.heap[c.b]? = some (.cells c.cells.toArray 131 (0,0))
 ge:B≤c.b
 own:Own B 1 9 w c.v (aP c.s.data)
structure GS (w:World) (B:Nat) (gcs:List GC):Prop where
 each:∀ c ∈ gcs,GOK w B c
 apart:gcs.Pairwise fun c c'=>c.b≠c'.b∧(c.v.ownBlock=none∨c'.v.ownBlock=none∨c.v.ownBlock≠c'.v.ownBlock)
theorem Own.type {B k e:Nat} {w:World} {v:Value} {es:List (List Value)} (h:Own B k e w v es) {r:Nat} (hr:v.ownBlock=some r):∃ cur fz,w.heap[r]? = some (.cells cur e fz):=by
 rcases h.row.2 with ⟨rfl,_⟩ | ⟨g,cap,cur,fz,rfl,hb,hg,_⟩
 ·simp [Value.ownBlock] at hr
 ·simp [Value.ownBlock] at hr;subst hr;exact ⟨cur,fz,hg⟩
theorem Own.neBlock {B k e t b:Nat} {w:World} {v:Value} {es:List (List Value)} {cs:Array Value} {fz:Nat × Nat} (h:Own B k e w v es) (hb:w.heap[b]? = some (.cells cs t fz)) (ht:t≠e):v.ownBlock≠some b:=fun e'=>by
 obtain ⟨cur,fz',h'⟩:=h.type e'
 rw [hb] at h'
 simp only [Option.some.injEq,Obj.cells.injEq] at h'
 exact ht h'.2.1
theorem Own.neMap {B k e m c:Nat} {es':Array MapEntry} {w:World} {v:Value} {es:List (List Value)} (h:Own B k e w v es) (hb:w.heap[m]? = some (.map es' c)):v.ownBlock≠some m:=fun e'=>by
 obtain ⟨cur,fz',h'⟩:=h.type e'
 rw [hb] at h'
 cases h'
theorem Own.ne {B k e B' k' e':Nat} {w:World} {v v':Value} {es es':List (List Value)} (h:Own B k e w v es) (h':Own B' k' e' w v' es') (he:e≠e'):v.ownBlock=none∨v.ownBlock≠v'.ownBlock:=by
 cases hv:v.ownBlock with
 | none=>exact .inl rfl
 | some r =>
  refine .inr fun e2 => ?_
  obtain ⟨cur,fz,h1⟩:=h.type hv
  exact h'.neBlock h1 he e2.symm
theorem GOK.mv {w w':World} {B:Nat} {c:GC} {row:Option Nat} (h:GOK w B c) (hm:Mv row w w') (h1:some c.b≠row) (h2:c.v.ownBlock=none∨c.v.ownBlock≠row):GOK w' B c :=
 ⟨hm.at h.blk h1,h.ge,h.own.mv hm h2⟩
theorem GS.ext {w w':World} {B:Nat} {gcs:List GC} (h:GS w B gcs) (hx:Ext w w'):GS w' B gcs :=
 ⟨fun c hc=>(h.each c hc).mv (hx.mv none) (by simp) (by cases c.v.ownBlock <;> simp),h.apart⟩
theorem Sl.slf {k:Nat} {w:World} {v:Value} {es:List (List Value)} (h:Sl k w v es):∃ a n c,v=.slice a n c:=by
 obtain ⟨a,c,h1,_⟩:=h
 exact ⟨a,_,c,h1⟩
structure SetsC (w:World) (css:List (List Value)) (l:List RSet):Prop where
 len:css.length=l.length
 at':∀ (i:Nat) (s:RSet),l[i]? = some s→∃ x,css[i]? = some [aI s.name, .int .i64 s.kind, .int .i64 s.ttl,x]∧Sl 1 w x (aP s.data)
theorem SetsC.sets {w:World} {v:Value} {l:List RSet} {css:List (List Value)} (h:SetsC w css l) (hv:Sl 4 w v css):SetsAt w v l:=⟨css,hv,h.len,h.at'⟩
theorem SetsC.ext {w w':World} {l:List RSet} {css:List (List Value)} (h:SetsC w css l) (hx:Ext w w'):SetsC w' css l :=
 ⟨h.len,fun i s hi=>let ⟨x,a,b⟩:=h.at' i s hi;⟨x,a,b.ext hx⟩⟩
theorem SetsC.append {w:World} {l m:List RSet} {c d:List (List Value)} (h:SetsC w c l) (k:SetsC w d m):SetsC w (c ++ d) (l ++ m):=by
 refine ⟨by rw [List.length_append,List.length_append,h.len,k.len],fun i s hi => ?_⟩
 rw [List.getElem?_append] at hi ⊢
 rw [h.len]
 split at hi
 ·rw [if_pos ‹_›];exact h.at' i s hi
 ·rw [if_neg ‹_›];exact k.at' _ s hi
theorem SetsC.take {w:World} {l:List RSet} {c:List (List Value)} (h:SetsC w c l) (n:Nat):SetsC w (c.take n) (l.take n):=by
 refine ⟨by simp [h.len],fun i s hi => ?_⟩
 rw [List.getElem?_take] at hi ⊢
 split at hi
 ·rw [if_pos ‹_›];exact h.at' i s hi
 ·cases hi
theorem SetsC.drop {w:World} {l:List RSet} {c:List (List Value)} (h:SetsC w c l) (n:Nat):SetsC w (c.drop n) (l.drop n):=by
 refine ⟨by simp [h.len],fun i s hi => ?_⟩
 rw [List.getElem?_drop] at hi ⊢
 exact h.at' _ s hi
theorem SetsC.one {w:World} {s:RSet} {x:Value} (h:Sl 1 w x (aP s.data)):SetsC w [[aI s.name, .int .i64 s.kind, .int .i64 s.ttl,x]] [s] :=
 ⟨rfl,fun i t hi=>by
  match i,hi with
  | 0,hi=>cases hi;exact ⟨x,rfl,h⟩⟩
theorem SetsC.cell {w:World} {l:List RSet} {c:List (List Value)} (h:SetsC w c l):∀ f ∈ c,∀ u ∈ f,u.oneCell'=true:=by
 intro f hf u hu
 obtain ⟨i,hi,rfl⟩:=List.mem_iff_getElem.1 hf
 obtain ⟨x,h1,h2⟩:=h.at' i _ (List.getElem?_eq_getElem (by rw [← h.len];exact hi))
 rw [List.getElem?_eq_getElem hi] at h1
 rw [Option.some.inj h1] at hu
 simp only [List.mem_cons,List.not_mem_nil,or_false] at hu
 rcases hu with rfl | rfl | rfl | rfl
 ·rfl
 ·rfl
 ·rfl
 ·exact h2.one
def From (B:Nat) (v:Value):Prop:=∀ b o s n c,v=.slice (some ⟨b,o,s⟩) n c→B≤b
theorem From.weaken {B C:Nat} {v:Value} (h:From B v) (hc:C≤B):From C v:=fun b o s n c e=>Nat.le_trans hc (h b o s n c e)
theorem Own.from' {B C k e:Nat} {w:World} {v:Value} {es:List (List Value)} (h:Own B k e w v es) (hc:C≤B):From C v:=by
 intro b o s n c hv
 rcases h.form with ⟨rfl,_⟩ | ⟨g,cap,rfl,_,hg,_⟩
 ·cases hv
 ·simp only [Value.slice.injEq,Option.some.injEq,Addr.mk.injEq] at hv
  obtain ⟨⟨rfl,_⟩,_⟩:=hv
  exact Nat.le_trans hc hg
def FromC (B:Nat) (css:List (List Value)):Prop:=∀ f ∈ css,∀ u ∈ f,From B u
theorem FromC.append {B:Nat} {c d:List (List Value)} (h:FromC B c) (k:FromC B d):FromC B (c ++ d):=fun f hf=>by
 rcases List.mem_append.1 hf with hf | hf
 ·exact h f hf
 ·exact k f hf
theorem FromC.take {B:Nat} {c:List (List Value)} (h:FromC B c) (n:Nat):FromC B (c.take n):=fun f hf=>h f (List.mem_of_mem_take hf)
theorem FromC.drop {B:Nat} {c:List (List Value)} (h:FromC B c) (n:Nat):FromC B (c.drop n):=fun f hf=>h f (List.mem_of_mem_drop hf)
theorem FromC.one {B:Nat} {n:List UInt8} {k t:Int} {x:Value} (h:From B x):FromC B [[aI n, .int .i64 k, .int .i64 t,x]]:=by
 intro f hf u hu
 simp only [List.mem_cons,List.not_mem_nil,or_false] at hf
 subst hf
 simp only [List.mem_cons,List.not_mem_nil,or_false] at hu
 rcases hu with rfl | rfl | rfl | rfl
 ·intro b o s n c e;cases e
 ·intro b o s n c e;cases e
 ·intro b o s n c e;cases e
 ·exact h
structure SetsO (B:Nat) (w:World) (v:Value) (l:List RSet):Prop where
 out:∃ css,Sl 4 w v css∧From B v∧SetsC w css l∧FromC B css
theorem SetsO.sets {B:Nat} {w:World} {v:Value} {l:List RSet} (h:SetsO B w v l):SetsAt w v l:=by
 obtain ⟨css,h1,_,h2,_⟩:=h
 exact h2.sets h1
theorem SetsO.ext {B:Nat} {w w':World} {v:Value} {l:List RSet} (h:SetsO B w v l) (hx:Ext w w'):SetsO B w' v l:=by
 obtain ⟨css,h1,h2,h3,h4⟩:=h
 exact ⟨css,h1.ext hx,h2,h3.ext hx,h4⟩
theorem SetsO.weaken {B C:Nat} {w:World} {v:Value} {l:List RSet} (h:SetsO B w v l) (hc:C≤B):SetsO C w v l:=by
 obtain ⟨css,h1,h2,h3,h4⟩:=h
 exact ⟨css,h1,h2.weaken hc,h3,fun f hf u hu=>(h4 f hf u hu).weaken hc⟩
theorem Sl.put {B k b:Nat} {w w':World} {v:Value} {es:List (List Value)} {o:Obj} (h:Sl k w v es) (hf:From B v) (hp:Put w w' b o) (hb:b < B):Sl k w' v es:=by
 obtain ⟨a,cap,h1,h2,h3,h4,h5,h6⟩:=h
 refine ⟨a,cap,h1,h2,h3,h4,h5,fun hn => ?_⟩
 obtain ⟨g,o,e,hc⟩:=h6 hn
 have hg:B≤g:=hf g o none _ _ (by rw [h1,e])
 exact ⟨g,o,e,fun i e j x h1 h2=>(World.cell?_of_block (hp.other g (by omega))).trans (hc i e j x h1 h2)⟩
theorem SetsO.put {B b:Nat} {w w':World} {v:Value} {l:List RSet} {o:Obj} (h:SetsO B w v l) (hp:Put w w' b o) (hb:b < B):SetsO B w' v l:=by
 obtain ⟨css,h1,h2,h3,h4⟩:=h
 refine ⟨css,h1.put h2 hp hb,h2,⟨h3.len,fun i s hi => ?_⟩,h4⟩
 obtain ⟨x,e,hx⟩:=h3.at' i s hi
 exact ⟨x,e,hx.put (h4 _ (List.mem_of_getElem? e) x (by simp)) hp hb⟩
theorem SetsO.nil (B:Nat) (w:World):SetsO B w (.slice none 0 0) []:=⟨[],Sl.nil _ _,(by intro b o s n c e;cases e),⟨rfl,by simp⟩,by intro f hf;cases hf⟩
theorem EB (a b:List UInt8) (w:World):Calls Tryz.prog 232 #[aI a,aI b] w (bM w (.int .i64 (jH a b))):=by
 go_enter Tryz.func232,Tryz.ntmps232
 refine_lift LJ (fun _ _ _ _ => ?_) (fun _ _ => ?_) (fun _ => ?_)
 ·have h:=‹Op.bytesLess a b=true›
  go_ret
  exact ⟨by simp [jH,h],Ext.refl _⟩
 ·have h:=‹Op.bytesLess a b=false›
  have h2:=‹(!(Op.bytesLess a b || a == b))=true›
  go_ret
  exact ⟨by simp [h] at h2;simp [jH,h,h2],Ext.refl _⟩
 ·have h:=‹Op.bytesLess a b=false›
  have h2:=‹(!(Op.bytesLess a b || a == b))=false›
  go_ret
  exact ⟨by simp [h] at h2;subst h2;simp [jH,h],Ext.refl _⟩
theorem mP (nm:List UInt8) (w:World):Calls Tryz.prog 53 #[aI nm] w (oA w fun v w'=>Own w.heap.size 1 9 w' v (aP ((aV nm).getD []))):=by
 go_enter Tryz.func53,Tryz.ntmps53
 refine_lift zO ?_;intro _ _ _
 refine aK (enters_of Tryz.func85 rfl rfl) rfl rfl (mF nm _) ?_
 intro v w1 x1 hv
 cases hl:aV nm with
 | none =>
  rw [hl] at hv
  subst hv
  refine_lift bR ?_
  go_ret
  refine ⟨_,rfl,x1,?_⟩
  simp only [hl,Option.getD_none]
  exact Own.nil _ _ _ _
 | some ls =>
  rw [hl] at hv
  obtain ⟨s,rfl,o⟩:=hv
  refine_lift bR ?_
  go_ret
  refine ⟨_,rfl,x1,?_⟩
  simp only [hl,Option.getD_some]
  exact o
theorem RX {ls:List (List UInt8)} (h:ls.all iI=true):2 * ls.length≤(enc ls).length:=by
 induction ls with
 | nil=>simp [enc]
 | cons x ls ih =>
  simp only [List.all_cons,Bool.and_eq_true] at h
  have:=ih h.2
  have e:enc (x :: ls)=UInt8.ofNat x.length :: x ++ enc ls:=by simp [enc]
  have hx:1≤x.length:=by have:=h.1;simp [iI] at this;omega
  rw [e];simp;omega
theorem JP {ls:List (List UInt8)} (h:127 < ls.length):jG ls=none:=by
 rw [jG,if_neg]
 rintro ⟨h1,h2⟩
 have:=RX h1
 omega
set_option maxHeartbeats 1000000 in
theorem CD (v:Value) (ls:List (List UInt8)) (w:World) (h:Sl 1 w v (aP ls)):Calls Tryz.prog 87 #[v] w (bM w (match jG ls with | some n=>.tuple #[aI n, .int .i64 0] | none=>.tuple #[aI [], .int .i64 1])):=by
 have hlt0:(aP ls).length=ls.length:=bA ls
 by_cases h127:127 < ls.length
 ·go_enter Tryz.func87,Tryz.ntmps87
  refine_lift jP fun _ => ?_
  go_ret2
  exact ⟨by rw [JP h127];rfl,Ext.refl _⟩
 ·go_enter Tryz.func87,Tryz.ntmps87
  refine_lift oQ ?_;intro _ _ _ _
  go_loopw [4,5] (fun s i wr=>∃ k:Nat,k≤ls.length∧i=.int .i64 k∧s=aI (enc (ls.take k))∧Ext w wr∧(ls.take k).all iI=true∧(enc (ls.take k)).length≤64 * k) (fun _ i _=>ls.length - (intOf i).toNat)
  case atStart=>exact ⟨0,Nat.zero_le _,rfl,rfl,Ext.refl _,rfl,by simp [enc]⟩
  case round =>
   obtain ⟨k,hk,rfl,rfl,hx,hall,hlen⟩:=hrel
   have hsl:=h.ext hx
   by_cases hlt:k < ls.length
   ·have hp:=hsl.elem (fM hlt)
    (repeat' first | ((with_reducible refine cY ?_);go_step) | ((with_reducible refine cJ ?_);first | refine eS ?_ | (refine dD ?_ ?_ <;> intro hc)) | fail)
    rotate_left
    ·have h63:ls[k].length≤63:=by omega
     have h1:1≤ls[k].length:=by omega
     refine dS (S:=fun w'=>Ext wr w') (by decide +kernel) ?_
     intro w1 x1 hh1
     refine tk 0 ?_;refine aA ?_;refine tk 1 ?_;refine aA ?_;refine tk 2 ?_;refine aA ?_;refine tk 3 ?_;refine aA ?_;refine tk 4 ?_;refine aA ?_;refine tk 5 ?_;refine aA ?_;refine tk 6 ?_;refine aA ?_;refine tk 10 ?_;refine aA ?_;refine tk 11 ?_;refine aA ?_;refine tk 12 ?_;refine aA ?_;refine tk 13 ?_;refine aA ?_
     refine cA (i:=7) (by decide +kernel) rfl rfl ?_
     refine bN (e:=5) (k:=1) (bytes:=1) (xs:=[.int .u8 (IntKind.wrap .u8 (ls[k].length:Nat))]) rfl rfl rfl (by simp [Value.cells]) (by decide +kernel) (by simp) ?_
     intro v2 w2 x2 _ s2 _
     have s2:Sl 1 w2 v2 (aS [UInt8.ofNat ls[k].length]):=by simpa [aS,Value.cells,xP] using s2
     refine aA ?_
     refine aJ ⟨by exact eU,?_⟩
     refine cA (i:=8) (by decide +kernel) rfl rfl ?_
     refine_lift bR ?_
     refine ⟨by exact eU,?_⟩
     refine cA (i:=9) (by decide +kernel) rfl rfl ?_
     refine_lift bR ?_
     refine ⟨by exact eU,?_⟩
     refine cA (i:=14) (by decide +kernel) rfl rfl ?_
     refine_lift bR ?_
     refine ⟨by exact eU,?_⟩
     refine cA (i:=15) (by decide +kernel) rfl rfl ?_
     refine_lift bR ?_
     refine ⟨by exact eU,?_⟩
     refine dK (by decide +kernel) ?_
     have e:enc (ls.take k) ++ [UInt8.ofNat ls[k].length] ++ ls[k]=enc (ls.take (k + 1)):=by
      rw [List.take_add_one,List.getElem?_eq_getElem hlt,Option.toList_some,nL,CC];simp
     rw [e]
     refine_lift bR ?_
     refine ⟨⟨k + 1,by omega,by go_num,rfl,by exact eU,?_,?_⟩,by simp [intOf];omega⟩
     ·rw [List.take_add_one,List.getElem?_eq_getElem hlt,Option.toList_some,List.all_append,hall]
      simp [iI];omega
     ·rw [← e];simp;omega
    all_goals
     go_ret2
     refine ⟨?_,hx⟩
     rw [xM (List.getElem_mem hlt) (by simp [iI];omega)]
     rfl
   ·have:k=ls.length:=by omega
    subst this
    rw [List.take_length] at hall hlen ⊢
    refine_lift LN (fun _ _ => ?_) (fun _ _ _ _ => ?_)
    ·go_ret2
     refine ⟨?_,hx⟩
     rw [jG,if_neg (by omega)]
     rfl
    ·go_ret2
     refine ⟨?_,hx⟩
     rw [jG,if_pos ⟨hall,by omega⟩]
     rfl
theorem RY {α:Type} {R:α→α→Prop} {l:List α} {i:Nat} {c:α} (h:l.Pairwise R) (hi:i < l.length) (h1:∀ j (hj:j < i),R l[j] c) (h2:∀ j (hj:i < j) (hl:j < l.length),R c l[j]):(l.set i c).Pairwise R:=by
 rw [List.pairwise_iff_getElem] at *
 intro p q hp hq hpq
 simp only [List.length_set] at hp hq
 simp only [List.getElem_set]
 by_cases e1:i=p
 ·subst e1
  rw [if_pos rfl,if_neg (by omega)]
  exact h2 q hpq hq
 ·by_cases e2:i=q
  ·subst e2
   rw [if_neg e1,if_pos rfl]
   exact h1 p hpq
  ·rw [if_neg e1,if_neg e2]
   exact h p q hp hq hpq
theorem GS.split {w:World} {B:Nat} {gcs:List GC} (h:GS w B gcs) {i j:Nat} {c c':GC} (hi:gcs[i]? = some c) (hj:gcs[j]? = some c') (hij:i≠j):c.b≠c'.b∧(c.v.ownBlock=none∨c'.v.ownBlock=none∨c.v.ownBlock≠c'.v.ownBlock):=by
 have:=List.pairwise_iff_getElem.1 h.apart
 obtain ⟨hi2,e1⟩:=List.getElem?_eq_some_iff.1 hi
 obtain ⟨hj2,e2⟩:=List.getElem?_eq_some_iff.1 hj
 subst e1 e2
 rcases Nat.lt_or_ge i j with h1 | h1
 ·exact this i j hi2 hj2 h1
 ·obtain ⟨a,b⟩:=this j i hj2 hi2 (by omega)
  exact ⟨fun e=>a e.symm,by rcases b with b | b | b;exact .inr (.inl b);exact .inl b;exact .inr (.inr fun e=>b e.symm)⟩
theorem xT {α:Type} {l:List α} {i:Nat} {c x:α} (h:x ∈ l.set i c):x=c∨∃ j,j≠i∧l[j]? = some x:=by
 obtain ⟨j,hj⟩:=List.mem_iff_getElem?.1 h
 by_cases e:j=i
 ·subst e
  have hl:j < l.length:=by simpa using (List.getElem?_eq_some_iff.1 hj).1
  rw [List.getElem?_set_self hl] at hj
  exact .inl (Option.some.inj hj).symm
 ·rw [List.getElem?_set_ne (Ne.symm e)] at hj
  exact .inr ⟨j,e,hj⟩
theorem GS.turn {w w1 w2:World} {B:Nat} {gcs:List GC} {i:Nat} {c c':GC} (h:GS w B gcs) (hi:gcs[i]? = some c) (hb:c'.b=c.b) (m:Mv c.v.ownBlock w w1) (o:Own B 1 9 w1 c'.v (aP c'.s.data))
 (kin:c'.v.ownBlock=c.v.ownBlock∨c'.v.ownBlock=some w.heap.size) (hp:Put w1 w2 c.b (.cells c'.cells.toArray 131 (0,0))):GS w2 B (gcs.set i c'):=by
 have hc:=h.each c (List.mem_of_getElem? hi)
 have hil:=(List.getElem?_eq_some_iff.1 hi).1
 have hcb:c.v.ownBlock≠some c.b:=hc.own.neBlock hc.blk (by omega)
 have ho:Own B 1 9 w2 c'.v (aP c'.s.data):=o.mv hp.mv (.inr (o.neBlock (cs:=c.cells.toArray) (fz:=(0,0)) (m.at hc.blk (fun e=>hcb e.symm)) (by omega)))
 have hother:∀ j x,j≠i→gcs[j]? = some x→GOK w2 B x∧x.b≠c.b∧(x.v.ownBlock=none∨x.v.ownBlock≠c'.v.ownBlock):=by
  intro j x hj hx
  have hxo:=h.each x (List.mem_of_getElem? hx)
  obtain ⟨s1,s2⟩:=h.split hx hi hj
  have n1:some x.b≠c.v.ownBlock:=fun e=>(hc.own.neBlock hxo.blk (by omega)) e.symm
  have n2:x.v.ownBlock=none∨x.v.ownBlock≠c.v.ownBlock:=by
   rcases s2 with s2 | s2 | s2
   ·exact .inl s2
   ·cases hv:x.v.ownBlock with
    | none=>exact .inl rfl
    | some r=>rw [s2];exact .inr (by simp)
   ·exact .inr s2
  have g1:=hxo.mv m n1 n2
  refine ⟨g1.mv hp.mv (fun e=>s1 (Option.some.inj e)) (.inr (hxo.own.neBlock hc.blk (by omega))),s1,?_⟩
  rcases kin with k | k
  ·rw [k];exact n2
  ·rw [k]
   cases hv:x.v.ownBlock with
   | none=>exact .inl rfl
   | some r=>exact .inr fun e=>by have:=(hxo.own.block r hv).2;have:=Option.some.inj e;omega
 refine ⟨fun x hx => ?_,RY h.apart hil (fun j hj => ?_) (fun j hj hl => ?_)⟩
 ·rcases xT hx with rfl | ⟨j,hj,hx⟩
  ·exact ⟨by rw [hb];exact hp.this,by rw [hb];exact hc.ge,ho⟩
  ·exact (hother j x hj hx).1
 ·obtain ⟨_,a,b⟩:=hother j gcs[j] (by omega) (List.getElem?_eq_getElem (by omega))
  exact ⟨by rw [hb];exact a,by rcases b with b | b;exact .inl b;exact .inr (.inr b)⟩
 ·obtain ⟨_,a,b⟩:=hother j gcs[j] (by omega) (List.getElem?_eq_getElem hl)
  exact ⟨by rw [hb];exact fun e=>a e.symm,by rcases b with b | b;exact .inr (.inl b);exact .inr (.inr fun e=>b e.symm)⟩
theorem GS.push {w:World} {B:Nat} {gcs:List GC} {c:GC} (h:GS w B gcs) (hc:GOK w B c) (hn:∀ x ∈ gcs,x.b≠c.b) (hv:c.v.ownBlock=none):GS w B (gcs ++ [c]):=by
 refine ⟨fun x hx => ?_,?_⟩
 ·rcases List.mem_append.1 hx with hx | hx
  ·exact h.each x hx
  ·rw [List.mem_singleton.1 hx];exact hc
 ·rw [List.pairwise_append]
  refine ⟨h.apart,by simp,fun x hx y hy => ?_⟩
  rw [List.mem_singleton.1 hy]
  exact ⟨hn x hx, .inr (.inl hv)⟩
theorem GS.mv {w w':World} {B:Nat} {gcs:List GC} {row:Option Nat} (h:GS w B gcs) (hm:Mv row w w') (h1:∀ c ∈ gcs,some c.b≠row∧(c.v.ownBlock=none∨c.v.ownBlock≠row)):GS w' B gcs :=
 ⟨fun c hc=>(h.each c hc).mv hm (h1 c hc).1 (h1 c hc).2,h.apart⟩
theorem WG:Tryz.prog.keyTypeAt 2 166=true:=by kernel_rfl
theorem LU:Tryz.prog.tiled 2 166=true:=by kernel_rfl
theorem LV:WideMaps.KeyLaw Tryz.prog 166:=deep_law (m:=2) (by omega) WG LU (by kernel_rfl)
theorem IF (n:List UInt8) (k:Int) (hn:n.length≤1000000) (hk:0≤k∧k≤65535):∃ l,keyOf Tryz.prog 166 (.agg #[aI n, .int .i64 k])=some l:=by
 unfold keyOf
 rw [Tryz.underlying166]
 have kt2:Tryz.prog.keyType 166=true:=by kernel_rfl
 simp only [kt2]
 rw [show Tryz.prog.types.size=275 from by kernel_rfl]
 have c48:Tryz.prog.cellsOf 166=2:=by kernel_rfl
 have c30:Tryz.prog.cellsOf 47=1:=by kernel_rfl
 have c3:Tryz.prog.cellsOf 3=1:=by kernel_rfl
 have f:Value.formed Tryz.prog 166 (Value.agg #[aI n,Value.int IntKind.i64 k])=true:=by simp [Value.formed,Tryz.underlying166,c48]
 have hs:(ByteArray.mk n.toArray).size≤maxLen:=by rw [fD];unfold maxLen;omega
 have hw:(Lit.int .i64 k).wf=true:=by simp [Lit.wf,IntKind.min,IntKind.max,IntKind.bits,IntKind.signed];omega
 have l30:Tryz.prog.keyLits 275 47 [aI n]=some [.string n]:=by simp [Program.keyLits,Tryz.underlying47,aI,-ByteArray.size_data,hs]
 have l3:Tryz.prog.keyLits 275 3 [Value.int .i64 k]=some [.int .i64 k]:=by simp [Program.keyLits,Tryz.underlying3,hw]
 rw [f]
 simp only [Bool.and_self,if_true]
 unfold Program.keyLits
 simp [Tryz.underlying166,c48,c30,c3,Value.cells,l30,l3]
structure L1 (w0 w:World) (kv:Value) (gcs:List GC):Prop where
 ext:Ext w0 w
 map:MapAt Tryz.prog 166 w w0.heap.size (gcs.map GC.key)
 keys:Own (w0.heap.size + 1) 2 166 w kv (gcs.map GC.kcells)
 sets:GS w (w0.heap.size + 1) gcs
theorem L1.grow {w0 w w':World} {kv:Value} {gcs:List GC} (h:L1 w0 w kv gcs) (hx:Ext w w'):L1 w0 w' kv gcs :=
 ⟨h.ext.trans hx,h.map.at (fun o ho=>hx.at ho),h.keys.ext hx,h.sets.ext hx⟩
def bY (s:SoaR):List Int:=[s.refresh,s.retry,s.expire,s.minimum]
def gK (s:SoaR):List UInt8:=s.main ++ [0] ++ (s.mail ++ [0]) ++ zJ s.serial.toNat
def oO (l:List Int):List UInt8:=(l.map fun n=>zJ n.toNat).flatten
theorem xU (s:SoaR):s.data=gK s ++ oO (bY s):=by simp [SoaR.data,gK,oO,bY]
theorem AN (l:List Int) (k:Nat) (h:k < l.length):oO (l.take (k + 1))=oO (l.take k) ++ zJ l[k].toNat:=by
 unfold oO
 rw [List.take_add_one,List.getElem?_eq_getElem h,Option.toList_some,List.map_append,List.flatten_append]
 simp
theorem EC (l:List Int):(oO l).length=4 * l.length:=by
 induction l with
 | nil=>rfl
 | cons x l ih =>
  have:oO (x :: l)=zJ x.toNat ++ oO l:=by simp [oO]
  rw [this,List.length_append,ih,List.length_cons]
  simp [zJ];omega
theorem LW (s:SoaR):s.ok=((aV s.main).isSome && (aV s.mail).isSome && decide (0≤s.serial) && decide (s.serial≤4294967295) && (bY s).all fZ):=by
 simp [SoaR.ok,bY,Bool.and_assoc]
set_option maxHeartbeats 1000000 in
theorem YP (s:SoaR) (w:World) (h1:s.main.length≤4611686018427387904) (h2:s.mail.length≤4611686018427387904):Calls Tryz.prog 154 #[.agg s.cells.toArray] w (bM w (if s.ok=true then .tuple #[aI s.data, .int .i64 0] else .tuple #[aI [], .int .i64 1])):=by
 have hA:=fun w=>WF s.main w (by omega)
 have hB:=fun w=>WF s.mail w (by omega)
 cases hm:aV s.main with
 | none =>
  simp only [hm,Option.isSome_none,Bool.false_eq_true,if_false] at hA
  have hno:s.ok=false:=by simp [SoaR.ok,hm]
  rw [hno]
  go_enter Tryz.func154,Tryz.ntmps154
  refine_lift lF fun _ _ => ?_
  refine bJ (vs:=s.cells) rfl rfl ?_
  intro p w1 x1 hp
  refine aA ?_
  have hp':Pts w1 p [aI s.main,aI s.mail, .int .i64 s.serial, .int .i64 s.refresh, .int .i64 s.retry, .int .i64 s.expire, .int .i64 s.minimum]:=hp
  refine_lift dR fun _ _ => ?_
  refine aD (enters_of Tryz.func184 rfl rfl) rfl rfl (hA _) ?_
  intro w2 x2
  have hp':=hp'.ext x2
  refine_lift dR fun _ _ => ?_
  refine aD (enters_of Tryz.func184 rfl rfl) rfl rfl (hB _) ?_
  intro w3 x3
  cases hl:(aV s.mail).isSome with
  | true =>
   simp only [hl,if_true]
   have hp':=hp'.ext x3
   refine_lift bR ?_
   go_ret2
   exact ⟨rfl,(x1.trans x2).trans x3⟩
  | false =>
   simp only [hl,Bool.false_eq_true,if_false]
   have hp':=hp'.ext x3
   refine_lift bR ?_
   go_ret2
   exact ⟨rfl,(x1.trans x2).trans x3⟩
 | some ls =>
  simp only [hm,Option.isSome_some,if_true] at hA
  cases hm2:aV s.mail with
  | none =>
   simp only [hm2,Option.isSome_none,Bool.false_eq_true,if_false] at hB
   have hno:s.ok=false:=by simp [SoaR.ok,hm2]
   rw [hno]
   go_enter Tryz.func154,Tryz.ntmps154
   refine_lift lF fun _ _ => ?_
   refine bJ (vs:=s.cells) rfl rfl ?_
   intro p w1 x1 hp
   refine aA ?_
   have hp':Pts w1 p [aI s.main,aI s.mail, .int .i64 s.serial, .int .i64 s.refresh, .int .i64 s.retry, .int .i64 s.expire, .int .i64 s.minimum]:=hp
   refine_lift dR fun _ _ => ?_
   refine aD (enters_of Tryz.func184 rfl rfl) rfl rfl (hA _) ?_
   intro w2 x2
   have hp':=hp'.ext x2
   refine_lift dR fun _ _ => ?_
   refine aD (enters_of Tryz.func184 rfl rfl) rfl rfl (hB _) ?_
   intro w3 x3
   have hp':=hp'.ext x3
   refine_lift bR ?_
   go_ret2
   exact ⟨rfl,(x1.trans x2).trans x3⟩
  | some ms =>
   simp only [hm2,Option.isSome_some,if_true] at hB
   have hfm:=dG hm
   have hfm2:=dG hm2
   rw [LW,hm,hm2]
   simp only [Option.isSome_some,Bool.true_and]
   go_enter Tryz.func154,Tryz.ntmps154
   refine_lift lF fun _ _ => ?_
   refine bJ (vs:=s.cells) rfl rfl ?_
   intro p w1 x1 hp
   refine aA ?_
   have hp':Pts w1 p [aI s.main,aI s.mail, .int .i64 s.serial, .int .i64 s.refresh, .int .i64 s.retry, .int .i64 s.expire, .int .i64 s.minimum]:=hp
   refine_lift dR fun _ _ => ?_
   refine aD (enters_of Tryz.func184 rfl rfl) rfl rfl (hA _) ?_
   intro w2 x2
   have hp':=hp'.ext x2
   refine_lift dR fun _ _ => ?_
   refine aD (enters_of Tryz.func184 rfl rfl) rfl rfl (hB _) ?_
   intro w3 x3
   have hp':=hp'.ext x3
   have x13:=(x1.trans x2).trans x3
   clear x1 x2 x3 hp hA hB
   refine_lift QJ (fun hc _ _ _ => ?_) (fun hc => ?_) (fun hc _ => ?_)
   ·have hc:=‹4294967295 < s.serial›
    go_ret2
    refine ⟨?_,x13⟩
    have hno:(decide (0≤s.serial) && decide (s.serial≤4294967295))=false:=by simp only [Bool.and_eq_false_iff,decide_eq_false_iff_not];omega
    simp only [hno,Bool.false_and,Bool.false_eq_true,if_false]
    rfl
   ·have hc:=‹s.serial≤4294967295›
    have hc0:=‹¬s.serial < 0›
    have hser:(decide (0≤s.serial) && decide (s.serial≤4294967295))=true:=by simp;omega
    refine qD (e:=5) (l:=s.main ++ [0] ++ (s.mail ++ [0])) rfl rfl (by decide +kernel) (by decide +kernel) (by simp;omega) ?_
    intro v w4 x4 o4
    refine aA ?_
    have hp':=hp'.ext x4
    have hsn:s.serial=((s.serial.toNat:Nat):Int):=by omega
    refine_lift bR ?_
    rw [hsn]
    refine aN (enters_of Tryz.func187 rfl rfl) rfl rfl (XR (B:=w3.heap.size) s.serial.toNat o4 x4.size (by omega) (by simp;omega)) ?_
    rintro e w5 ⟨v5,rfl,o5,m5⟩
    refine ⟨_,rfl,?_⟩
    refine aA ?_
    have x35:=o4.mvx m5 x4 (Nat.le_refl _)
    have hp':=‹Pts w3 p _›.ext x35
    have x15:=x13.trans x35
    rw [← hsn]
    refine_lift oQ fun _ _ _ _ => ?_
    refine cH (v:=.agg ((bY s).map (Value.int .i64)).toArray) rfl (Runs.build rfl (by kernel_rfl)) ?_
    refine aA ?_
    refine_lift bR ?_
    clear hp' m5
    have hbase:s.main ++ [0] ++ (s.mail ++ [0]) ++ zJ s.serial.toNat=gK s:=rfl
    rw [hbase] at o5
    have hbl:(gK s).length≤600:=by simp [gK,zJ];omega
    go_loopw [8,55] (fun v6 i wr=>∃ k:Nat,k≤4∧i=.int .i64 k∧Ext w wr∧w3.heap.size≤wr.heap.size∧Own w3.heap.size 1 5 wr v6 (aS (gK s ++ oO ((bY s).take k)))∧((bY s).take k).all fZ=true) (fun _ i _=>4 - (intOf i).toNat)
    case atStart=>exact ⟨0,by omega,rfl,x15,x35.size,by simpa [oO] using o5,rfl⟩
    case round =>
     obtain ⟨k,hk,rfl,hx,hsz,ho,hall⟩:=hrel
     have hlen:(bY s).length=4:=rfl
     by_cases hlt:k < 4
     ·have hlt2:k < (bY s).length:=hlt
      have hdata:s.data=gK s ++ oO (bY s):=xU s
      have hsplit:(bY s).all fZ=true→fZ (bY s)[k]=true:=fun h=>List.all_eq_true.1 h _ (List.getElem_mem hlt2)
      refine_lift xG ?_;intro _ _ _ _ _ _
      refine cH (v:=.int .i64 (bY s)[k]) rfl (Runs.idxA (n:=4) (i:=k) rfl rfl (by simp [hlt2]) hlt (by decide +kernel)) ?_
      refine aA ?_
      refine_lift LK (fun hc _ => ?_) (fun hc => ?_) (fun hc _ => ?_)
      ·have hc2:=‹2147483647 < (bY s)[k]›
       go_ret2
       refine ⟨?_,hx⟩
       have hno:(bY s).all fZ=false:=by
        cases h:(bY s).all fZ with
        | false=>rfl
        | true=>have:=hsplit h;simp [fZ] at this;omega
       simp only [hser,hno,Bool.and_false,Bool.false_eq_true,if_false]
       rfl
      ·have hc2:=‹(bY s)[k]≤2147483647›
       have hc1:=‹¬(bY s)[k] < 0›
       have hnn:(bY s)[k]=(((bY s)[k].toNat:Nat):Int):=by omega
       have hbs:(oO ((bY s).take k)).length≤16:=by rw [EC];simp;omega
       rw [hnn]
       refine aN (enters_of Tryz.func187 rfl rfl) rfl rfl (XR (B:=w3.heap.size) (bY s)[k].toNat ho hsz (by omega) (by rw [List.length_append];omega)) ?_
       rintro e w6 ⟨v6,rfl,o6,m6⟩
       refine ⟨_,rfl,?_⟩
       refine aA ?_
       have hx6:=ho.mvx m6 hx x13.size
       have hs6:w3.heap.size≤w6.heap.size:=Nat.le_trans hsz m6.size
       rw [List.append_assoc,← AN _ _ hlt2] at o6
       refine_lift bR ?_
       refine ⟨⟨k + 1,by omega,rfl,hx6,hs6,o6,?_⟩,by simp [intOf];omega⟩
       rw [List.take_add_one,List.getElem?_eq_getElem hlt2,Option.toList_some,List.all_append,hall]
       simp only [List.all_cons,List.all_nil,fZ,Bool.true_and,Bool.and_true,Bool.and_eq_true,decide_eq_true_eq]
       omega
      ·have hc2:=‹(bY s)[k] < 0›
       go_ret2
       refine ⟨?_,hx⟩
       have hno:(bY s).all fZ=false:=by
        cases h:(bY s).all fZ with
        | false=>rfl
        | true=>have:=hsplit h;simp [fZ] at this;omega
       simp only [hser,hno,Bool.and_false,Bool.false_eq_true,if_false]
       rfl
     ·have:k=4:=by omega
      subst this
      have hsl:=ho.sl
      rw [show (bY s).take 4=bY s from rfl] at hsl hall
      refine_lift jP fun _ => ?_
      go_ret2
      refine ⟨?_,hx⟩
      simp only [hser,hall,Bool.and_self,if_true]
      rw [xU]
      rfl
   ·have hc:=‹s.serial < 0›
    go_ret2
    refine ⟨?_,x13⟩
    have hno:(decide (0≤s.serial) && decide (s.serial≤4294967295))=false:=by simp only [Bool.and_eq_false_iff,decide_eq_false_iff_not];omega
    simp only [hno,Bool.false_and,Bool.false_eq_true,if_false]
    rfl
def bK:List Value:=[aI [],aI [], .int .i64 0, .int .i64 0, .int .i64 0, .int .i64 0, .int .i64 0]
theorem xV (s:List UInt8):(cL s).1.length≤s.length∧(cL s).2.1.length≤s.length:=by
 unfold cL
 split
 ·simp
 ·refine ⟨?_,by simp⟩
  unfold eX
  split
  ·simp only [Option.getD_some]
   have:(Lib.trimSuffix (s.take (fT s + 1)) [0]).length≤(s.take (fT s + 1)).length:=Lib.trimSuffix_le _ _
   simp at this ⊢
   omega
  ·simp
set_option maxHeartbeats 1000000 in
theorem WH (d:List UInt8) (w:World) (hl:d.length≤4611686018427387904):Calls Tryz.prog 106 #[aI d] w (bM w (match cS d with | some s=>.tuple #[.agg s.cells.toArray, .int .i64 0] | none=>.tuple #[.agg bK.toArray, .int .i64 2])):=by
 have hl1:=xV d
 have hl2:=xV (cL d).2.1
 go_enter Tryz.func106,Tryz.ntmps106
 refine_lift zN ?_;intro _ _ _
 refine aL (z:=bK) rfl (by decide +kernel) ?_
 intro w1 x1 s1 h1
 refine aA ?_
 refine_lift dR fun _ _ => ?_
 refine aD (enters_of Tryz.func152 rfl rfl) rfl rfl (XQ d _ hl) ?_
 intro w2 x2
 refine aA ?_
 have h12:=x2.at h1
 refine_lift bR ?_
 refine aL (z:=[aI []]) rfl (by decide +kernel) ?_
 intro w3 x3 s3 h3
 refine aA ?_
 have h13:=x3.at h12
 refine_lift bR ?_
 refine fB (v:=aI (cL d).2.1) rfl rfl rfl h3 (by decide +kernel) rfl ?_
 intro w4 p4
 have s2:w.heap.size < w2.heap.size:=by have:=x2.size;omega
 have h14:=p4.at h13 (by omega)
 have h54:=p4.this
 have x4:Ext w w4:=((x1.trans x2).trans x3).move p4.mv (by rintro k ⟨⟩;omega)
 have hp5:=aE (cs:=[aI (cL d).2.1]) h54
 generalize hb5:w2.heap.size=b5 at *
 clear h1 h12 h13 h3 p4 x1 x2 x3 s3
 refine_lift dR fun _ _ => ?_
 refine aD (enters_of Tryz.func152 rfl rfl) rfl rfl (XQ _ _ (by omega)) ?_
 intro w5 x5
 refine aA ?_
 have h15:=x5.at h14
 have h55:=x5.at h54
 have hp5:=hp5.ext x5
 have x5:=x4.trans x5
 refine_lift bR ?_
 refine fB (v:=aI (cL (cL d).2.1).2.1) rfl rfl rfl h55 (by decide +kernel) rfl ?_
 intro w6 p6
 have h16:=p6.at h15 (by omega)
 have h56:=p6.this
 have x6:Ext w w6:=x5.move p6.mv (by rintro k ⟨⟩;omega)
 clear hp5 h54 h14 h15 h55 p6 x4 x5
 have hp5:=aE (cs:=[aI (cL (cL d).2.1).2.1]) h56
 refine_lift RN (fun hc hc _ _ _ => ?_) (fun _ _ hc hc _ _ => ?_) (fun _ _ hc _ _ => ?_) (fun _ _ hc hc _ _ _ => ?_)
 ·refine cH (v:=.agg bK.toArray) rfl (Runs.build (parts:=[]) (vals:=[]) rfl (by kernel_rfl)) ?_
  refine aA ?_
  refine aG (v:=.agg bK.toArray) rfl rfl rfl h16 (by decide +kernel) rfl (by decide +kernel) ?_
  intro w7 p7
  have x7:Ext w w7:=x6.move p7.mv (by rintro k ⟨⟩;omega)
  have h17:w7.heap[w.heap.size]? = some (.cells bK.toArray 160 (0,0)):=p7.this
  refine_lift bR ?_
  refine bodyPost_ret (aU (cs:=bK) rfl rfl h17 (by decide +kernel)) rfl ⟨?_,x7⟩
  have hno:cS d=none:=by
   unfold cS
   rw [if_neg]
   rintro ⟨q1,q2,q3,q4⟩
   have:=‹(!decide (((cL (cL d).2.1).2.1.length:Int)=20))=true›
   simp [q3] at this
  rw [hno]
  rfl
 ·have hc1:=‹(!(cL d).2.2)=false›
  have hc2:=‹(!(cL (cL d).2.1).2.2)=false›
  have hc3:=‹(!decide (((cL (cL d).2.1).2.1.length:Int)=20))=false›
  have hr:(cL (cL d).2.1).2.1.length=20:=by simp at hc3;omega
  have q1:(cL d).2.2=true:=by simpa using hc1
  have q2:(cL (cL d).2.1).2.2=true:=by simpa using hc2
  have hps:cS d=if (dE d).ok=true then some (dE d) else none:=by
   unfold cS
   simp only [q1,q2,hr,true_and]
  generalize hrr:(cL (cL d).2.1).2.1=r at *
  refine fL (f:=153) (caps:=#[.pointer (some ⟨b5,0,none⟩)]) (enters_of Tryz.func153 rfl rfl) rfl rfl rfl (UL r 0 _ _ hp5 hr (by omega)) ?_
  rintro e w10 ⟨rfl,y⟩
  refine ⟨_,rfl,?_⟩
  refine aA ?_
  have hp5:=hp5.ext y
  have h16:=y.at h16
  have x6:=x6.trans y
  clear y
  refine_lift bR ?_
  refine fL (f:=153) (caps:=#[.pointer (some ⟨b5,0,none⟩)]) (enters_of Tryz.func153 rfl rfl) rfl rfl rfl (UL r 1 _ _ hp5 hr (by omega)) ?_
  rintro e w11 ⟨rfl,y⟩
  refine ⟨_,rfl,?_⟩
  refine aA ?_
  have hp5:=hp5.ext y
  have h16:=y.at h16
  have x6:=x6.trans y
  clear y
  refine_lift bR ?_
  refine fL (f:=153) (caps:=#[.pointer (some ⟨b5,0,none⟩)]) (enters_of Tryz.func153 rfl rfl) rfl rfl rfl (UL r 2 _ _ hp5 hr (by omega)) ?_
  rintro e w12 ⟨rfl,y⟩
  refine ⟨_,rfl,?_⟩
  refine aA ?_
  have hp5:=hp5.ext y
  have h16:=y.at h16
  have x6:=x6.trans y
  clear y
  refine_lift bR ?_
  refine fL (f:=153) (caps:=#[.pointer (some ⟨b5,0,none⟩)]) (enters_of Tryz.func153 rfl rfl) rfl rfl rfl (UL r 3 _ _ hp5 hr (by omega)) ?_
  rintro e w13 ⟨rfl,y⟩
  refine ⟨_,rfl,?_⟩
  refine aA ?_
  have hp5:=hp5.ext y
  have h16:=y.at h16
  have x6:=x6.trans y
  clear y
  refine_lift bR ?_
  refine fL (f:=153) (caps:=#[.pointer (some ⟨b5,0,none⟩)]) (enters_of Tryz.func153 rfl rfl) rfl rfl rfl (UL r 4 _ _ hp5 hr (by omega)) ?_
  rintro e w14 ⟨rfl,y⟩
  refine ⟨_,rfl,?_⟩
  refine aA ?_
  have hp5:=hp5.ext y
  have h16:=y.at h16
  have x6:=x6.trans y
  clear y
  refine_lift bR ?_
  have hsc:(dE d).cells=[aI (cL d).1,aI (cL (cL d).2.1).1, .int .i64 (numP r 0 4:Nat), .int .i64 (numP r 1 4:Nat), .int .i64 (numP r 2 4:Nat), .int .i64 (numP r 3 4:Nat), .int .i64 (numP r 4 4:Nat)]:=by
   simp only [SoaR.cells,dE,hrr]
  refine cH (v:=.agg (dE d).cells.toArray) rfl (by rw [hsc];exact Runs.build rfl (by kernel_rfl)) ?_
  refine aA ?_
  refine aL (z:=bK) rfl (by decide +kernel) ?_
  intro w15 x15 s15 h15
  refine aA ?_
  have h16:=x15.at h16
  have x6:=x6.trans x15
  have hlt16:w.heap.size < w14.heap.size:=(Array.getElem?_eq_some_iff.1 ‹w14.heap[w.heap.size]? = _›).1
  refine aG (v:=.agg (dE d).cells.toArray) rfl rfl rfl h15 (show aR Tryz.prog 160 7=true by decide +kernel) rfl (by rw [hsc];simp [Value.cells,Value.oneCell',aI]) ?_
  intro w16 p16
  have h16:=p16.at h16 (by omega)
  have x6:=x6.move p16.mv (by rintro k ⟨⟩;omega)
  have hb10:w16.heap[w14.heap.size]? = some (.cells (dE d).cells.toArray 160 (0,0)):=p16.this
  have hp10:=aE hb10
  refine_lift oQ fun _ _ _ _ => ?_
  refine cH (v:=.agg (dE d).cells.toArray) rfl (Runs.loadN (n:=7) hp10 rfl (by decide +kernel)) ?_
  refine aA ?_
  have hm1:(dE d).main.length≤4611686018427387904:=by simp only [dE];omega
  have hm2:(dE d).mail.length≤4611686018427387904:=by simp only [dE];omega
  refine aD (enters_of Tryz.func154 rfl rfl) rfl rfl (YP (dE d) _ hm1 hm2) ?_
  intro w17 x17
  refine aA ?_
  have h16:=x17.at h16
  have hb10:=x17.at hb10
  have x6:=x6.trans x17
  have hp10:=hp10.ext x17
  cases hok:(dE d).ok with
  | false =>
   simp only [hok,Bool.false_eq_true,if_false] at hps ⊢
   refine_lift zO fun _ _ _ => ?_
   refine cH (v:=.agg bK.toArray) rfl (Runs.build (parts:=[]) (vals:=[]) rfl (by kernel_rfl)) ?_
   refine aA ?_
   refine aG (v:=.agg bK.toArray) rfl rfl rfl h16 (by decide +kernel) rfl (by decide +kernel) ?_
   intro w7 p7
   have x7:Ext w w7:=x6.move p7.mv (by rintro k ⟨⟩;omega)
   have h17:w7.heap[w.heap.size]? = some (.cells bK.toArray 160 (0,0)):=p7.this
   refine_lift bR ?_
   refine bodyPost_ret (aU (cs:=bK) rfl rfl h17 (by decide +kernel)) rfl ⟨?_,x7⟩
   rw [hps]
   rfl
  | true =>
   simp only [hok,if_true] at hps ⊢
   refine_lift dR fun _ _ => ?_
   refine cH (v:=.agg (dE d).cells.toArray) rfl (Runs.loadN (n:=7) hp10 rfl (by decide +kernel)) ?_
   refine aA ?_
   refine aG (v:=.agg (dE d).cells.toArray) rfl rfl rfl h16 (show aR Tryz.prog 160 7=true by decide +kernel) rfl (by rw [hsc];simp [Value.cells,Value.oneCell',aI]) ?_
   intro w7 p7
   have x7:Ext w w7:=x6.move p7.mv (by rintro k ⟨⟩;omega)
   have h17:w7.heap[w.heap.size]? = some (.cells (dE d).cells.toArray 160 (0,0)):=p7.this
   refine_lift bR ?_
   refine bodyPost_ret (aU (cs:=(dE d).cells) rfl rfl h17 (show cP Tryz.prog 160 7=true by decide +kernel)) rfl ⟨?_,x7⟩
   rw [hps]
   rfl
 ·refine cH (v:=.agg bK.toArray) rfl (Runs.build (parts:=[]) (vals:=[]) rfl (by kernel_rfl)) ?_
  refine aA ?_
  refine aG (v:=.agg bK.toArray) rfl rfl rfl h16 (by decide +kernel) rfl (by decide +kernel) ?_
  intro w7 p7
  have x7:Ext w w7:=x6.move p7.mv (by rintro k ⟨⟩;omega)
  have h17:w7.heap[w.heap.size]? = some (.cells bK.toArray 160 (0,0)):=p7.this
  refine_lift bR ?_
  refine bodyPost_ret (aU (cs:=bK) rfl rfl h17 (by decide +kernel)) rfl ⟨?_,x7⟩
  have hno:cS d=none:=by
   unfold cS
   rw [if_neg]
   rintro ⟨q1,q2,q3,q4⟩
   have:=‹(!(cL (cL d).2.1).2.2)=true›
   simp [q2] at this
  rw [hno]
  rfl
 ·refine cH (v:=.agg bK.toArray) rfl (Runs.build (parts:=[]) (vals:=[]) rfl (by kernel_rfl)) ?_
  refine aA ?_
  refine aG (v:=.agg bK.toArray) rfl rfl rfl h16 (by decide +kernel) rfl (by decide +kernel) ?_
  intro w7 p7
  have x7:Ext w w7:=x6.move p7.mv (by rintro k ⟨⟩;omega)
  have h17:w7.heap[w.heap.size]? = some (.cells bK.toArray 160 (0,0)):=p7.this
  refine_lift bR ?_
  refine bodyPost_ret (aU (cs:=bK) rfl rfl h17 (by decide +kernel)) rfl ⟨?_,x7⟩
  have hno:cS d=none:=by
   unfold cS
   rw [if_neg]
   rintro ⟨q1,q2,q3,q4⟩
   have:=‹(!(cL d).2.2)=true›
   simp [q1] at this
  rw [hno]
  rfl
set_option maxHeartbeats 1000000 in
theorem YQ (k:Int) (d:List UInt8) (w:World) (hl:d.length≤4000):Calls Tryz.prog 148 #[.int .i64 k,aI d] w (bM w (.bool (fits k d))):=by
 have h38:=fun w=>WH d w (by omega)
 go_enter Tryz.func148,Tryz.ntmps148
 (repeat' first | ((with_reducible refine cY ?_);go_step) | ((with_reducible refine cJ ?_);first | refine eS ?_ | (refine dD ?_ ?_ <;> intro hc)) | fail)
 ·have h1:=‹k=1›
  go_ret
  refine ⟨?_,Ext.refl _⟩
  rw [fits,if_pos h1]
  have e:decide ((d.length:Int)=4)=decide (d.length=4):=by apply decide_eq_decide.2;omega
  exact congrArg (fun b=>Ending.returned (Value.bool b)) e
 ·have h1:=‹¬k=1›
  have h2:=‹k=28›
  go_ret
  refine ⟨?_,Ext.refl _⟩
  rw [fits,if_neg h1,if_pos h2]
  have e:decide ((d.length:Int)=16)=decide (d.length=16):=by apply decide_eq_decide.2;omega
  exact congrArg (fun b=>Ending.returned (Value.bool b)) e
 ·have h1:=‹¬k=1›
  have h2:=‹¬k=28›
  have h3:=‹k=16›
  refine aD (enters_of Tryz.func185 rfl rfl) rfl rfl (YL _ _ (by omega)) ?_
  intro w2 x2
  refine aA ?_
  refine_lift bR ?_
  go_ret
  refine ⟨?_,x2⟩
  rw [fits,if_neg h1,if_neg h2,if_pos h3]
  rfl
 ·have h1:=‹¬k=1›
  have h2:=‹¬k=28›
  have h3:=‹¬k=16›
  have h4:=‹k=6›
  have hF:fits k d=(cS d).isSome:=by rw [fits,if_neg h1,if_neg h2,if_neg h3,if_pos h4]
  refine aD (enters_of Tryz.func106 rfl rfl) rfl rfl (h38 _) ?_
  intro w2 x2
  refine aA ?_
  cases hp:cS d with
  | none =>
   simp only [hp] at hF
   refine_lift bR ?_
   refine aL (z:=bK) rfl (by decide +kernel) ?_
   intro w3 x3 s3 h3b
   refine aA ?_
   refine aG (v:=.agg bK.toArray) rfl rfl rfl h3b (by decide +kernel) rfl (by decide +kernel) ?_
   intro w4 p4
   refine_lift bR ?_
   go_ret
   refine ⟨?_,(x2.trans x3).move p4.mv (by rintro k ⟨⟩;exact x2.size)⟩
   rw [hF]
   rfl
  | some s =>
   simp only [hp] at hF
   have hsc:∀ s:SoaR,s.cells=[aI s.main,aI s.mail, .int .i64 s.serial, .int .i64 s.refresh, .int .i64 s.retry, .int .i64 s.expire, .int .i64 s.minimum]:=fun _=>rfl
   refine_lift bR ?_
   refine aL (z:=bK) rfl (by decide +kernel) ?_
   intro w3 x3 s3 h3b
   refine aA ?_
   refine aG (v:=.agg s.cells.toArray) rfl rfl rfl h3b (show aR Tryz.prog 160 7=true by decide +kernel) rfl (by rw [hsc];simp [Value.cells,Value.oneCell',aI]) ?_
   intro w4 p4
   refine_lift bR ?_
   go_ret
   refine ⟨?_,(x2.trans x3).move p4.mv (by rintro k ⟨⟩;exact x2.size)⟩
   rw [hF]
   rfl
 ·have h1:=‹¬k=1›
  have h2:=‹¬k=28›
  have h3:=‹¬k=16›
  have h4:=‹¬k=6›
  refine aD (enters_of Tryz.func105 rfl rfl) rfl rfl (VN k d _ (by omega)) ?_
  intro w2 x2
  refine aA ?_
  refine_lift bR ?_
  go_ret
  refine ⟨?_,x2⟩
  rw [fits,if_neg h1,if_neg h2,if_neg h3,if_neg h4]
  simp
set_option maxHeartbeats 20000000 in
theorem VO (r:Rec) (w:World):Calls Tryz.prog 100 #[.agg #[aI r.name, .int .i64 r.kind, .int .i64 r.ttl,aI r.data]] w (bM w (.int .i64 (bC r))):=by
 have hf:r.data.length≤4000→∀ w,Calls Tryz.prog 148 #[.int .i64 r.kind,aI r.data] w (bM w (.bool (fits r.kind r.data))):=fun h w=>YQ _ _ w h
 go_enter Tryz.func100,Tryz.ntmps100
 refine_lift lF fun _ _ => ?_
 refine bJ (vs:=[aI r.name, .int .i64 r.kind, .int .i64 r.ttl,aI r.data]) rfl rfl ?_
 intro p w1 x1 hp
 refine aA ?_
 (repeat' first | ((with_reducible refine cY ?_);go_step) | ((with_reducible refine cJ ?_);refine eS ?_) | fail)
 all_goals try (go_ret;refine ⟨?_,x1⟩;first | (rw [bC,if_pos (by omega)];rfl) | (rw [bC,if_neg (by omega),if_pos (by omega)];rfl))
 ((with_reducible refine cJ ?_);refine oN ?_;((first | refine IA ?_ ?_ | refine IB ?_ ?_) <;> intro hc))
 all_goals refine_lift QI ?_
 all_goals try (go_ret;refine ⟨?_,x1⟩;first | (rw [bC,if_pos (by omega)];rfl) | (rw [bC,if_neg (by omega),if_pos (by omega)];rfl))
 ((with_reducible refine cJ ?_);refine oN ?_;((first | refine IA ?_ ?_ | refine IB ?_ ?_) <;> intro hc))
 all_goals refine_lift QI ?_
 all_goals try (go_ret;refine ⟨?_,x1⟩;first | (rw [bC,if_pos (by omega)];rfl) | (rw [bC,if_neg (by omega),if_pos (by omega)];rfl))
 ((with_reducible refine cJ ?_);refine oN ?_;((first | refine IA ?_ ?_ | refine IB ?_ ?_) <;> intro hc))
 all_goals refine_lift QI ?_
 all_goals try (go_ret;refine ⟨?_,x1⟩;first | (rw [bC,if_pos (by omega)];rfl) | (rw [bC,if_neg (by omega),if_pos (by omega)];rfl))
 ((with_reducible refine cJ ?_);refine oN ?_;((first | refine IA ?_ ?_ | refine IB ?_ ?_) <;> intro hc))
 all_goals refine_lift QI ?_
 all_goals try (go_ret;refine ⟨?_,x1⟩;first | (rw [bC,if_pos (by omega)];rfl) | (rw [bC,if_neg (by omega),if_pos (by omega)];rfl))
 (apply zZ;(rfl)) <;> intro hc
 ·have hlen:r.data.length≤4000:=by simp at hc;omega
  rw [hc]
  refine_lift QI ?_
  refine aD (enters_of Tryz.func148 rfl rfl) rfl rfl (hf hlen _) ?_
  intro w2 x2
  refine aA ?_
  have hp:=hp.ext x2
  cases hfit:fits r.kind r.data with
  | true =>
   refine_lift XY fun _ _ => ?_
   refine aD (enters_of Tryz.func65 rfl rfl) rfl rfl (RV _ _) ?_
   intro w3 x3
   refine aA ?_
   refine_lift QI ?_
   go_ret
   refine ⟨?_,(x1.trans x2).trans x3⟩
   have e:bC r=if (aV r.name).isSome=true then 0 else 1:=by
    rw [bC,if_neg (by omega),if_neg (by rw [hfit];simp;omega)]
   rw [e]
   rfl
  | false =>
   refine_lift QI ?_
   go_ret
   refine ⟨?_,x1.trans x2⟩
   rw [bC,if_neg (by omega),if_pos (by rw [hfit];simp)]
   rfl
 ·have hc4:4000 < r.data.length:=by simp at hc;omega
  rw [hc]
  simp only [Act.put,List.setIfInBounds_toArray,List.set_cons_succ,List.set_cons_zero,Bool.not_true,Bool.not_false]
  refine_lift QI ?_
  go_ret
  refine ⟨?_,x1⟩
  rw [bC,if_neg (by omega),if_pos (by omega)]
  rfl
end Go.Proofs.X
set_option linter.unusedSimpArgs false
set_option linter.unusedVariables false
namespace Go.Proofs.X
open Go.RowKit
def kE (r:Rec):Bool:=decide (r.name.length≤300) && decide (r.data.length≤300)
def gR (l:List Rec):Bool:=decide (l.length≤25) && l.all kE
theorem nM {α:Type} {p:α→Bool} {l:List α} {k:Nat} (h:k < l.length) (hp:p l[k]=false):l.all p=false:=by
 rw [List.all_eq_false]
 exact ⟨l[k],List.getElem_mem h,by simp [hp]⟩
theorem lH {α:Type} {p:α→Bool} {l:List α} {k:Nat} (h:k < l.length) (ha:(l.take k).all p=true) (hp:p l[k]=true):(l.take (k + 1)).all p=true:=by
 rw [List.take_add_one,List.getElem?_eq_getElem h,List.all_append,ha]
 simp [hp]
set_option maxHeartbeats 1000000 in
theorem t7 (v:Value) (l:List Rec) (w:World) (hv:Sl 4 w v (aO l)):Calls Tryz.prog 25 #[v] w (bM w (.bool (gR l))):=by
 have hl:=aQ l
 have hle:=hv.le
 go_enter Tryz.func25,Tryz.ntmps25
 (repeat' first | ((with_reducible refine cY ?_);go_step) | ((with_reducible refine cJ ?_);first | refine eS ?_ | (refine dD ?_ ?_ <;> intro hc)) | fail)
 ·have hne:=‹25 < ((aO l).length:Int)›
  go_ret
  refine ⟨?_,Ext.refl _⟩
  have:decide (l.length≤25)=false:=decide_eq_false (by omega)
  simp [gR,this]
 ·have h25:decide (l.length≤25)=true:=decide_eq_true (by omega)
  go_loopw [3] (fun i wr=>∃ k:Nat,k≤l.length∧i=.int .i64 k∧Ext w wr∧(l.take k).all kE=true) (fun i _=>l.length - (intOf i).toNat)
  case atStart=>exact ⟨0,Nat.zero_le _,rfl,Ext.refl _,rfl⟩
  case round =>
   obtain ⟨k,hk,rfl,hx,hall⟩:=hrel
   have hv2:=hv.ext hx
   by_cases hlt:k < l.length
   ·have h1:=hv2.elem (gJ hlt)
    (repeat' first | ((with_reducible refine cY ?_);go_step) | ((with_reducible refine cJ ?_);first | refine eS ?_ | (refine dD ?_ ?_ <;> intro hc)) | fail)
    ·go_ret
     refine ⟨?_,by exact eU⟩
     have:kE l[k]=false:=by have:decide (l[k].data.length≤300)=false:=decide_eq_false (by omega)
                            simp [kE,this]
     simp [gR,nM hlt this]
    ·have ha:kE l[k]=true:=by
      have e1:decide (l[k].data.length≤300)=true:=decide_eq_true (by omega)
      have e2:decide (l[k].name.length≤300)=true:=decide_eq_true (by omega)
      rw [kE,e1,e2];rfl
     exact ⟨⟨k + 1,by omega,rfl,by exact eU,lH hlt hall ha⟩,by simp [intOf];omega⟩
    ·go_ret
     refine ⟨?_,by exact eU⟩
     have:kE l[k]=false:=by have:decide (l[k].name.length≤300)=false:=decide_eq_false (by omega)
                            simp [kE,this]
     simp [gR,nM hlt this]
   ·have hk2:k=l.length:=by omega
    subst hk2
    (repeat' first | ((with_reducible refine cY ?_);go_step) | ((with_reducible refine cJ ?_);first | refine eS ?_ | (refine dD ?_ ?_ <;> intro hc)) | fail)
    go_ret
    refine ⟨?_,by exact eU⟩
    rw [List.take_length] at hall
    rw [gR,h25,hall]
    rfl
def qX (s:RSet):Bool:=decide (s.data.length≤12) && decide (s.name.length≤300) && s.data.all fun d=>decide (d.length≤300)
def sP (l:List RSet):Bool:=decide (l.length≤25) && l.all qX
set_option maxHeartbeats 2000000 in
theorem YR (v:Value) (l:List RSet) (w:World) (hv:SetsAt w v l):Calls Tryz.prog 59 #[v] w (bM w (.bool (sP l))):=by
 obtain ⟨cv,hv1,hvl⟩:=hv.sl
 have hle:=hv1.le
 go_enter Tryz.func59,Tryz.ntmps59
 (repeat' first | ((with_reducible refine cY ?_);go_step) | ((with_reducible refine cJ ?_);first | refine eS ?_ | (refine dD ?_ ?_ <;> intro hc)) | fail)
 ·go_ret
  refine ⟨?_,Ext.refl _⟩
  have:decide (l.length≤25)=false:=decide_eq_false (by omega)
  simp [sP,this]
 ·have h25:decide (l.length≤25)=true:=decide_eq_true (by omega)
  go_loopw [3,4] (fun i _ wr=>∃ k:Nat,k≤l.length∧i=.int .i64 k∧Ext w wr∧(l.take k).all qX=true) (fun i _ _=>l.length - (intOf i).toNat)
  case atStart=>exact ⟨0,Nat.zero_le _,rfl,Ext.refl _,rfl⟩
  case round =>
   obtain ⟨k,hk,rfl,hx,hall⟩:=hrel
   have hv2:=hv1.ext hx
   by_cases hlt:k < l.length
   ·obtain ⟨x,h1,h1d⟩:=(hv.ext hx).elem (List.getElem?_eq_getElem hlt)
    have hdl:=bA l[k].data
    have hdle:=h1d.le
    (repeat' first | ((with_reducible refine cY ?_);go_step) | ((with_reducible refine cJ ?_);first | refine eS ?_ | (refine dD ?_ ?_ <;> intro hc)) | fail)
    ·go_ret
     refine ⟨?_,by exact eU⟩
     have:qX l[k]=false:=by
      have:decide (l[k].name.length≤300)=false:=decide_eq_false (by omega)
      simp [qX,this]
     simp [sP,nM hlt this]
    ·have e1:decide (l[k].data.length≤12)=true:=decide_eq_true (by omega)
     have e2:decide (l[k].name.length≤300)=true:=decide_eq_true (by omega)
     go_loopw [4] (fun i wq=>∃ j:Nat,j≤l[k].data.length∧i=.int .i64 j∧Ext wr wq∧(l[k].data.take j).all (fun d=>decide (d.length≤300))=true) (fun i _=>l[k].data.length - (intOf i).toNat)
     case atStart=>exact ⟨0,Nat.zero_le _,rfl,Ext.refl _,rfl⟩
     case round =>
      obtain ⟨j,hj,rfl,hx2,hall2⟩:=hrel
      have hv3:=hv2.ext hx2
      have h1b:=h1.ext hx2
      have h1c:=h1d.ext hx2
      by_cases hlt2:j < l[k].data.length
      ·have h3:=h1c.elem (fM hlt2)
       (repeat' first | ((with_reducible refine cY ?_);go_step) | ((with_reducible refine cJ ?_);first | refine eS ?_ | (refine dD ?_ ?_ <;> intro hc)) | fail)
       ·go_ret
        refine ⟨?_,by exact eU⟩
        have:qX l[k]=false:=by
         have:l[k].data.all (fun d=>decide (d.length≤300))=false:=nM hlt2 (decide_eq_false (by omega))
         simp only [qX,this,Bool.and_false]
        simp [sP,nM hlt this]
       ·exact ⟨⟨j + 1,by omega,rfl,by exact eU,lH hlt2 hall2 (decide_eq_true (by omega))⟩,by simp [intOf];omega⟩
      ·have hj2:j=l[k].data.length:=by omega
       subst hj2
       (repeat' first | ((with_reducible refine cY ?_);go_step) | ((with_reducible refine cJ ?_);first | refine eS ?_ | (refine dD ?_ ?_ <;> intro hc)) | fail)
       rw [List.take_length] at hall2
       exact ⟨⟨k + 1,by omega,rfl,by exact eU,lH hlt hall (by rw [qX,e1,e2,hall2];rfl)⟩,by simp [intOf];omega⟩
    ·go_ret
     refine ⟨?_,by exact eU⟩
     have:qX l[k]=false:=by
      have:decide (l[k].data.length≤12)=false:=decide_eq_false (by omega)
      simp [qX,this]
     simp [sP,nM hlt this]
   ·have hk2:k=l.length:=by omega
    subst hk2
    (repeat' first | ((with_reducible refine cY ?_);go_step) | ((with_reducible refine cJ ?_);first | refine eS ?_ | (refine dD ?_ ?_ <;> intro hc)) | fail)
    go_ret
    refine ⟨?_,by exact eU⟩
    rw [List.take_length] at hall
    rw [sP,h25,hall]
    rfl
end Go.Proofs.X
set_option linter.unusedSimpArgs false
set_option linter.unusedVariables false
namespace Go.Proofs.X
open Go.RowKit
set_option maxRecDepth 100000
def jU (s:RSet) (i:Nat):Bool:=decide (bC ⟨s.name,s.kind,s.ttl,s.data.getD i []⟩≠0) || (decide (0 < i) && !Op.bytesLess (s.data.getD (i - 1) []) (s.data.getD i []))
def fW (s:RSet):Bool:=decide (fold s.name=s.name) && decide (1≤s.data.length) && decide (s.data.length≤20) && (List.range s.data.length).all fun i => !jU s i
theorem pI {s:RSet} {i:Nat} (hi:i < s.data.length) (h:jU s i=true):fW s=false:=by
 have:(List.range s.data.length).all (fun i => !jU s i)=false:=by
  rw [List.all_eq_false]
  exact ⟨i,by simpa using hi,by simp [h]⟩
 simp [fW,this]
set_option maxHeartbeats 2400000 in
theorem YS (s:RSet) (v:Value) (w:World) (hv:Sl 1 w v (aP s.data)):Calls Tryz.prog 161 #[.agg #[aI s.name, .int .i64 s.kind, .int .i64 s.ttl,v]] w (bM w (.bool (fW s))):=by
 have hlen:=bA s.data
 go_enter Tryz.func161,Tryz.ntmps161
 refine_lift lF fun _ _ => ?_
 refine bJ (vs:=[aI s.name, .int .i64 s.kind, .int .i64 s.ttl,v]) rfl rfl ?_
 intro p w1 x1 hp
 refine aA ?_
 refine_lift oQ fun _ _ _ _ => ?_
 refine dS (S:=Ext w1) (by decide +kernel) ?_
 intro w2 x2 _
 refine tk 0 ?_;refine aA ?_;refine tk 1 ?_;refine aA ?_;refine tk 3 ?_;refine aA ?_;refine tk 4 ?_;refine aA ?_
 refine cA (i:=2) (by decide +kernel) rfl rfl ?_
 refine aD (enters_of Tryz.func32 rfl rfl) rfl rfl (LR _ _) ?_;intro w3 x3;refine aA ?_
 refine aJ ⟨by exact eU,?_⟩
 refine tk 5 ?_;refine aA ?_
 by_cases hf:fold s.name=s.name
 ·have e1:(decide (fold s.name=s.name))=true:=by simpa using hf
  simp only [e1,Bool.not_true]
  refine tk 6 ?_;refine aA ?_;refine tk 7 ?_;refine aA ?_;refine tk 8 ?_;refine aA ?_;refine tk 9 ?_;refine aA ?_;refine tk 10 ?_;refine aA ?_
  by_cases h1:s.data.length < 1
  ·have e2:decide (((aP s.data).length:Int) < 1)=true:=decide_eq_true (by omega)
   simp only [e2]
   refine tk 11 ?_;refine aA ?_;refine tk 12 ?_;refine aA ?_
   refine gS 13 ?_;refine aA ?_
   refine gS 14 ?_;refine aA ?_
   refine gS 15 ?_;refine aA ?_
   refine gS 16 ?_;refine aA ?_
   refine tk 17 ?_;refine aA ?_
   refine dK (by decide +kernel) ?_
   refine_lift bR ?_
   go_ret
   refine ⟨?_,by exact eU⟩
   have:decide (1≤s.data.length)=false:=decide_eq_false (by omega)
   simp [fW,this]
  ·have e2:decide (((aP s.data).length:Int) < 1)=false:=decide_eq_false (by omega)
   simp only [e2]
   refine tk 11 ?_;refine aA ?_;refine tk 12 ?_;refine aA ?_;refine tk 13 ?_;refine aA ?_;refine tk 14 ?_;refine aA ?_;refine tk 15 ?_;refine aA ?_;refine tk 16 ?_;refine aA ?_;refine tk 17 ?_;refine aA ?_
   refine dK (by decide +kernel) ?_
   by_cases h2:20 < s.data.length
   ·have e3:decide ((20:Int) < ((aP s.data).length:Int))=true:=decide_eq_true (by omega)
    simp only [e3]
    refine_lift bR ?_
    go_ret
    refine ⟨?_,by exact eU⟩
    have:decide (s.data.length≤20)=false:=decide_eq_false (by omega)
    simp [fW,this]
   ·have e3:decide ((20:Int) < ((aP s.data).length:Int))=false:=decide_eq_false (by omega)
    simp only [e3]
    refine_lift dR fun _ _ => ?_
    have hxx:Ext w w3:=by exact eU
    go_loopw [3,4,26] (fun _ _ i wr=>∃ k:Nat,k≤s.data.length∧i=.int .i64 k∧Ext w3 wr∧∀ j,j < k→jU s j=false) (fun _ _ i _=>s.data.length - (intOf i).toNat)
    case atStart=>exact ⟨0,Nat.zero_le _,rfl,Ext.refl _,by omega⟩
    case round =>
     obtain ⟨k,hk,rfl,hx,hall⟩:=hrel
     by_cases hlt:k < s.data.length
     ·have hvr:Sl 1 wr v (aP s.data):=hv.ext (hxx.trans hx)
      have he:(aP s.data)[k]? = some [aI s.data[k]]:=by simp [aP,hlt]
      have hpe:=hvr.elem he
      have hpr:Pts wr p _:=hp.ext ((x2.trans x3).trans hx)
      have hbad:jU s k=(decide (bC ⟨s.name,s.kind,s.ttl,s.data[k]⟩≠0) || (decide (0 < k) && !Op.bytesLess (s.data.getD (k - 1) []) s.data[k])):=by
       have:s.data.getD k []=s.data[k]:=by simp [hlt]
       rw [jU,this]
      refine_lift xG ?_;intro _ _ _ _ _ _
      refine aD (enters_of Tryz.func172 rfl rfl) rfl rfl (XS _ _ _ _) ?_;intro w7 x7;refine aA ?_
      refine_lift bR ?_
      refine aD (enters_of Tryz.func100 rfl rfl) rfl rfl (VO ⟨s.name,s.kind,s.ttl,s.data[k]⟩ _) ?_;intro w8 x8;refine aA ?_
      by_cases hc:bC ⟨s.name,s.kind,s.ttl,s.data[k]⟩=0
      ·have e4:decide (bC ⟨s.name,s.kind,s.ttl,s.data[k]⟩=0)=true:=decide_eq_true hc
       generalize bC ⟨s.name,s.kind,s.ttl,s.data[k]⟩=cr at hc e4 hbad ⊢
       ((with_reducible refine cJ ?_);(first | (refine jO ?_;refine GO ?_) | (refine oN ?_;refine qV ?_;(with_reducible refine cJ ?_);refine jO ?_;refine GO ?_)))
       simp only [e4,Bool.not_true]
       refine_lift xD (fun hc => ?_) (fun hc => ?_)
       ·have hpp:Pts wr (dN v (((k:Int) - 1).toNat * 1)) [aI (s.data.getD (k - 1) [])]:=by
         have e:((k:Int) - 1).toNat=k - 1:=by omega
         rw [e]
         refine hvr.elem ?_
         have:k - 1 < s.data.length:=by omega
         simp [aP,this]
        refine_lift xD (fun _ => ?_) (fun _ => ?_)
        ·have hl:=‹(!Op.bytesLess (s.data.getD (k - 1) []) s.data[k])=true›
         go_ret
         refine ⟨?_,by exact eU⟩
         rw [pI hlt (by rw [hbad,hl];have:0 < k:=by omega
                        simp [this])]
         rfl
        ·have hl:=‹(!Op.bytesLess (s.data.getD (k - 1) []) s.data[k])=false›
         exact ⟨⟨k + 1,by omega,rfl,by exact eU,fun j hj=>by
          rcases Nat.lt_or_ge j k with h | h
          ·exact hall j h
          ·have:j=k:=by omega
           subst this
           rw [hbad,hl];simp [‹cr=0›]⟩,by simp [intOf];omega⟩
       ·exact ⟨⟨k + 1,by omega,rfl,by exact eU,fun j hj=>by
         rcases Nat.lt_or_ge j k with h | h
         ·exact hall j h
         ·have:j=k:=by omega
          subst this
          have:¬ (0 < j):=by omega
          rw [hbad];simp [‹cr=0›,this]⟩,by simp [intOf];omega⟩
      ·have e4:decide (bC ⟨s.name,s.kind,s.ttl,s.data[k]⟩=0)=false:=decide_eq_false hc
       generalize bC ⟨s.name,s.kind,s.ttl,s.data[k]⟩=cr at hc e4 hbad ⊢
       ((with_reducible refine cJ ?_);(first | (refine jO ?_;refine GO ?_) | (refine oN ?_;refine qV ?_;(with_reducible refine cJ ?_);refine jO ?_;refine GO ?_)))
       simp only [e4,Bool.not_false]
       refine_lift bR ?_
       go_ret
       refine ⟨?_,by exact eU⟩
       rw [pI hlt (by rw [hbad];simp [hc])]
       rfl
     ·have:k=s.data.length:=by omega
      subst this
      refine_lift jP fun _ => ?_
      go_ret
      refine ⟨?_,by exact eU⟩
      have h20:decide (s.data.length≤20)=true:=decide_eq_true (by omega)
      have h10:decide (1≤s.data.length)=true:=decide_eq_true (by omega)
      have hal:(List.range s.data.length).all (fun i => !jU s i)=true:=by
       rw [List.all_eq_true]
       intro i hi
       simp [hall i (by simpa using hi)]
      have:fW s=true:=by rw [fW,hal,h20,h10,e1];rfl
      rw [this]
      rfl
 ·have e1:(decide (fold s.name=s.name))=false:=by simpa using hf
  simp only [e1,Bool.not_false]
  refine tk 6 ?_;refine aA ?_
  refine gS 7 ?_;refine aA ?_
  refine gS 8 ?_;refine aA ?_
  refine gS 9 ?_;refine aA ?_
  refine gS 10 ?_;refine aA ?_
  refine tk 11 ?_;refine aA ?_;refine tk 12 ?_;refine aA ?_
  refine gS 13 ?_;refine aA ?_
  refine gS 14 ?_;refine aA ?_
  refine gS 15 ?_;refine aA ?_
  refine gS 16 ?_;refine aA ?_
  refine tk 17 ?_;refine aA ?_
  refine dK (by decide +kernel) ?_
  refine_lift bR ?_
  go_ret
  refine ⟨?_,by exact eU⟩
  simp [fW,hf]
end Go.Proofs.X
