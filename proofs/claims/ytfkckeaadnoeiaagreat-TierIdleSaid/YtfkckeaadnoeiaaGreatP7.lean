/- Laws and walks that the proof of the statement is made of (part 7). -/
import Derived.Test.YtfkckeaadnoeiaaGreatP6
set_option linter.unusedSimpArgs false
set_option linter.unusedVariables false
set_option maxRecDepth 100000
set_option maxHeartbeats 20000000
namespace Go.Proofs.X
open Go.RowKit
structure KL (P:Program) (k:TypeId) (ok:Value→Prop):Prop where
 check:∀ (w:World) (em:Bool) {v:Value},ok v→(Instr.checkKey em 10000 k v).run P w=.ok () w
 find:∀ (w:World) {x:Value},ok x→∀ es:List MapEntry,(∀ e ∈ es,ok e.key) →
  ((Instr.findKey k x es).run P w=.ok none w∧∀ e ∈ es,e.key≠x)∨∃ j e,(Instr.findKey k x es).run P w=.ok (some (j,e.val)) w∧es[j]? = some e∧e.key=x
theorem KL.wide {P:Program} {k:TypeId} (h:WideMaps.KeyLaw P k):KL P k (fun v=>∃ l,keyOf P k v=some l) :=
 ⟨fun w em _ ⟨_,hv⟩=>h.check w em hv,fun w _ ⟨_,hx⟩ es hes=>h.find w hx es hes⟩
theorem KL.int {P:Program} {k:TypeId} (h:P.underlying k=some (.int .i64)):KL P k (fun v=>∃ n,v=.int .i64 n):=by
 refine ⟨fun w em v hv => ?_,fun w x hx es hes => ?_⟩
 ·obtain ⟨n,rfl⟩:=hv;exact MapKept.run_checkKey h (d:=.int .i64) (k:=.int .i64 n) rfl em 9999
 ·obtain ⟨n,rfl⟩:=hx;have hks:∀ e ∈ es,MapKept.IsKey (.int .i64) e.key:=fun e he=>by
   obtain ⟨m,hm⟩:=hes e he;rw [hm];rfl
  rcases MapKept.findNow_spec (d:=.int .i64) (k:=.int .i64 n) rfl es 0 hks with ⟨h1,h2⟩ | ⟨j,e0,h1,h2,h3⟩
  ·exact .inl ⟨MapKept.run_findKey h h1,h2⟩
  ·exact .inr ⟨j,e0,by simpa using MapKept.run_findKey h h1,h2,h3⟩
structure MapS (ok:Value→Prop) (w:World) (m:Nat) (ents:List (Value × Value)):Prop where
 out:∃ es clock,w.heap[m]? = some (.map es clock)∧es.toList.map (fun e=>(e.key,e.val))=ents∧(∀ e ∈ es.toList,ok e.key∧e.born < clock)
theorem MapS.at {ok:Value→Prop} {w w':World} {m:Nat} {ents:List (Value × Value)} (h:MapS ok w m ents) (hm:∀ es c,w.heap[m]? = some (.map es c)→w'.heap[m]? = some (.map es c)):MapS ok w' m ents:=by
 obtain ⟨es,c,h1,h2,h3⟩:=h;exact ⟨es,c,hm _ _ h1,h2,h3⟩
theorem MapS.lt {ok:Value→Prop} {w:World} {m:Nat} {ents:List (Value × Value)} (h:MapS ok w m ents):m < w.heap.size:=by
 obtain ⟨es,c,h1,_⟩:=h;exact (Array.getElem?_eq_some_iff.1 h1).1
theorem MapS.ext {ok:Value→Prop} {w w':World} {m:Nat} {ents:List (Value × Value)} (h:MapS ok w m ents) (hx:Ext w w'):MapS ok w' m ents:=h.at fun _ _=>hx.at
theorem MapS.neCells {ok:Value→Prop} {w:World} {m b:Nat} {ents:List (Value × Value)} {cs:Array Value} {t:TypeId} {fz:Nat × Nat} (h:MapS ok w m ents) (hb:w.heap[b]? = some (.cells cs t fz)):m≠b:=by
 rintro rfl;obtain ⟨es,c,h1,_⟩:=h;rw [hb] at h1;cases h1
theorem lV {α β:Type} (f:α→β):∀ (l:List α) (i:Nat),(l.map f).eraseIdx i=(l.eraseIdx i).map f
 | [],_=>rfl
 | _ :: _,0=>rfl
 | a :: l,i + 1=>by simp [lV f l i]
section
variable {P:Program} {ok:Value→Prop} {w:World} {kt et t:TypeId} {m:Nat} {ents:List (Value × Value)}
theorem rJ (law:KL P kt ok) {es:Array MapEntry} {x:Value} (hx:ok x) (h2:es.toList.map (fun e=>(e.key,e.val))=ents) (h3:∀ e ∈ es.toList,ok e.key) :
 (∃ (i:Nat) (v:Value),ents[i]? = some (x,v)∧(Instr.findKey kt x es.toList).run P w=.ok (some (i,v)) w)∨((∀ e ∈ ents,e.1≠x)∧(Instr.findKey kt x es.toList).run P w=.ok none w):=by
 rcases law.find w hx es.toList h3 with ⟨h4,h5⟩ | ⟨j,e,h4,h5,h6⟩
 ·refine .inr ⟨fun e he => ?_,h4⟩;subst h2;obtain ⟨e',he',rfl⟩:=List.mem_map.1 he;exact h5 e' he'
 ·refine .inl ⟨j,e.val,?_,h4⟩;subst h2;rw [List.getElem?_map,h5,Option.map_some,h6]
theorem wT (law:KL P kt ok) (ht:eG P t kt et=true) {z:Value} (hz:∀ w,(zeroValue et).run P w=.ok z w) (hm:MapS ok w m ents) {x:Value} (hx:ok x) (k:Bool) :
 ∃ v b,(Instr.lookup t (.map (some m)) x k).run P w=.ok (if k then .tuple #[v, .bool b] else v) w∧((∃ i:Nat,ents[i]? = some (x,v)∧b=true)∨((∀ e ∈ ents,e.1≠x)∧v=z∧b=false)):=by
 obtain ⟨es,c,h1,h2,h3⟩:=hm;have hc:=law.check w es.isEmpty hx;have hu:=gK ht;have hgo:(getObj m).run P w=.ok (.map es c) w:=by simp [getObj,Sem.run,h1]
 rcases rJ (w:=w) law hx h2 (fun e he=>(h3 e he).1) with ⟨i,v,hi,hf⟩ | ⟨hn,hf⟩
 ·refine ⟨v,true,?_, .inl ⟨i,hi,rfl⟩⟩;simp only [Instr.lookup,Sem.run_bind,run_underlying hu,Result.andThen_ok,hgo,Sem.run_pure,hc,hf]
 ·refine ⟨z,false,?_, .inr ⟨hn,rfl,rfl⟩⟩;simp only [Instr.lookup,Sem.run_bind,run_underlying hu,Result.andThen_ok,hgo,Sem.run_pure,hc,hf,hz w]
theorem eR (law:KL P kt ok) (ht:eG P t kt et=true) {z:Value} (hz:∀ w,(zeroValue et).run P w=.ok z w) (hm:MapS ok w m ents) {x v:Value} (hx:ok x) {i:Nat} (hi:ents[i]? = some (x,v)) (hu:ents.Pairwise (fun a b=>a.1≠b.1)) (k:Bool) :
 (Instr.lookup t (.map (some m)) x k).run P w=.ok (if k then .tuple #[v, .bool true] else v) w:=by
 obtain ⟨u,b,hr,hc⟩:=wT law ht hz hm hx k;rw [hr];rcases hc with ⟨j,hj,rfl⟩ | ⟨hn,_⟩
 ·obtain ⟨h1,h2⟩:=List.getElem?_eq_some_iff.1 hi;obtain ⟨h3,h4⟩:=List.getElem?_eq_some_iff.1 hj;have hij:i=j:=by
   rcases Nat.lt_trichotomy i j with h | h | h
   ·exact absurd (by rw [h2,h4]) (List.pairwise_iff_getElem.1 hu i j h1 h3 h)
   ·exact h
   ·exact absurd (by rw [h2,h4]) (List.pairwise_iff_getElem.1 hu j i h3 h1 h)
  subst hij;rw [hi] at hj;cases hj
  rfl
 ·exact absurd rfl (hn _ (List.mem_of_getElem? hi))
theorem lC (law:KL P kt ok) (ht:eG P t kt et=true) {z:Value} (hz:∀ w,(zeroValue et).run P w=.ok z w) (hm:MapS ok w m ents) {x:Value} (hx:ok x) (hn:∀ e ∈ ents,e.1≠x) (k:Bool) :
 (Instr.lookup t (.map (some m)) x k).run P w=.ok (if k then .tuple #[z, .bool false] else z) w:=by
 obtain ⟨u,b,hr,hc⟩:=wT law ht hz hm hx k;rw [hr];rcases hc with ⟨j,hj,_⟩ | ⟨_,rfl,rfl⟩
 ·exact absurd rfl (hn _ (List.mem_of_getElem? hj))
 ·rfl
theorem nE (law:KL P kt ok) (ht:eG P t kt et=true) (hm:MapS ok w m ents) {x v:Value} (hx:ok x) (hn:∀ e ∈ ents,e.1≠x) :
 ∃ w' o,(Instr.mapUpdate t (.map (some m)) x v).run P w=.ok () w'∧Put w w' m o∧MapS ok w' m (ents ++ [(x,v)]):=by
 obtain ⟨es,c,h1,h2,h3⟩:=hm;have hc:=law.check w false hx;have hu:=gK ht;have hgo:(getObj m).run P w=.ok (.map es c) w:=by simp [getObj,Sem.run,h1]
 rcases rJ (w:=w) law hx h2 (fun e he=>(h3 e he).1) with ⟨i,v',hi,hf⟩ | ⟨_,hf⟩
 ·exact absurd rfl (hn _ (List.mem_of_getElem? hi))
 ·have hso:(setObj m (.map (es.push { key:=x,val:=v,born:=c }) (c + 1))).run P w=.ok () (w.putObj m (.map (es.push { key:=x,val:=v,born:=c }) (c + 1))):=by
   simp [setObj,Sem.run,h1,World.putObj]
  have hp:=fK (o':=.map (es.push { key:=x,val:=v,born:=c }) (c + 1)) h1;refine ⟨_,_,?_,hp,⟨_,_,hp.this,by simp [h2],?_⟩⟩
  ·simp only [Instr.mapUpdate,Sem.run_bind,run_underlying hu,Result.andThen_ok,hgo,hc,hf,hso]
  ·intro e he;simp only [Array.toList_push,List.mem_append,List.mem_singleton] at he;rcases he with he | rfl
   ·exact ⟨(h3 e he).1,Nat.lt_succ_of_lt (h3 e he).2⟩
   ·exact ⟨hx,Nat.lt_succ_self _⟩
theorem HM (law:KL P kt ok) {ty:TypeId} (ht:eG P t kt et=true) (hm:MapS ok w m ents) {x:Value} (hx:ok x) :
 ∃ w' o,(Builtin.delete_ #[t,kt] ty #[.map (some m),x]).run P w=.ok (.tuple #[]) w'∧Put w w' m o∧((∃ i v,ents[i]? = some (x,v)∧MapS ok w' m (ents.eraseIdx i))∨((∀ e ∈ ents,e.1≠x)∧MapS ok w' m ents)):=by
 obtain ⟨es,c,h1,h2,h3⟩:=hm;have hc:=law.check w es.isEmpty hx;have hu:=gK ht;have hgo:(getObj m).run P w=.ok (.map es c) w:=by simp [getObj,Sem.run,h1]
 have hso:∀ e2,(setObj m (.map e2 c)).run P w=.ok () (w.putObj m (.map e2 c)):=fun e2=>by
  simp [setObj,Sem.run,h1,World.putObj]
 rcases rJ (w:=w) law hx h2 (fun e he=>(h3 e he).1) with ⟨i,v',hi,hf⟩ | ⟨hn,hf⟩
 ·have hp:=fK (o':=.map (es.eraseIdxIfInBounds i) c) h1;have hil:i < es.size:=by
   have:=(List.getElem?_eq_some_iff.1 hi).1;rw [← h2] at this
   simpa using this
  have hsub:(es.eraseIdxIfInBounds i).toList=es.toList.eraseIdx i:=by
   unfold Array.eraseIdxIfInBounds;rw [dif_pos hil];simp
  refine ⟨_,_,?_,hp, .inl ⟨i,v',hi,_,_,hp.this,?_,fun e he => ?_⟩⟩
  ·simp [Builtin.delete_,run_underlying hu,hgo,hc,hf,hso,Result.andThen]
  ·rw [hsub,← h2,lV]
  ·rw [hsub] at he;exact h3 e ((List.eraseIdx_sublist _ _).subset he)
 ·have hp:=fK (o':=.map es c) h1;refine ⟨_,_,?_,hp, .inr ⟨hn,_,_,hp.this,h2,h3⟩⟩;simp [Builtin.delete_,run_underlying hu,hgo,hc,hf,hso,Result.andThen]
structure ItS (k:Nat) (w:World) (it m:Nat) (ents:List (Value × Value)):Prop where
 out:∃ es clock,w.heap[m]? = some (.map es clock)∧es.toList.map (fun e=>(e.key,e.val))=ents∧(∀ e ∈ es.toList,e.born < clock)∧w.heap[it]? = some (.mapIter (some m) clock ((es.toList.map (·.born)).take k).toArray clock)
theorem ItS.at {k:Nat} {w w':World} {it m:Nat} {ents:List (Value × Value)} (h:ItS k w it m ents) (h1:∀ es c,w.heap[m]? = some (.map es c)→w'.heap[m]? = some (.map es c)) (h2:∀ a b c d,w.heap[it]? = some (.mapIter a b c d)→w'.heap[it]? = some (.mapIter a b c d)):ItS k w' it m ents:=by
 obtain ⟨es,c,g1,g2,g3,g4⟩:=h;exact ⟨es,c,h1 _ _ g1,g2,g3,h2 _ _ _ _ g4⟩
theorem ItS.ext {k:Nat} {w w':World} {it m:Nat} {ents:List (Value × Value)} (h:ItS k w it m ents) (hx:Ext w w'):ItS k w' it m ents:=h.at (fun _ _=>hx.at) (fun _ _ _ _=>hx.at)
theorem JS (ht:eG P t kt et=true) (hm:MapS ok w m ents):∃ w',(Instr.range t (.map (some m))).run P w=.ok (.pointer (some ⟨w.heap.size,0,none⟩)) w'∧Ext w w'∧w'.heap.size=w.heap.size + 1∧ItS 0 w' w.heap.size m ents:=by
 obtain ⟨es,c,h1,h2,h3⟩:=hm;have hlt:=(Array.getElem?_eq_some_iff.1 h1).1;exact ⟨_,run_range_map w t kt et m es c (gK ht) h1,Ext.alloc _ _,aX,es,c,by rw [Go.heap_alloc_old w _ hlt];exact h1,h2,fun e he=>(h3 e he).2,by rw [Go.heap_alloc_new];simp⟩
theorem xR {k:Nat} {it:Nat} {x v:Value} (h:ItS k w it m [(x,v)]):∃ e clock,e.key=x∧e.val=v∧e.born < clock∧w.heap[m]? = some (.map #[e] clock)∧w.heap[it]? = some (.mapIter (some m) clock ([e.born].take k).toArray clock):=by
 obtain ⟨es,c,h1,h2,h3,h4⟩:=h;obtain ⟨l,rfl⟩:∃ l:List MapEntry,es=l.toArray:=⟨es.toList,aX⟩
 match l,h2 with
 | [e],h2 =>
  simp at h2;exact ⟨e,c,h2.1,h2.2,h3 e aX,h1,by simpa using h4⟩
theorem BF {it:Nat} (h:ItS 0 w it m []) {ty:TypeId}:(Instr.next (.pointer (some ⟨it,0,none⟩)) false ty).run P w=.ok (.tuple #[.bool false]) w:=by
 obtain ⟨es,c,h1,h2,h3,h4⟩:=h;have:es=#[]:=by simpa using h2
 subst this;simp [Instr.next,getObj,Sem.run,h1,h4,Result.andThen,choose,Question.forced]
theorem EH {it:Nat} {x v:Value} (h:ItS 0 w it m [(x,v)]) (hne:m≠it) {ty:TypeId}:∃ w' o,(Instr.next (.pointer (some ⟨it,0,none⟩)) false ty).run P w=.ok (.tuple #[.bool true,x,v]) w'∧Put w w' it o∧ItS 1 w' it m [(x,v)]:=by
 obtain ⟨e,c,rfl,rfl,hb,h1,h4⟩:=xR h;have hp:=fK (o':=.mapIter (some m) c #[e.born] c) h4;have hlt:=(Array.getElem?_eq_some_iff.1 h4).1;refine ⟨_,_,?_,hp,#[e],c,by rw [hp.other m hne];exact h1,aX,by simpa using hb,by simpa using hp.this⟩;have hnb:¬ c≤e.born:=aC;have hso:(setObj it (.mapIter (some m) c #[e.born] c)).run P w=.ok () (w.putObj it (.mapIter (some m) c #[e.born] c)):=by
  simp [setObj,Sem.run,h4,World.putObj]
 have hgo:(getObj it).run P w=.ok (.mapIter (some m) c #[] c) w:=by simp [getObj,Sem.run,h4]
 have hgm:(getObj m).run P w=.ok (.map #[e] c) w:=by simp [getObj,Sem.run,h1]
 simp [Instr.next,hgo,hgm,hso,Sem.run_bind,Sem.run_pure,Result.andThen,choose,Sem.run,Question.forced,hb,hnb]
theorem EI {it:Nat} {x v:Value} (h:ItS 1 w it m [(x,v)]) {ty:TypeId}:(Instr.next (.pointer (some ⟨it,0,none⟩)) false ty).run P w=.ok (.tuple #[.bool false]) w:=by
 obtain ⟨e,c,rfl,rfl,hb,h1,h4⟩:=xR h;have hnb:¬ c≤e.born:=aC;simp [Instr.next,getObj,Sem.run,h1,h4,Result.andThen,choose,Question.forced,hb,hnb]
theorem BG {it:Nat} {x v:Value} (h:ItS 1 w it m [(x,v)]):(Instr.entry (.pointer (some ⟨it,0,none⟩))).run P w=.ok (.tuple #[x,v]) w:=by
 obtain ⟨e,c,rfl,rfl,hb,h1,h4⟩:=xR h;simp [Instr.entry,getObj,Sem.run,h1,h4,Result.andThen]
end
section
variable {P:Program} {ops:Array Oper} {Q:Exit→Act→World→Prop} {w:World} {rest:List Oper} {ts:List Value} {df:List Deferred} {ty:TypeId} {ps:String} {af:Array Edge} {g:Option (Nat × Bool)} {d:Nat} {ok:Value→Prop} {kt et t:TypeId} {m:Nat} {ents:List (Value × Value)}
theorem lS (hw:Region.wanted (Oper.mk (some d) (.makeMap t none) ty ps af g) (yielded ops ts.toArray)=true)
 (h:∀ w',Ext w w'→w'.heap.size=w.heap.size + 1→MapS ok w' w.heap.size []→wpList P ops Q rest (Act.mk (ts.set d (.map (some w.heap.size))).toArray df) w') :
 wpList P ops Q (Oper.mk (some d) (.makeMap t none) ty ps af g :: rest) (Act.mk ts.toArray df) w:=by
 refine mU hw (v:=.map (some w.heap.size)) (w':=w.alloc (.map #[] 0)) ?_ (h _ (Ext.alloc _ _) aX ⟨#[],0,Go.heap_alloc_new w _,rfl,aX⟩);simp [execOp,Instr.makeMap,newObj,Sem.run]
theorem qS {a x:Operand} {v:Value} (law:KL P kt ok) (ha:(Act.mk ts.toArray df).eval a=.map (some m)) (hx:(Act.mk ts.toArray df).eval x=v) (hok:ok v) (hm:MapS ok w m ents)
 (h:∀ w' o,Put w w' m o→((∃ i u,ents[i]? = some (v,u)∧MapS ok w' m (ents.eraseIdx i))∨((∀ e ∈ ents,e.1≠v)∧MapS ok w' m ents))→wpList P ops Q rest (Act.mk ts.toArray df) w')
 (ht:eG P t kt et=true:=by decide +kernel) (hw:Region.wanted (Oper.mk none (.call ⟨.builtin .delete,#[a,x],#[t,kt]⟩) ty ps af g) (yielded ops ts.toArray)=true:=by rfl) :
 wpList P ops Q (Oper.mk none (.call ⟨.builtin .delete,#[a,x],#[t,kt]⟩) ty ps af g :: rest) (Act.mk ts.toArray df) w:=by
 obtain ⟨w',o,hr,hp,hc⟩:=HM law (ty:=ty) ht hm hok;unfold wpList;rw [if_pos hw];refine .inl ?_;unfold Oper.wp;have e:(execOp (Act.mk ts.toArray df).eval (Oper.mk none (.call ⟨.builtin .delete,#[a,x],#[t,kt]⟩) ty ps af g)).run P w=.ok (.value (.tuple #[])) w':=by
  simp [execOp,resolve,invoke,builtin,ha,hx,hr]
 rw [e]
 simpa [Oper.upon,Act.put] using h w' o hp hc
theorem pI {x:Operand} (hx:(Act.mk ts.toArray df).eval x=.map (some m)) (hm:MapS ok w m ents)
 (h:∀ w',Ext w w'→w'.heap.size=w.heap.size + 1→ItS 0 w' w.heap.size m ents→wpList P ops Q rest (Act.mk (ts.set d (.pointer (some ⟨w.heap.size,0,none⟩))).toArray df) w')
 (ht:eG P t kt et=true:=by decide +kernel) (hw:Region.wanted (Oper.mk (some d) (.range t x) ty ps af g) (yielded ops ts.toArray)=true:=by rfl) :
 wpList P ops Q (Oper.mk (some d) (.range t x) ty ps af g :: rest) (Act.mk ts.toArray df) w:=by
 obtain ⟨w',hr,h1,h2,h3⟩:=JS ht hm;refine mU hw (v:=.pointer (some ⟨w.heap.size,0,none⟩)) (w':=w') ?_ (h w' h1 h2 h3);simp [execOp,hx,hr]
theorem DD {x:Operand} {it:Nat} {k v:Value} (hx:(Act.mk ts.toArray df).eval x=.pointer (some ⟨it,0,none⟩)) (hi:ItS 0 w it m [(k,v)]) (hne:m≠it)
 (h:∀ w' o,Put w w' it o→ItS 1 w' it m [(k,v)]→wpList P ops Q rest (Act.mk (ts.set d (.tuple #[.bool true,k,v])).toArray df) w')
 (hw:Region.wanted (Oper.mk (some d) (.next x false) ty ps af g) (yielded ops ts.toArray)=true:=by rfl) :
 wpList P ops Q (Oper.mk (some d) (.next x false) ty ps af g :: rest) (Act.mk ts.toArray df) w:=by
 obtain ⟨w',o,hr,h1,h2⟩:=EH (P:=P) hi hne (ty:=ty);refine mU hw (w':=w') ?_ (h w' o h1 h2);simp [execOp,hx,hr]
theorem Runs.next0 {o:Option Nat} {x:Operand} {it:Nat} (hx:(Act.mk ts.toArray df).eval x=.pointer (some ⟨it,0,none⟩)) (hi:ItS 0 w it m []):Runs P (Oper.mk o (.next x false) ty ps af g) (Act.mk ts.toArray df) w (.tuple #[.bool false]):=by
 constructor;simp [execOp,hx,BF hi]
theorem Runs.next2 {o:Option Nat} {x:Operand} {it:Nat} {k v:Value} (hx:(Act.mk ts.toArray df).eval x=.pointer (some ⟨it,0,none⟩)) (hi:ItS 1 w it m [(k,v)]):Runs P (Oper.mk o (.next x false) ty ps af g) (Act.mk ts.toArray df) w (.tuple #[.bool false]):=by
 constructor;simp [execOp,hx,EI hi]
theorem Runs.entry1 {o:Option Nat} {x:Operand} {it:Nat} {k v:Value} (hx:(Act.mk ts.toArray df).eval x=.pointer (some ⟨it,0,none⟩)) (hi:ItS 1 w it m [(k,v)]):Runs P (Oper.mk o (.entry x) ty ps af g) (Act.mk ts.toArray df) w (.tuple #[k,v]):=by
 constructor;simp [execOp,hx,BG hi]
theorem Runs.lenM {o:Option Nat} {x:Operand} (hx:(Act.mk ts.toArray df).eval x=.map (some m)) (hm:MapS ok w m ents) (ht:eG P t kt et=true):Runs P (Oper.mk o (.call ⟨.builtin .len,#[x],#[t]⟩) ty ps af g) (Act.mk ts.toArray df) w (.int .i64 (ents.length:Nat)):=by
 obtain ⟨es,c,h1,h2,h3⟩:=hm;have hgo:(getObj m).run P w=.ok (.map es c) w:=by simp [getObj,Sem.run,h1]
 have hl:ents.length=es.size:=by rw [← h2];simp
 constructor;simp [execOp,resolve,invoke,builtin,hx,Builtin.len_,run_underlying (gK ht),hgo,goInt,hl]
end
structure Kf (T:List TypeId) (M:List Nat) (w w':World):Prop where
 cells:∀ (c:Nat) (cs:Array Value) (t:TypeId) (fz:Nat × Nat),w.heap[c]? = some (.cells cs t fz)→t ∉ T→w'.heap[c]? = some (.cells cs t fz)
 maps:∀ (c:Nat) (es:Array MapEntry) (k:Nat),w.heap[c]? = some (.map es k)→c ∉ M→w'.heap[c]? = some (.map es k)
theorem Kf.of {T:List TypeId} {M:List Nat} {w w':World} (h:Ext w w'):Kf T M w w':=⟨fun _ _ _ _ a _=>h.at a,fun _ _ _ a _=>h.at a⟩
theorem Kf.trans {T:List TypeId} {M:List Nat} {a b c:World} (h:Kf T M a b) (k:Kf T M b c):Kf T M a c :=
 ⟨fun i cs t fz x y=>k.cells i cs t fz (h.cells i cs t fz x y) y,fun i es n x y=>k.maps i es n (h.maps i es n x y) y⟩
theorem Kf.mono {T T':List TypeId} {M M':List Nat} {w w':World} (h:Kf T M w w') (h1:∀ t ∈ T,t ∈ T') (h2:∀ m ∈ M,m ∈ M'):Kf T' M' w w' :=
 ⟨fun i cs t fz x y=>h.cells i cs t fz x (fun z=>y (h1 _ z)),fun i es n x y=>h.maps i es n x (fun z=>y (h2 _ z))⟩
theorem Kf.keep {T:List TypeId} {M:List Nat} {w w':World} (h:Kf T M w w'):Keep T w w':=h.cells
theorem Kf.put {T:List TypeId} {M:List Nat} {w w':World} {b t:Nat} {cs:Array Value} {fz:Nat × Nat} {o:Obj} (hp:Put w w' b o) (hb:w.heap[b]? = some (.cells cs t fz)) (ht:t ∈ T):Kf T M w w':=by
 refine ⟨fun i ds u fy x y=>hp.mv.at x ?_,fun i es n x _=>hp.mv.at x ?_⟩
 ·rintro ⟨⟩;rw [hb] at x;cases x
  exact y ht
 ·rintro ⟨⟩;rw [hb] at x;cases x
theorem Kf.putMap {T:List TypeId} {M:List Nat} {w w':World} {m:Nat} {o:Obj} {ok:Value→Prop} {ents:List (Value × Value)} (hp:Put w w' m o) (hb:MapS ok w m ents) (hm:m ∈ M):Kf T M w w':=by
 obtain ⟨es0,c0,h1,_⟩:=hb;refine ⟨fun i ds u fy x y=>hp.mv.at x ?_,fun i es n x y=>hp.mv.at x ?_⟩
 ·rintro ⟨⟩;rw [h1] at x;cases x
 ·rintro ⟨⟩;exact y hm
theorem Kf.row {T:List TypeId} {M:List Nat} {w w':World} {B k e:Nat} {v:Value} {es:List (List Value)} (ho:Own B k e w v es) (h:Mv v.ownBlock w w') (he:e ∈ T):Kf T M w w':=by
 refine ⟨fun i cs t fz x y=>h.at x fun e' => ?_,fun i ms n x _=>h.at x fun e' => ?_⟩
 ·obtain ⟨cur,fz',h'⟩:=ho.type e'.symm;rw [x] at h';cases h'
  exact y he
 ·obtain ⟨cur,fz',h'⟩:=ho.type e'.symm;rw [x] at h';cases h'
theorem MapS.keep {T:List TypeId} {M:List Nat} {ok:Value→Prop} {w w':World} {m:Nat} {ents:List (Value × Value)} (h:MapS ok w m ents) (hk:Kf T M w w') (hm:m ∉ M):MapS ok w' m ents:=h.at fun es c x=>hk.maps m es c x hm
structure Lo (B:Nat) (w w':World):Prop where
 os:w'.os=w.os
 tape:w'.tape=w.tape
 output:w'.output=w.output
 size:w.heap.size≤w'.heap.size
 block:∀ j,j < w.heap.size→j < B→w'.heap[j]? = w.heap[j]?
 drawn:w.drawn≤w'.drawn
theorem Lo.of {B:Nat} {w w':World} (h:Ext w w'):Lo B w w':=⟨h.os,h.tape,h.output,h.size,fun j hj _=>h.block j hj,h.drawn⟩
theorem Lo.trans {B:Nat} {a b c:World} (h:Lo B a b) (k:Lo B b c):Lo B a c :=
 ⟨k.os.trans h.os,k.tape.trans h.tape,k.output.trans h.output,Nat.le_trans h.size k.size,fun j hj hb=>(k.block j (Nat.lt_of_lt_of_le hj h.size) hb).trans (h.block j hj hb),Nat.le_trans h.drawn k.drawn⟩
theorem Lo.mv {B:Nat} {w w':World} {row:Option Nat} (h:Mv row w w') (hr:∀ k,row=some k→B≤k):Lo B w w' :=
 ⟨h.os,h.tape,h.output,h.size,fun j hj hb=>h.block j hj (by intro e;have:=hr j e.symm;omega),h.drawn⟩
theorem Lo.put {B b:Nat} {w w':World} {o:Obj} (h:Put w w' b o) (hb:B≤b):Lo B w w':=Lo.mv h.mv (by rintro k ⟨⟩;exact hb)
theorem Lo.ext {B:Nat} {w0 w w':World} (h:Lo B w w') (hx:Ext w0 w) (hB:w0.heap.size≤B):Ext w0 w' :=
 ⟨h.os.trans hx.os,h.tape.trans hx.tape,h.output.trans hx.output,Nat.le_trans hx.size h.size,fun j hj=>(h.block j (Nat.lt_of_lt_of_le hj hx.size) aC).trans (hx.block j hj),Nat.le_trans hx.drawn h.drawn⟩
theorem Lo.mono {B C:Nat} {w w':World} (h:Lo B w w') (hc:C≤B):Lo C w w':=⟨h.os,h.tape,h.output,h.size,fun j hj hb=>h.block j hj aC,h.drawn⟩
variable {cs:Array Value} {held:Bool} {qt:Int} {ps rs:List (List UInt8 × Nat)} {ls:List (List UInt8)} {css css0 es:List (List Value)} {d l m n o qn s t x y z:List UInt8} {B a b base c e fuel i j k p q:Nat} {fz:Nat × Nat} {row:Option Nat} {r u v:Value} {w w' w0 w1 w2:World}
def AppU (B:Nat) (o:List UInt8) (l:List RSet) (d:DeltaR) (q:Value) (w:World):Prop:=∃ y,q=.tuple #[.agg #[aE (HG o l d),y], .int .i64 (sT o l d)]∧SetsO B w y (JO o l d)
theorem AppU.bad {l:List RSet} {d:DeltaR} {e:Int} (h:sT o l d=e) (he:e≠0):AppU B o l d (.tuple #[.agg iP.toArray, .int .i64 e]) w:=by
 refine ⟨.slice none 0 0,?_,?_⟩
 ·rw [HG,if_neg (by rw [h];exact he),h];rfl
 ·rw [JO,if_neg (by rw [h];exact he)];exact SetsO.nil _ _
def AA (r:Rec):Bool:=decide (r.kind=6)
def gV (d:List UInt8):SoaR:=match dK d with | some s=>s | none=>zR
def QV (r:Rec):Int:=(gV r.data).serial
def xS:List Rec→Nat
 | []=>0
 | r :: t=>if AA r then 0 else xS t + 1
theorem AB:∀ l:List Rec,xS l≤l.length
 | []=>Nat.le_refl _
 | r :: t=>by
   rw [xS];split
   ·omega
   ·have:=AB t;rw [List.length_cons];omega
def bX (l:List Rec):Nat:=1 + xS (l.drop 1)
theorem oH {l:List Rec} (h:l≠[]):1≤bX l∧bX l≤l.length:=by
 have:=AB (l.drop 1);cases l with
 | nil=>exact absurd rfl h
 | cons r t =>
  unfold bX;simp only [List.drop_succ_cons,List.drop_zero,List.length_cons] at *;omega
def EJ:Rec:=⟨[],0,0,[]⟩
def vF (l:List Rec):Rec:=l.headD EJ
def mJ (gone come:List Rec):DeltaR:=⟨QV (vF gone),QV (vF come),gone,come⟩
structure ZE where
 e:Int
 o:List UInt8
 l:List RSet
def ZE.bad (e:Int):ZE:=⟨e,[],[]⟩
def UM:Nat→List UInt8→List RSet→List Rec→ZE
 | 0,o,l,_=>⟨0,o,l⟩
 | f + 1,o,l,rs =>
  if rs=[] then ⟨0,o,l⟩ else
  let gone:=rs.take (bX rs)
  let rest:=rs.drop (bX rs)
  if rest=[] then ZE.bad 2 else
  let come:=rest.take (bX rest)
  if sT o l (mJ gone come)=0 then UM f (HG o l (mJ gone come)) (JO o l (mJ gone come)) (rest.drop (bX rest))
  else ZE.bad (if sT o l (mJ gone come)=5 then 2 else sT o l (mJ gone come))
def BH (o:List UInt8) (l:List RSet) (rs:List Rec):ZE:=UM rs.length o l rs
theorem AC (f:Nat) (o:List UInt8) (l:List RSet) {rs:List Rec} (h:rs≠[]):UM (f + 1) o l rs =
 if rs.drop (bX rs)=[] then ZE.bad 2 else
 if sT o l (mJ (rs.take (bX rs)) ((rs.drop (bX rs)).take (bX (rs.drop (bX rs)))))=0 then
  UM f (HG o l (mJ (rs.take (bX rs)) ((rs.drop (bX rs)).take (bX (rs.drop (bX rs)))))) (JO o l (mJ (rs.take (bX rs)) ((rs.drop (bX rs)).take (bX (rs.drop (bX rs)))))) ((rs.drop (bX rs)).drop (bX (rs.drop (bX rs))))
 else ZE.bad (if sT o l (mJ (rs.take (bX rs)) ((rs.drop (bX rs)).take (bX (rs.drop (bX rs)))))=5 then 2 else sT o l (mJ (rs.take (bX rs)) ((rs.drop (bX rs)).take (bX (rs.drop (bX rs)))))):=by
 rw [UM,if_neg h]
theorem LF:∀ (f:Nat) (o:List UInt8) (l:List RSet),UM f o l []=⟨0,o,l⟩
 | 0,o,l=>rfl
 | f + 1,o,l=>by rw [UM,if_pos rfl]
theorem HN:∀ (n f g:Nat) (o:List UInt8) (l:List RSet) (rs:List Rec),rs.length≤n→rs.length≤f→rs.length≤g→UM f o l rs=UM g o l rs
 | n,f,g,o,l,[],_,_,_=>by rw [LF,LF]
 | 0,f,g,o,l,r :: t,h,_,_=>by simp at h
 | n + 1,0,g,o,l,r :: t,_,h,_=>by simp at h
 | n + 1,f + 1,0,o,l,r :: t,_,_,h=>by simp at h
 | n + 1,f + 1,g + 1,o,l,r :: t,hn,hf,hg=>by
   have h1:=oH (l:=r :: t) aX;rw [AC f o l aX,AC g o l aX];by_cases hr:(r :: t).drop (bX (r :: t))=[]
   ·rw [if_pos hr,if_pos hr]
   ·rw [if_neg hr,if_neg hr];have h2:=oH hr;have h3:(((r :: t).drop (bX (r :: t))).drop (bX ((r :: t).drop (bX (r :: t))))).length≤t.length:=by
     have e1:((r :: t).drop (bX (r :: t))).length=(r :: t).length - bX (r :: t):=List.length_drop ..;rw [List.length_drop,e1];simp only [List.length_cons] at h1 ⊢;omega
    simp only [List.length_cons] at hn hf hg;rw [HN n f g _ _ _ aC aC aC]
theorem QW (o:List UInt8) (l:List RSet):BH o l []=⟨0,o,l⟩:=rfl
theorem NJ (o:List UInt8) (l:List RSet) {rs:List Rec} (h:rs≠[]):BH o l rs =
 if rs.drop (bX rs)=[] then ZE.bad 2 else
 if sT o l (mJ (rs.take (bX rs)) ((rs.drop (bX rs)).take (bX (rs.drop (bX rs)))))=0 then
  BH (HG o l (mJ (rs.take (bX rs)) ((rs.drop (bX rs)).take (bX (rs.drop (bX rs)))))) (JO o l (mJ (rs.take (bX rs)) ((rs.drop (bX rs)).take (bX (rs.drop (bX rs)))))) ((rs.drop (bX rs)).drop (bX (rs.drop (bX rs))))
 else ZE.bad (if sT o l (mJ (rs.take (bX rs)) ((rs.drop (bX rs)).take (bX (rs.drop (bX rs)))))=5 then 2 else sT o l (mJ (rs.take (bX rs)) ((rs.drop (bX rs)).take (bX (rs.drop (bX rs)))))):=by
 cases rs with
 | nil=>exact absurd rfl h
 | cons r t =>
  have h1:=oH (l:=r :: t) aX
  conv=>lhs;unfold BH
  rw [List.length_cons,AC _ _ _ h];by_cases hr:(r :: t).drop (bX (r :: t))=[]
  ·rw [if_pos hr,if_pos hr]
  ·rw [if_neg hr,if_neg hr];have h2:=oH hr;have h3:(((r :: t).drop (bX (r :: t))).drop (bX ((r :: t).drop (bX (r :: t))))).length≤t.length:=by
    have e1:((r :: t).drop (bX (r :: t))).length=(r :: t).length - bX (r :: t):=List.length_drop ..;rw [List.length_drop,e1];simp only [List.length_cons] at h1 ⊢;omega
   unfold BH;rw [HN _ _ _ _ _ _ (Nat.le_refl _) h3 (Nat.le_refl _)]
def wU (oo:List UInt8) (lo:List RSet) (og:List UInt8) (l:List Rec):ZE :=
 if AA (l.getD 1 EJ)=false then ⟨jJ og l.dropLast,fZ og l.dropLast,pR og l.dropLast⟩ else
 if lo=[] then ZE.bad 5 else BH oo lo (l.dropLast.drop 1)
def wV (oo:List UInt8) (lo:List RSet) (og:List UInt8) (l:List Rec):ZE :=
 if eX og≠0∨l.any (fun r => !decide (bF r=0))=true then ZE.bad 1 else
 if l=[] then ZE.bad 2 else
 if AA (vF l)=false∨fold (vF l).name≠fold og then ZE.bad 2 else
 if l.length=1 then ZE.bad 5 else
 if l.length=2∨l.getD (l.length - 1) EJ≠vF l then ZE.bad 3 else
 let q:=wU oo lo og l
 if q.e≠0 then ZE.bad q.e else
 if (fN q.o q.l).serial≠QV (vF l) then ZE.bad 2 else
 if lo≠[]∧sU (fN q.o q.l).serial (fN oo lo).serial=false then ZE.bad 7 else q
theorem DE {l:List Rec} (h:jJ o l=0):ZoneOk (fZ o l) (pR o l):=by
 have h0:=h;unfold jJ at h;split at h
 ·rw [fZ,if_pos h0,pR,if_pos h0];exact lQ h
 ·rename_i q;exact absurd h q
theorem AD {l:List Rec} (h:jJ o l=0):fZ o l=fold o:=by rw [fZ,if_pos h]
theorem QX {l:List RSet} {d:DeltaR} (h:sT o l d=0):ZoneOk (HG o l d) (JO o l d)∧HG o l d=o:=by
 have h0:=h;unfold sT at h;split at h
 ·rename_i q0;split at h
  ·cases hx:LD (bC l) d with
   | none=>rw [hx] at h;cases h
   | some m =>
    rw [hx] at h;simp only at h;unfold Bu at h;split at h
    ·rename_i q1;have hz:=DE q1;rw [HG,if_pos h0,JO,if_pos h0,hx];simp only [Option.getD_some];refine ⟨hz,?_⟩;rw [AD q1];exact (lQ q0).fold
    ·rename_i q1;exact absurd h q1
  ·cases h
 ·rename_i q;exact absurd h q
theorem HO:∀ (n:Nat) (rs:List Rec),rs.length≤n→∀ (o:List UInt8) (l:List RSet),(BH o l rs).e=0→rs≠[]→ZoneOk (BH o l rs).o (BH o l rs).l∧(BH o l rs).o=o
 | 0,rs,hn,o,l,h,hne=>by
   have:rs=[]:=List.eq_nil_of_length_eq_zero aC;exact absurd this hne
 | n + 1,rs,hn,o,l,h,hne=>by
   have h1:=oH hne;rw [NJ o l hne] at h ⊢;split at h
   ·cases h
   ·rename_i hr;have h2:=oH hr;rw [if_neg hr];split at h
    ·rename_i ha;rw [if_pos ha];obtain ⟨z1,z2⟩:=QX ha;by_cases hq:(rs.drop (bX rs)).drop (bX (rs.drop (bX rs)))=[]
     ·rw [hq,QW];exact ⟨z1,z2⟩
     ·obtain ⟨a,b⟩:=HO n _ (by simp only [List.length_drop] at *;omega) _ _ h hq;exact ⟨a,b.trans z2⟩
    ·rename_i ha;split at h
     ·cases h
     ·exact absurd h ha
theorem UN {oo:List UInt8} {lo:List RSet} {og:List UInt8} {l:List Rec} (h:(wV oo lo og l).e=0) :
 ZoneOk (wV oo lo og l).o (wV oo lo og l).l∧((lo=[]∨oo=fold og)→(wV oo lo og l).o=fold og)∧(lo≠[]→sU (fN (wV oo lo og l).o (wV oo lo og l).l).serial (fN oo lo).serial=true):=by
 unfold wV at h ⊢;split at h
 ·cases h
 ·rename_i c1;rw [if_neg c1];split at h
  ·cases h
  ·rename_i c2;rw [if_neg c2];split at h
   ·cases h
   ·rename_i c3;rw [if_neg c3];split at h
    ·cases h
    ·rename_i c4;rw [if_neg c4];split at h
     ·cases h
     ·rename_i c5;rw [if_neg c5];simp only at h ⊢;split at h
      ·rename_i c6;exact absurd h c6
      ·rename_i c6;rw [if_neg c6];split at h
       ·cases h
       ·rename_i c7;rw [if_neg c7];split at h
        ·cases h
        ·rename_i c8;rw [if_neg c8];have hz:ZoneOk (wU oo lo og l).o (wU oo lo og l).l∧((lo=[]∨oo=fold og)→(wU oo lo og l).o=fold og):=by
          have h6:(wU oo lo og l).e=0:=by simpa using c6
          unfold wU at h6 ⊢;split at h6
          ·rename_i d1;rw [if_pos d1];exact ⟨DE h6,fun _=>AD h6⟩
          ·rename_i d1;rw [if_neg d1];split at h6
           ·cases h6
           ·rename_i d2;rw [if_neg d2];have hl:2 < l.length:=by
             have n0:l.length≠0:=fun e=>c2 (List.eq_nil_of_length_eq_zero e);have n2:l.length≠2:=fun e=>c5 (.inl e);omega
            obtain ⟨a,b⟩:=HO _ _ (Nat.le_refl _) oo lo h6 (by
             intro e;have:=congrArg List.length e;simp at this;omega)
            exact ⟨a,fun hh=>by rcases hh with hh | hh;exact absurd hh d2;exact b.trans hh⟩
         refine ⟨hz.1,hz.2,fun hne => ?_⟩;cases hb:sU (fN (wU oo lo og l).o (wU oo lo og l).l).serial (fN oo lo).serial with
         | true=>rfl
         | false=>exact absurd ⟨hne,hb⟩ c8
end Go.Proofs.X
namespace Go.Proofs.X
open Go.RowKit
structure SecR where
 og:List UInt8
 retry:Int
 z:Option (List UInt8 × List RSet)
 next:Int
 til:Int
 take:Bool
def SecR.soa (s:SecR):SoaR:=match s.z with | none=>⟨[],[],0,s.retry,s.retry,0,0⟩ | some z=>fN z.1 z.2
def SecR.o (s:SecR):List UInt8:=match s.z with | none=>[] | some z=>z.1
def SecR.l (s:SecR):List RSet:=match s.z with | none=>[] | some z=>z.2
def EK (n:Int):Bool:=decide (0≤n) && decide (n≤1099511627776)
def SecR.news (s:SecR) (n:Int):Bool:=s.z.isNone || sU n s.soa.serial
def SecR.failed (s:SecR) (now:Int):SecR:=if EK now=true then { s with take:=false,next:=now + s.soa.retry } else s
def SecR.fresh (s:SecR) (now:Int):SecR:={ s with take:=false,next:=now + s.soa.refresh,til:=now + s.soa.expire }
def SecR.heard (s:SecR) (n now:Int):SecR :=
 if EK now=false then s else if QK n=false then s.failed now else if s.news n=true then { s with take:=true,next:=now + s.soa.retry } else s.fresh now
def SecR.inst (s:SecR) (l:List Rec):ZE:=wV s.o s.l s.og l
def SecR.withZ (s:SecR) (q:ZE):SecR:={ s with z:=some (q.o,q.l) }
def SecR.got (s:SecR) (l:List Rec) (now:Int):SecR :=
 if EK now=false then s else
 if (s.inst l).e=5∧s.z.isSome=true then s.fresh now else
 if (s.inst l).e≠0 then s.failed now else (s.withZ (s.inst l)).fresh now
def SecR.up (s:SecR) (now:Int):Bool:=EK now && (s.z.isSome && decide (now < s.til))
def By (og:List UInt8) (retry:Int):Int:=if eX og≠0∨retry < 1∨2147483647 < retry then 1 else 0
def EL (og:List UInt8) (retry:Int):SecR:=⟨og,retry,none,0,0,false⟩
structure SecOk (s:SecR):Prop where
 og:eX s.og=0
 retry:1≤s.retry∧s.retry≤2147483647
 zone:∀ o l,s.z=some (o,l)→ZoneOk o l∧o=fold s.og
theorem UO {o:List UInt8} {l:List RSet} (h:ZoneOk o l):(fN o l).ok=true:=by
 obtain ⟨s,_,_,_,_,_,hp,_⟩:=h.soaSet;rw [fN,if_pos (qJ h)];exact QF hp
theorem NK {o:List UInt8} {l:List RSet} (h:ZoneOk o l):0≤(fN o l).serial∧(fN o l).serial≤4294967295∧0≤(fN o l).refresh∧(fN o l).refresh≤2147483647∧0≤(fN o l).retry∧(fN o l).retry≤2147483647∧0≤(fN o l).expire∧(fN o l).expire≤2147483647:=by
 have:=UO h;simp only [SoaR.ok,lH,Bool.and_eq_true,decide_eq_true_eq] at this;omega
theorem ZoneOk.ne {o:List UInt8} {l:List RSet} (h:ZoneOk o l):l≠[]:=by
 rintro rfl;have:=h.soa;simp [cI] at this
theorem SecOk.soa {s:SecR} (h:SecOk s):0≤s.soa.refresh∧s.soa.refresh≤2147483647∧0≤s.soa.retry∧s.soa.retry≤2147483647∧0≤s.soa.expire∧s.soa.expire≤2147483647:=by
 have hr:=h.retry;unfold SecR.soa;split
 ·simp only;omega
 ·rename_i z hz;have:=NK (h.zone z.1 z.2 hz).1;omega
theorem SecOk.old {s:SecR} (h:SecOk s):(s.l=[]↔s.z=none)∧(s.l=[]∨s.o=fold s.og):=by
 unfold SecR.l SecR.o;split
 ·rename_i hz;simp [hz]
 ·rename_i z hz;have:=h.zone z.1 z.2 hz;refine ⟨⟨fun e=>absurd e this.1.ne,fun e=>by rw [hz] at e;cases e⟩, .inr this.2⟩
theorem SecOk.of {s t:SecR} (h:SecOk s) (h1:t.og=s.og) (h2:t.retry=s.retry) (h3:t.z=s.z):SecOk t:=⟨by rw [h1];exact h.og,by rw [h2];exact h.retry,by rw [h1,h3];exact h.zone⟩
theorem SecOk.new {og:List UInt8} {retry:Int} (h:By og retry=0):SecOk (EL og retry):=by
 unfold By at h;split at h
 ·cases h
 ·rename_i c;refine ⟨?_,?_,?_⟩
  ·unfold EL;simp only;exact Decidable.byContradiction fun e=>c (.inl e)
  ·unfold EL;simp only;omega
  ·intro o l e;cases e
theorem SecOk.failed {s:SecR} (h:SecOk s) (now:Int):SecOk (s.failed now):=by
 unfold SecR.failed;split <;> first | exact h | exact h.of rfl rfl rfl
theorem SecOk.fresh {s:SecR} (h:SecOk s) (now:Int):SecOk (s.fresh now):=h.of rfl rfl rfl
theorem SecOk.heard {s:SecR} (h:SecOk s) (n now:Int):SecOk (s.heard n now):=by
 unfold SecR.heard;split
 ·exact h
 ·split
  ·exact h.failed now
  ·split
   ·exact h.of rfl rfl rfl
   ·exact h.fresh now
theorem SecOk.inst {s:SecR} (h:SecOk s) {l:List Rec} (he:(s.inst l).e=0):ZoneOk (s.inst l).o (s.inst l).l∧(s.inst l).o=fold s.og∧(∀ o l',s.z=some (o,l')→sU (fN (s.inst l).o (s.inst l).l).serial (fN o l').serial=true):=by
 obtain ⟨a,b,c⟩:=UN (oo:=s.o) (lo:=s.l) (og:=s.og) he;obtain ⟨h1,h2⟩:=h.old;refine ⟨a,b h2,fun o l' hz => ?_⟩;have:=c (fun e=>by rw [h1.1 e] at hz;cases hz);unfold SecR.o SecR.l at this;rw [hz] at this;unfold SecR.inst SecR.o SecR.l;rw [hz];exact this
theorem SecOk.got {s:SecR} (h:SecOk s) (l:List Rec) (now:Int):SecOk (s.got l now):=by
 unfold SecR.got;split
 ·exact h
 ·split
  ·exact h.fresh now
  ·split
   ·exact h.failed now
   ·rename_i c;obtain ⟨a,b,_⟩:=h.inst (l:=l) (by simpa using c);refine SecOk.fresh (s:=s.withZ (s.inst l)) ⟨h.og,h.retry,?_⟩ now;intro o l' e;simp only [SecR.withZ,Option.some.injEq,Prod.mk.injEq] at e;obtain ⟨rfl,rfl⟩:=e;exact ⟨a,b⟩
variable {cs:Array Value} {held:Bool} {qt:Int} {ps rs:List (List UInt8 × Nat)} {ls:List (List UInt8)} {css css0 es:List (List Value)} {d l m n o qn s t x y z:List UInt8} {B a b base c e fuel i j k p q:Nat} {fz:Nat × Nat} {row:Option Nat} {r u v:Value} {w w' w0 w1 w2:World}
theorem SetsO.mvb {l:List RSet} (h:SetsO B w v l) (hm:Mv (some b) w w') (hb:b < B):SetsO B w' v l:=by
 obtain ⟨css,h1,h2,h3,h4⟩:=h;have hs:∀ (k:Nat) (u:Value) (es:List (List Value)),Sl k w u es→From B u→Sl k w' u es:=by
  intro k u es hsl hf;obtain ⟨a,cap,k1,k2,k3,k4,k5,k6⟩:=hsl;refine ⟨a,cap,k1,k2,k3,k4,k5,fun hn => ?_⟩;obtain ⟨g,o,e,hc⟩:=k6 hn;have hg:B≤g:=hf g o none _ _ (by rw [k1,e]);refine ⟨g,o,e,fun i e j x i1 i2 => ?_⟩;have hcell:=hc i e j x i1 i2;have hlt:=World.block_lt_of_cell? w _ hcell;exact (World.cell?_of_block (hm.block g hlt (fun e=>by have:=Option.some.inj e;omega))).trans hcell
 refine ⟨css,hs _ _ _ h1 h2,h2,⟨h3.len,fun i s hi => ?_⟩,h4⟩;obtain ⟨x,e,hx⟩:=h3.at' i s hi;exact ⟨x,e,hs _ _ _ hx (h4 _ (List.mem_of_getElem? e) x aX)⟩
def Dx:List UInt8:=[2,110,115,1,97,0,1,109,0,0,0,0,5,0,0,0,10,0,0,0,3,0,0,0,100,0,0,0,4]
def Bz:List RSet:=[⟨[1,97],2,9,[[2,110,115,1,97,0]]⟩,⟨[1,97],6,9,[Dx]⟩,⟨[2,110,115,1,97],1,9,[[49,49,49,49]]⟩]
section
variable {P:Program} {w:World} {ts:List Value} {df:List Deferred} {d:Option Nat} {ty:TypeId} {ps:String} {af:Array Edge} {g:Option (Nat × Bool)}
end
section
variable {P:Program} {ops:Array Oper} {Q:Exit→Act→World→Prop} {w:World} {rest:List Oper} {ts:List Value} {df:List Deferred} {ty:TypeId} {ps:String} {af:Array Edge} {g:Option (Nat × Bool)}
theorem Own.slf (h:Own B k e w v es):v=.slice none 0 0∧es=[]∨∃ g cap,v=.slice (some ⟨g,0,none⟩) es.length cap:=by
 rcases h.row.2 with ⟨h0,h1⟩ | ⟨g',cap',cur,fz,hv,_⟩
 ·exact .inl ⟨h0,List.eq_nil_of_length_eq_zero h1⟩
 ·exact .inr ⟨g',cap',hv⟩
end
def XA (d:List UInt8):Int:=if (dK d).isSome then 0 else 2
theorem HP (d:List UInt8) (w:World) (hl:d.length≤4611686018427387904):Calls Tryz.prog 135 #[aE d] w (aY w (.tuple #[.agg (gV d).cells.toArray, .int .i64 (XA d)])):=by
 have h:=Dt d w hl;unfold gV XA;cases hp:dK d <;> (rw [hp] at h;exact h)
section
variable {α:Type} {os:List α} {q:Nat} {x:α}
end
def Dj (x:Option Rec) (os:List Rec):Nat:=os.length + (match x with | some _=>1 | none=>0)
structure Sx (x:Option Rec) (os:List Rec) (q:Nat):Prop where
 non:∀ r ∈ os,AA r=false
 is:∀ r,x=some r→AA r=true∧q≤os.length
 no:x=none→os.length≤q
theorem Sx.to {x:Option Rec} {os:List Rec} {q':Nat} (h:Sx x os q) (hq:q < Dj x os) (hq':q' < Dj x os):Sx x os q':=by
 cases x with
 | none=>have:=h.no rfl;simp [Dj] at hq;omega
 | some r=>exact ⟨h.non,fun r' e=>⟨(h.is r' e).1,by simp [Dj] at hq';omega⟩,fun e=>by cases e⟩
section
variable {P:Program} {w w':World} {d:Option Nat} {ty:TypeId} {ps:String} {af:Array Edge} {g:Option (Nat × Bool)}
end
section
variable {P:Program} {w w':World} {d:Option Nat} {ty:TypeId} {ps:String} {af:Array Edge} {g:Option (Nat × Bool)}
end
section
variable {P:Program} {ops:Array Oper} {rest:List Oper} {ts:List Value} {df:List Deferred} {ty:TypeId} {ps:String} {af:Array Edge} {g:Option (Nat × Bool)} {tys:Array TypeId}
end
def XB (f:FuncId) (l:List Rec) (p:Rec→Bool):Prop:=∀ r ∈ l,∀ w',Calls Tryz.prog f #[.agg #[aE r.name, .int .i64 r.kind, .int .i64 r.ttl,aE r.data]] w' (aY w' (.bool (p r)))
theorem EM (v:Value) (l:List Rec) (f:FuncId) (p:Rec→Bool) (w:World) (hv:Sl 4 w v (aF l)) (he:Enters Tryz.prog f) (hf:XB f l p):Calls Tryz.prog 230 #[v, .func (.func f) #[] #[]] w (aY w (.int .i64 (oF p l))):=by
 have hle:=hv.le;have hlen:=aK l;go_enter Tryz.func230,Tryz.ntmps230
 refine_lift fM fun _ _ => ?_;go_loopw [5,8] (fun _ i wr=>∃ k:Nat,k≤l.length∧i=.int .i64 k∧Ext w wr∧(l.take k).any p=false) (fun _ i _=>l.length - (intOf i).toNat)
 case atStart=>exact ⟨0,Nat.zero_le _,rfl,Ext.refl _,rfl⟩
 case round =>
  obtain ⟨k,hk,rfl,hx,hall⟩:=hrel;have hv2:=hv.ext hx;by_cases hlt:k < l.length
  ·have hpe:=hv2.elem (eU hlt);refine_lift IR ?_;intro _ _ _ _ _ _;refine dV he rfl rfl rfl (hf _ (List.getElem_mem hlt) _) ?_;rintro e w2 ⟨rfl,x2⟩;refine ⟨_,rfl,?_⟩;refine aB ?_;cases hp:p l[k] with
   | true =>
    refine_lift cL ?_;go_ret;exact ⟨by rw [vB hlt hall hp];rfl,hx.trans x2⟩
   | false =>
    refine_lift cL ?_;exact ⟨⟨k + 1,aC,by go_num,hx.trans x2,nZ hlt hall hp⟩,by simp [intOf];omega⟩
  ·have:k=l.length:=aC;subst this;rw [List.take_length] at hall;refine_lift xQ fun _ => ?_;go_ret;exact ⟨by rw [vD hall];rfl,hx⟩
theorem xI (v:Value) (l:List Rec) (f:FuncId) (p:Rec→Bool) (w:World) (hv:Sl 4 w v (aF l)) (he:Enters Tryz.prog f) (hf:XB f l p):Calls Tryz.prog 175 #[v, .func (.func f) #[] #[]] w (aY w (.bool (l.any p))):=by
 go_enter Tryz.func175,Tryz.ntmps175
 refine_lift fM fun _ _ => ?_;refine bZ (EM v l f p _ hv he hf) fun w1 x1 => ?_;refine_lift cL ?_;go_ret;exact ⟨by rw [← tW];rfl,x1⟩
theorem parts {l:List Rec} (hv:Sl 4 w v (aF l)) {n:Nat} (hn:n≤l.length):Sl 4 w (dD v 4 0 n) (aF (l.take n))∧Sl 4 w (dD v 4 n l.length) (aF (l.drop n)):=by
 have hlen:=aK l;have a:=hv.cut (m:=0) (n:=n) aC aC;have b:=hv.cut (m:=n) (n:=l.length) aC aC;rw [← hlen,List.take_length,hlen] at b;exact ⟨by simpa [aF,List.map_take] using a,by simpa [aF,List.map_drop] using b⟩
def HQ (v:Value):Nat:=match v with | .slice _ n _=>n | _=>0
theorem Sl.slLen (h:Sl k w v es):HQ v=es.length:=by
 obtain ⟨a,cap,rfl,_⟩:=h;rfl
def ZEU (B:Nat) (q:ZE) (r:Value) (w':World):Prop:=∃ y,r=.tuple #[.agg #[aE q.o,y], .int .i64 q.e]∧SetsO B w' y q.l
theorem ZEU.bad {e:Int}:ZEU B (ZE.bad e) (.tuple #[.agg iP.toArray, .int .i64 e]) w':=⟨.slice none 0 0,rfl,SetsO.nil _ _⟩
section
variable {P:Program} {a:Act} {w:World} {Q:Exit→Act→World→Prop}
theorem BI {c body:Code} (l:Nat) (J:Act→World→Prop) (μ:Act→World→Nat) (hf:findLabel c l=some (Code.skip.seq body))
 (pass:∀ a w,J a w→body.wp P (Exit.jump l (fun a' w'=>J a' w'∧μ a' w' < μ a w) Q) a w)
 (first:(∀ a w,J a w→body.wp P (Exit.jump l J Q) a w)→c.wp P (Exit.jump l J Q) a w):(Code.scope c).wp P Q a w :=
 wp_scope_jumps l J μ hf (first fun a w h=>wp_mono (pass a w h) (by intro e a' w' hq;cases e <;> first | exact hq | exact ⟨hq.1,hq.2.1⟩)) (fun a w h=>by
  have h':=pass a w h;apply wp_seq_k;intro K hK;apply wp_skip;exact hK _ _ h')
end
section
variable {P:Program} {w w':World} {d:Option Nat} {ty:TypeId} {ps:String} {af:Array Edge} {g:Option (Nat × Bool)} {a:Act}
end
theorem ZEU.cell {q:ZE} (h:ZEU B q r w):∃ y,r=.tuple #[.agg #[aE q.o,y], .int .i64 q.e]∧SetsO B w y q.l∧y.oneCell'=true:=by
 obtain ⟨y,rfl,hy⟩:=h;obtain ⟨_,hq,_⟩:=hy.sets.sl;exact ⟨y,rfl,hy,hq.one⟩
theorem SecOk.withZ {s:SecR} (h:SecOk s) {l:List Rec} (he:(s.inst l).e=0):SecOk (s.withZ (s.inst l)):=by
 obtain ⟨a,b,_⟩:=h.inst (l:=l) he;refine ⟨h.og,h.retry,?_⟩;intro o l' e;simp only [SecR.withZ,Option.some.injEq,Prod.mk.injEq] at e;obtain ⟨rfl,rfl⟩:=e;exact ⟨a,b⟩
structure OpR where
 op:Int
 n:Int
 now:Int
 l:List Rec
theorem QY (room:Int) (ds:List DeltaR) (h:0≤room):((QM room ds).length:Int)=min (ds.length:Int) room:=by
 rw [QM,List.length_drop];omega
theorem YW {a b:List RSet} (ha:ZoneOk o a) (hb:ZoneOk o b):Br o a o b=0:=by
 rw [Br,if_pos (qJ ha),if_pos (qJ hb),if_pos rfl]
def sA:SecR:=EL [1,97] 7
def sB:SecR:=sA.heard 5 0
section
variable {retry n now:Int} (h1:1≤retry) (h2:retry≤100000) (h3:0≤n) (h4:n≤4294967295) (h5:0≤now) (h6:now≤1000000)
include h5 h6
end
section
variable {now:Int} (h5:0≤now) (h6:now≤1000000)
include h5 h6
end
section
variable {n now:Int} (h5:0≤now) (h6:now≤1000000)
include h5 h6
end
structure OpsAt (w:World) (v:Value) (ps:List OpR):Prop where
 out:∃ css,Sl 4 w v css∧css.length=ps.length∧∀ (i:Nat) (p:OpR),ps[i]? = some p→∃ u,css[i]? = some [.int .i64 p.op, .int .i64 p.n, .int .i64 p.now,u]∧Sl 4 w u (aF p.l)
theorem OpsAt.ext {ps:List OpR} (h:OpsAt w v ps) (hx:Ext w w'):OpsAt w' v ps:=by
 obtain ⟨css,h1,h2,h3⟩:=h;exact ⟨css,h1.ext hx,h2,fun i z hi=>let ⟨u,a,b⟩:=h3 i z hi;⟨u,a,b.ext hx⟩⟩
section
variable {P:Program} {w:World} {ts:List Value} {df:List Deferred} {d:Option Nat} {ty:TypeId} {ps:String} {af:Array Edge} {g:Option (Nat × Bool)}
end
structure MsgsAt (w:World) (v:Value) (ms:List MsgR):Prop where
 out:∃ css,Sl 13 w v css∧css.length=ms.length∧∀ (i:Nat) (m:MsgR),ms[i]? = some m→∃ q a u e,css[i]? = some (aO m q a u e)∧MsgV w m q a u e
theorem MsgsAt.ext {ms:List MsgR} (h:MsgsAt w v ms) (hx:Ext w w'):MsgsAt w' v ms:=by
 obtain ⟨css,h1,h2,h3⟩:=h;exact ⟨css,h1.ext hx,h2,fun i m hi=>let ⟨q,a,u,e,b,c⟩:=h3 i m hi;⟨q,a,u,e,b,c.ext hx⟩⟩
def iV:List Value:=[.int .i64 0, .bool false, .int .i64 0, .bool false, .bool false, .bool false, .bool false, .int .i64 0, .slice none 0 0, .slice none 0 0, .slice none 0 0, .slice none 0 0, .int .i64 0]
theorem dP {m:MsgR} {q a e:Value} (h:MsgV w m q a u e):(Value.agg (aO m q a u e).toArray).cells.all (·.oneCell')=true:=by
 have:=h.one;simp only [Value.cells,List.all_toArray,List.all_eq_true];exact this
theorem qT (n a b:Int) (w:World):Calls Tryz.prog 130 #[.int .i64 n, .int .i64 a, .int .i64 b] w (aY w (.bool (iH n a b))):=by
 go_enter Tryz.func130,Tryz.ntmps130
 refine_lift jD (fun hc => ?_) (fun hc => ?_)
 all_goals
  go_ret;refine ⟨?_,Ext.refl _⟩;simp [iH];omega
theorem AE (q:mH) (w:World):Calls Tryz.prog 87 #[.agg #[aE q.1, .int .i64 q.2]] w (aY w (.bool (zX q))):=by
 go_enter Tryz.func87,Tryz.ntmps87
 refine_lift mO fun _ _ => ?_;refine mW (vs:=[aE q.1, .int .i64 q.2]) fun p w1 x1 hp => ?_;refine aB ?_;refine_lift bK fun _ _ => ?_;refine bZ ((show Calls Tryz.prog 52 #[aE q.1] w1 (aY w1 (.int .i64 (eX q.1))) from OR q.1 w1)) fun w2 x2 => ?_;have hp2:=hp.ext x2;by_cases hcE:eX q.1=0
 ·rw [hcE];refine_lift aR ?_;refine bZ (qT q.2 1 65535 _) fun w3 x3 => ?_;have hp3:=hp2.ext x3;cases hw:iH q.2 1 65535 with
  | false =>
   refine_lift aR ?_;go_ret;refine ⟨?_,(x1.trans x2).trans x3⟩;simp only [iH] at hw;simp [zX,hcE,hw]
  | true =>
   refine_lift aR ?_;go_ret;refine ⟨?_,(x1.trans x2).trans x3⟩;simp only [iH] at hw;simp [zX,hcE,hw]
 ·refine_lift jD (fun hc => ?_) (fun hc => ?_)
  all_goals first
   | (exfalso;contradiction)
   | skip
  go_ret;refine ⟨?_,x1.trans x2⟩;simp [zX,hcE]
theorem UP (r:Rec) (w:World):Calls Tryz.prog 176 #[.agg #[aE r.name, .int .i64 r.kind, .int .i64 r.ttl,aE r.data]] w (aY w (.bool (!decide (bF r=0)))):=by
 go_enter Tryz.func176,Tryz.ntmps176
 refine_lift mO fun _ _ => ?_;refine mW (vs:=[aE r.name, .int .i64 r.kind, .int .i64 r.ttl,aE r.data]) fun p w1 x1 hp => ?_;refine aB ?_;refine_lift bK fun _ _ => ?_;refine bZ (Bi r _) fun w2 x2 => ?_;refine_lift aR ?_;go_ret;exact ⟨rfl,x1.trans x2⟩
theorem vG (v:Value) (l:List Rec) (w:World) (hv:Sl 4 w v (aF l)):Calls Tryz.prog 133 #[v] w (aY w (.bool (jL l))):=by
 have hlen:=aK l;go_enter Tryz.func133,Tryz.ntmps133
 refine_lift GG (fun hc => ?_) (fun _ _ hc => ?_)
 ·have h2:decide (l.length≤200)=true:=decide_eq_true aC;refine bZ (xI v l _ (fun r => !decide (bF r=0)) _ hv (enters_of Tryz.func176 rfl rfl) (fun r _ w'=>UP r w')) fun w1 x1 => ?_;refine_lift aR ?_;go_ret;refine ⟨?_,x1⟩;rw [jL,h2];rfl
 ·have h2:decide (l.length≤200)=false:=decide_eq_false aC;go_ret;refine ⟨?_,Ext.refl _⟩;rw [jL,h2];rfl
theorem DF (q:mH) (w:World):Calls Tryz.prog 132 #[.agg #[aE q.1, .int .i64 q.2]] w (aY w (.bool (!zX q))):=by
 go_enter Tryz.func132,Tryz.ntmps132
 refine_lift mO fun _ _ => ?_;refine mW (vs:=[aE q.1, .int .i64 q.2]) fun p w1 x1 hp => ?_;refine aB ?_;refine_lift bK fun _ _ => ?_;refine bZ (AE q _) fun w2 x2 => ?_;refine_lift aR ?_;go_ret;exact ⟨rfl,x1.trans x2⟩
def XC (f:FuncId) (l:List mH) (p:mH→Bool):Prop:=∀ r ∈ l,∀ w',Calls Tryz.prog f #[.agg #[aE r.1, .int .i64 r.2]] w' (aY w' (.bool (p r)))
theorem rK {l:List mH} (h:k < l.length):(cU l)[k]? = some [aE l[k].1, .int .i64 l[k].2]:=by
 simp [cU,List.getElem?_eq_getElem h]
theorem EN (v:Value) (l:List mH) (f:FuncId) (p:mH→Bool) (w:World) (hv:Sl 2 w v (cU l)) (he:Enters Tryz.prog f) (hf:XC f l p):Calls Tryz.prog 174 #[v, .func (.func f) #[] #[]] w (aY w (.int .i64 (oF p l))):=by
 have hle:=hv.le;have hlen:=eP l;go_enter Tryz.func174,Tryz.ntmps174
 refine_lift bK fun _ _ => ?_;go_loopw [5,8] (fun _ i wr=>∃ k:Nat,k≤l.length∧i=.int .i64 k∧Ext w wr∧(l.take k).any p=false) (fun _ i _=>l.length - (intOf i).toNat)
 case atStart=>exact ⟨0,Nat.zero_le _,rfl,Ext.refl _,rfl⟩
 case round =>
  obtain ⟨k,hk,rfl,hx,hall⟩:=hrel;have hv2:=hv.ext hx;by_cases hlt:k < l.length
  ·have hpe:=hv2.elem (rK hlt);refine_lift rS ?_;intro _ _ _ _ _ _;refine dV he rfl rfl rfl (hf _ (List.getElem_mem hlt) _) ?_;rintro e w2 ⟨rfl,x2⟩;refine ⟨_,rfl,?_⟩;refine aB ?_;cases hp:p l[k] with
   | true =>
    refine_lift aR ?_;go_ret;exact ⟨by rw [vB hlt hall hp];rfl,hx.trans x2⟩
   | false =>
    refine_lift aR ?_;exact ⟨⟨k + 1,aC,by go_num,hx.trans x2,nZ hlt hall hp⟩,by simp [intOf];omega⟩
  ·have:k=l.length:=aC;subst this;rw [List.take_length] at hall;refine_lift iX fun _ => ?_;go_ret;exact ⟨by rw [vD hall];rfl,hx⟩
theorem pS (v:Value) (l:List mH) (f:FuncId) (p:mH→Bool) (w:World) (hv:Sl 2 w v (cU l)) (he:Enters Tryz.prog f) (hf:XC f l p):Calls Tryz.prog 131 #[v, .func (.func f) #[] #[]] w (aY w (.bool (l.any p))):=by
 go_enter Tryz.func131,Tryz.ntmps131
 refine_lift bK fun _ _ => ?_;refine bZ (EN v l f p _ hv he hf) fun w1 x1 => ?_;refine_lift aR ?_;go_ret;exact ⟨by rw [← tW];rfl,x1⟩
theorem kO {l:List mH} {b:Bool} (h:l.any (fun r => !zX r)=b):l.all zX = !b:=by
 rw [← h,List.all_eq_not_any_not]
theorem AF (m:MsgR) (q a u e:Value) (w:World) (hm:MsgV w m q a u e):Calls Tryz.prog 73 #[.agg (aO m q a u e).toArray] w (aY w (.int .i64 (dW m))):=by
 go_enter Tryz.func73,Tryz.ntmps73
 refine_lift mO fun _ _ => ?_;refine mW (vs:=aO m q a u e) fun p w1 x1 hp => ?_;refine aB ?_;unfold aO at hp;have hm0:=hm;obtain ⟨hq0,ha0,hu0,he0⟩:=hm;have hq1:=hq0.ext x1;have hm:=hm0;refine_lift bK fun _ _ => ?_
 all_goals first
  | (exfalso;contradiction)
  | (exfalso;omega)
  | skip
 refine bZ (qT m.id 0 65535 _) fun w2 x2 => ?_;have hx2:=(Ext.refl w1).trans x2;have hp2:=hp.ext hx2;cases h2:iH m.id 0 65535 with
 | false =>
  refine_lift aR ?_
  all_goals first
   | (exfalso;contradiction)
   | (exfalso;omega)
   | skip
  go_ret;refine ⟨?_,x1.trans hx2⟩;simp [dW,h2]
 | true =>
  refine_lift aR ?_
  all_goals first
   | (exfalso;contradiction)
   | (exfalso;omega)
   | skip
  refine bZ (qT m.op 0 15 _) fun w3 x3 => ?_;have hx3:=hx2.trans x3;have hp3:=hp.ext hx3;cases h3:iH m.op 0 15 with
  | false =>
   refine_lift aR ?_
   all_goals first
    | (exfalso;contradiction)
    | (exfalso;omega)
    | skip
   go_ret;refine ⟨?_,x1.trans hx3⟩;simp [dW,h2,h3]
  | true =>
   refine_lift aR ?_
   all_goals first
    | (exfalso;contradiction)
    | (exfalso;omega)
    | skip
   refine bZ (qT m.rcode 0 15 _) fun w4 x4 => ?_;have hx4:=hx3.trans x4;have hp4:=hp.ext hx4;cases h4:iH m.rcode 0 15 with
   | false =>
    refine_lift aR ?_
    all_goals first
     | (exfalso;contradiction)
     | (exfalso;omega)
     | skip
    go_ret;refine ⟨?_,x1.trans hx4⟩;simp [dW,h2,h3,h4]
   | true =>
    by_cases hz:m.size=0
    ·clear hm0;by_cases hl:m.qs.length≤10
     ·have hl0:((cU m.qs).length:Int)≤10:=by rw [eP];omega
      refine_lift PI (fun hc _ _ hc => ?_) (fun hc hc _ _ => ?_) (fun hc => ?_)
      all_goals first
       | (exfalso;contradiction)
       | (exfalso;omega)
       | skip
      refine bZ (pS q m.qs _ (fun r => !zX r) _ ((hm.qs.ext x1).ext hx4) (enters_of Tryz.func132 rfl rfl) (fun r _ w'=>DF r w')) fun w7 x7 => ?_;have hx7:=hx4.trans x7;have hp7:=hp.ext hx7;cases h7:m.qs.any (fun r => !zX r) with
      | true =>
       refine_lift aR ?_
       all_goals first
        | (exfalso;contradiction)
        | (exfalso;omega)
        | skip
       go_ret;refine ⟨?_,x1.trans hx7⟩;simp [dW,h2,h3,h4,hz,hl,kO h7]
      | false =>
       refine_lift mP fun _ _ _ _ => ?_
       all_goals first
        | (exfalso;contradiction)
        | (exfalso;omega)
        | skip
       refine bZ (vG a m.an _ ((hm.an.ext x1).ext hx7)) fun w8 x8 => ?_;have hx8:=hx7.trans x8;have hp8:=hp.ext hx8;cases h8:jL m.an with
       | false =>
        refine_lift aR ?_
        all_goals first
         | (exfalso;contradiction)
         | (exfalso;omega)
         | skip
        go_ret;refine ⟨?_,x1.trans hx8⟩;simp [dW,h2,h3,h4,hz,hl,kO h7,h8]
       | true =>
        refine_lift aR ?_
        all_goals first
         | (exfalso;contradiction)
         | (exfalso;omega)
         | skip
        refine bZ (vG u m.au _ ((hm.au.ext x1).ext hx8)) fun w9 x9 => ?_;have hx9:=hx8.trans x9;have hp9:=hp.ext hx9;cases h9:jL m.au with
        | false =>
         refine_lift aR ?_
         all_goals first
          | (exfalso;contradiction)
          | (exfalso;omega)
          | skip
         go_ret;refine ⟨?_,x1.trans hx9⟩;simp [dW,h2,h3,h4,hz,hl,kO h7,h8,h9]
        | true =>
         refine_lift aR ?_
         all_goals first
          | (exfalso;contradiction)
          | (exfalso;omega)
          | skip
         refine bZ (vG e m.ex _ ((hm.ex.ext x1).ext hx9)) fun w10 x10 => ?_;have hx10:=hx9.trans x10;have hp10:=hp.ext hx10;cases h10:jL m.ex with
         | false =>
          refine_lift aR ?_
          all_goals first
           | (exfalso;contradiction)
           | (exfalso;omega)
           | skip
          go_ret;refine ⟨?_,x1.trans hx10⟩;simp [dW,h2,h3,h4,hz,hl,kO h7,h8,h9,h10]
         | true =>
          refine_lift aR ?_
          all_goals first
           | (exfalso;contradiction)
           | (exfalso;omega)
           | skip
          go_ret;refine ⟨?_,x1.trans hx10⟩;simp [dW,h2,h3,h4,hz,hl,kO h7,h8,h9,h10]
     ·have hl0:¬ ((cU m.qs).length:Int)≤10:=by rw [eP];omega
      refine_lift PI (fun hc _ _ hc => ?_) (fun hc hc _ _ => ?_) (fun hc => ?_)
      all_goals first
       | (exfalso;contradiction)
       | (exfalso;omega)
       | skip
      go_ret;refine ⟨?_,x1.trans hx4⟩;simp [dW,h2,h3,h4,hz,hl]
    ·clear hm0;refine_lift PI (fun hc _ _ hc => ?_) (fun hc hc _ _ => ?_) (fun hc => ?_)
     all_goals first
      | (exfalso;contradiction)
      | (exfalso;omega)
      | skip
     refine bZ (qT m.size 512 65535 _) fun w6 x6 => ?_;have hx6:=hx4.trans x6;have hp6:=hp.ext hx6;cases h6:iH m.size 512 65535 with
     | false =>
      refine_lift aR ?_
      all_goals first
       | (exfalso;contradiction)
       | (exfalso;omega)
       | skip
      go_ret;refine ⟨?_,x1.trans hx6⟩;simp [dW,h2,h3,h4,hz,h6]
     | true =>
      by_cases hl:m.qs.length≤10
      ·have hl0:((cU m.qs).length:Int)≤10:=by rw [eP];omega
       refine_lift DZ (fun hc _ _ => ?_) (fun _ _ hc => ?_)
       all_goals first
        | (exfalso;contradiction)
        | (exfalso;omega)
        | skip
       refine bZ (pS q m.qs _ (fun r => !zX r) _ ((hm.qs.ext x1).ext hx6) (enters_of Tryz.func132 rfl rfl) (fun r _ w'=>DF r w')) fun w8 x8 => ?_;have hx8:=hx6.trans x8;have hp8:=hp.ext hx8;cases h8:m.qs.any (fun r => !zX r) with
       | true =>
        refine_lift aR ?_
        all_goals first
         | (exfalso;contradiction)
         | (exfalso;omega)
         | skip
        go_ret;refine ⟨?_,x1.trans hx8⟩;simp [dW,h2,h3,h4,hz,h6,hl,kO h8]
       | false =>
        refine_lift mP fun _ _ _ _ => ?_
        all_goals first
         | (exfalso;contradiction)
         | (exfalso;omega)
         | skip
        refine bZ (vG a m.an _ ((hm.an.ext x1).ext hx8)) fun w9 x9 => ?_;have hx9:=hx8.trans x9;have hp9:=hp.ext hx9;cases h9:jL m.an with
        | false =>
         refine_lift aR ?_
         all_goals first
          | (exfalso;contradiction)
          | (exfalso;omega)
          | skip
         go_ret;refine ⟨?_,x1.trans hx9⟩;simp [dW,h2,h3,h4,hz,h6,hl,kO h8,h9]
        | true =>
         refine_lift aR ?_
         all_goals first
          | (exfalso;contradiction)
          | (exfalso;omega)
          | skip
         refine bZ (vG u m.au _ ((hm.au.ext x1).ext hx9)) fun w10 x10 => ?_;have hx10:=hx9.trans x10;have hp10:=hp.ext hx10;cases h10:jL m.au with
         | false =>
          refine_lift aR ?_
          all_goals first
           | (exfalso;contradiction)
           | (exfalso;omega)
           | skip
          go_ret;refine ⟨?_,x1.trans hx10⟩;simp [dW,h2,h3,h4,hz,h6,hl,kO h8,h9,h10]
         | true =>
          refine_lift aR ?_
          all_goals first
           | (exfalso;contradiction)
           | (exfalso;omega)
           | skip
          refine bZ (vG e m.ex _ ((hm.ex.ext x1).ext hx10)) fun w11 x11 => ?_;have hx11:=hx10.trans x11;have hp11:=hp.ext hx11;cases h11:jL m.ex with
          | false =>
           refine_lift aR ?_
           all_goals first
            | (exfalso;contradiction)
            | (exfalso;omega)
            | skip
           go_ret;refine ⟨?_,x1.trans hx11⟩;simp [dW,h2,h3,h4,hz,h6,hl,kO h8,h9,h10,h11]
          | true =>
           refine_lift aR ?_
           all_goals first
            | (exfalso;contradiction)
            | (exfalso;omega)
            | skip
           go_ret;refine ⟨?_,x1.trans hx11⟩;simp [dW,h2,h3,h4,hz,h6,hl,kO h8,h9,h10,h11]
      ·have hl0:¬ ((cU m.qs).length:Int)≤10:=by rw [eP];omega
       refine_lift DZ (fun hc _ _ => ?_) (fun _ _ hc => ?_)
       all_goals first
        | (exfalso;contradiction)
        | (exfalso;omega)
        | skip
       go_ret;refine ⟨?_,x1.trans hx6⟩;simp [dW,h2,h3,h4,hz,h6,hl]
structure MsgsV (B:Nat) (w:World) (v:Value) (ms:List MsgR):Prop where
 out:∃ css,Own B 13 54 w v css∧css.length=ms.length∧∀ (i:Nat) (m:MsgR),ms[i]? = some m→∃ q a,css[i]? = some (aO m q a (.slice none 0 0) (.slice none 0 0))∧Own B 2 25 w q (cU m.qs)∧Own B 4 37 w a (aF m.an)∧m.au=[]∧m.ex=[]
theorem MsgsV.nil (B:Nat) (w:World):MsgsV B w (.slice none 0 0) []:=⟨[],Own.nil _ _ _ _,rfl,aX⟩
theorem MsgsV.ext {ms:List MsgR} (h:MsgsV B w v ms) (hx:Ext w w'):MsgsV B w' v ms:=by
 obtain ⟨css,h1,h2,h3⟩:=h;exact ⟨css,h1.ext hx,h2,fun i m hi=>let ⟨q,a,b,c,d,e,f⟩:=h3 i m hi;⟨q,a,b,c.ext hx,d.ext hx,e,f⟩⟩
theorem MsgsV.weaken {C:Nat} {ms:List MsgR} (h:MsgsV B w v ms) (hc:C≤B):MsgsV C w v ms:=by
 obtain ⟨css,h1,h2,h3⟩:=h;exact ⟨css,h1.weaken hc,h2,fun i m hi=>let ⟨q,a,b,c,d,e,f⟩:=h3 i m hi;⟨q,a,b,c.weaken hc,d.weaken hc,e,f⟩⟩
theorem MsgsV.put {t:Nat} {ms:List MsgR} {o:Obj} (h:MsgsV B w v ms) (hb:w.heap[b]? = some (.cells cs t fz)) (h1:t≠54) (h2:t≠25) (h3:t≠37) (hp:Put w w' b o):MsgsV B w' v ms:=by
 obtain ⟨css,a,c,e⟩:=h;exact ⟨css,a.mv hp.mv (.inr (a.neBlock hb h1)),c,fun i d hi=>let ⟨g,n,x,y,z,u⟩:=e i d hi;⟨g,n,x,y.mv hp.mv (.inr (y.neBlock hb h2)),z.mv hp.mv (.inr (z.neBlock hb h3)),u⟩⟩
theorem MsgsV.add {v' q a:Value} {ms:List MsgR} {m:MsgR} (h1:Own B 13 54 w v css) (h2:css.length=ms.length)
 (h3:∀ (i:Nat) (m:MsgR),ms[i]? = some m→∃ q a,css[i]? = some (aO m q a (.slice none 0 0) (.slice none 0 0))∧Own B 2 25 w q (cU m.qs)∧Own B 4 37 w a (aF m.an)∧m.au=[]∧m.ex=[]) (hm:Mv v.ownBlock w w')
 (o:Own B 13 54 w' v' (css ++ [aO m q a (.slice none 0 0) (.slice none 0 0)])) (hq:Own B 2 25 w q (cU m.qs)) (ha:Own B 4 37 w a (aF m.an)) (hu:m.au=[]) (he:m.ex=[]):MsgsV B w' v' (ms ++ [m]):=by
 refine ⟨_,o,by simp [h2],fun i x hi => ?_⟩;by_cases hlt:i < ms.length
 ·rw [List.getElem?_append_left hlt] at hi;obtain ⟨q',a',b,c,d,e⟩:=h3 i x hi;exact ⟨q',a',by rw [List.getElem?_append_left aC];exact b,c.mv hm (c.ne h1 aJ),d.mv hm (d.ne h1 aJ),e⟩
 ·rw [List.getElem?_append_right aC] at hi;have hi0:i - ms.length=0:=by
   have:=(List.getElem?_eq_some_iff.1 hi).1;simp only [List.length_cons,List.length_nil] at this;omega
  rw [hi0] at hi;have hx:m=x:=by simpa using hi
  subst hx;have:i=css.length:=aC;subst this;exact ⟨q,a,by rw [List.getElem?_append_right (Nat.le_refl _)];simp,hq.mv hm (hq.ne h1 aJ),ha.mv hm (ha.ne h1 aJ),hu,he⟩
theorem JT {l:List mH}:∀ f ∈ cU l,∀ u ∈ f,u.oneCell'=true:=by
 intro f hf u hu;simp only [cU,List.mem_map] at hf;obtain ⟨q,_,rfl⟩:=hf;simp only [List.mem_cons,List.not_mem_nil,or_false] at hu;rcases hu with rfl | rfl <;> rfl
end Go.Proofs.X
