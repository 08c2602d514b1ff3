/- Laws and walks that the proof of the statement is made of (part 1). -/
import Derived.Test.YtgljkfpcadempaaGreatP0
set_option linter.unusedVariables false
set_option linter.unusedSimpArgs false
namespace Go.Proofs.X
open Go.RowKit
def FR (r:Option Nat):Fence:={ Fence.wide with round:=r }
section
variable {P:Program} {n:Nat} {r:Option Nat} {ops:Array Oper} {Q:Exit→Act→World→Prop}
theorem JE {row:String} {args:Array Value} {w:World} {R:Value→World→Prop} {r:Option Nat} (h:Rows P row args w R):RowsIn (FR r) n P row args w R :=
 fun c cs _=>let ⟨v,w',hr,hs⟩:=h c cs;⟨v,w',hr,stepsIn_wide.2 hs⟩
theorem GK {f:FuncId} {args:Array Value} {w:World} {R:Ending→World→Prop} {r:Option Nat} (h:Calls P f args w R):CallsIn (FR r) n P f args w R :=
 (callsIn_wide (n:=n)).2 h
theorem OH {o:Oper} {a:Act} {next next':Act→World→Prop} {Q Q':Exit→Act→World→Prop} {x:Result Next} (hQ:∀ a w,¬ Q .outgrown a w) (hq:∀ e a w,Q e a w→Q' e a w) (hn:∀ a w,next a w→next' a w)
 (h:o.upon P a next Q x):o.uponIn (FR r) n P a next' Q' x:=by
 cases x with
 | ok v w =>
  cases v <;> first | exact h.elim | skip
  case value v=>exact hn _ _ h
  case skip=>exact hn _ _ h
  case defer d=>exact hn _ _ h
  case enter f args =>
   refine ⟨fun hd=>by simp [FR,Fence.wide] at hd,GK (Calls.mono h ?_)⟩
   intro e w' he
   cases e with
   | returned v=>exact hn _ _ he
   | panicked c=>exact hq _ _ _ he
   | outgrown=>obtain ⟨a0,w0,h0⟩:=he;exact absurd h0 (hQ _ _)
  case row row args=>exact ⟨fun hd=>by simp [FR,Fence.wide] at hd,JE (h.mono fun _ _ he=>hn _ _ he)⟩
 | halt x w=>cases x <;> first | exact h.elim | exact hq _ _ _ h
theorem DN {l:List Oper} (hd:∀ o ∈ l,∀ c,o.op≠.defer c) (hQ:∀ a w,¬ Q .outgrown a w):∀ {a:Act} {w:World},wpList P ops Q l a w→wpListIn (FR r) n P ops Q l a w:=by
 induction l with
 | nil=>intro a w h;exact h
 | cons o l ih =>
  intro a w h
  have ih':=fun {a w}=>ih (fun o ho=>hd o (List.mem_cons_of_mem _ ho)) (a:=a) (w:=w)
  unfold wpList at h
  unfold wpListIn
  split
  ·rename_i hw
   rw [if_pos hw] at h
   rcases h with h | ⟨_,a0,w0,h0⟩
   ·refine ⟨fun _ _=>trivial,?_⟩
    rw [Oper.semAt_eq _ _ _ (hd o (by simp))]
    exact OH hQ (fun _ _ _ h=>h) (fun _ _ h=>ih' h) h
   ·exact absurd h0 (hQ _ _)
  ·rename_i hw
   rw [if_neg hw] at h
   exact ⟨fun _ _=>trivial,ih' h⟩
def LC (l:List Oper):Bool:=l.all fun o=>match o.op with | .defer _=>false | _=>true
theorem iV {id:Nat} {l:List Oper} {a:Act} {w:World} (hd:LC l=true) (hQ:∀ a w,¬ Q .outgrown a w) (h:wpList P l.toArray Q l a w):(Code.region id l.toArray false).wpIn (FR r) n P Q a w :=
 wpIn_region_lit (DN (fun o ho c hc=>by have:=List.all_eq_true.1 hd o ho;rw [hc] at this;cases this) hQ h)
variable {w:World} {rest:List Oper} {ts:List Value} {df:List Deferred} {d:Nat} {ty:TypeId} {ps:String} {af:Array Edge} {g:Option (Nat × Bool)} {tys:Array TypeId}
theorem wO {v:Value} {op:Op} (hw:Region.wanted (Oper.mk (some d) op ty ps af g) (yielded ops ts.toArray)=true) (hr:Runs P (Oper.mk (some d) op ty ps af g) (Act.mk ts.toArray df) w v)
 (h:wpListIn (FR r) n P ops Q rest (Act.mk (ts.set d v).toArray df) w):wpListIn (FR r) n P ops Q (Oper.mk (some d) op ty ps af g :: rest) (Act.mk ts.toArray df) w:=by
 unfold wpListIn
 rw [if_pos hw]
 refine ⟨fun _ _=>trivial,?_⟩
 rw [Oper.semAt_eq _ _ _ (fun c hc=>by simp only at hc;subst hc;have hr:=hr.run;simp only [execOp,Sem.run_bind] at hr;cases hx:(resolve (Act.mk ts.toArray df).eval c ty).run P w <;> simp [hx,Result.andThen] at hr),hr.run]
 simpa [Oper.uponIn,Act.put] using h
theorem wP {l m:Nat} {xs:List Operand} {vs:List Value} {lp:Loop} {R:Ending→World→Prop} (hw:Region.wanted (Oper.mk (some d) (.call ⟨.value (.tmp m),xs.toArray,tys⟩) ty ps af g) (yielded ops ts.toArray)=true)
 (hm:ts.getD m undef=.func (.yield l) #[] #[]) (hxs:xs.map (Act.mk ts.toArray df).eval=vs) (hl:w.heap[l]? = some (.loop lp)) (hs:vs.length=lp.params.size)
 (hc:RoundIn Fence.wide (n - 1) P l lp.fn ((lp.params.zip vs.toArray).foldl (fun tmps (t,a)=>tmps.setIfInBounds t a) lp.tmps) lp.assign lp.body w R)
 (h:∀ e w',R e w'→∃ v,e=.returned v∧wpListIn (FR r) n P ops Q rest (Act.mk (ts.set d v).toArray df) w') :
 wpListIn (FR r) n P ops Q (Oper.mk (some d) (.call ⟨.value (.tmp m),xs.toArray,tys⟩) ty ps af g :: rest) (Act.mk ts.toArray df) w:=by
 subst hxs
 unfold wpListIn
 rw [if_pos hw]
 refine ⟨fun _ _=>trivial,?_⟩
 have e1:(Act.mk ts.toArray df).eval (.tmp m)=.func (.yield l) #[] #[]:=by rw [fP];exact hm
 have hr:(execOp (Act.mk ts.toArray df).eval (Oper.mk (some d) (.call ⟨.value (.tmp m),xs.toArray,tys⟩) ty ps af g)).run P w=.ok (.round l lp.fn ((lp.params.zip (xs.map (Act.mk ts.toArray df).eval).toArray).foldl (fun tmps (t,a)=>tmps.setIfInBounds t a) lp.tmps) lp.assign lp.body) w:=by
  have:=run_yield (P:=P) (args:=(xs.map (Act.mk ts.toArray df).eval).toArray) hl (by simpa using hs)
  simp only [execOp,resolve,e1,Deferred.ofValue,Sem.run_bind,Sem.run_pure,Result.andThen_ok,invoke,List.map_toArray,List.append_toArray,List.nil_append]
  simpa using this
 rw [Oper.semAt_eq _ _ _ (fun c hc=>by simp at hc),hr]
 refine ⟨fun hd=>by simp [FR,Fence.wide] at hd,?_⟩
 refine RoundIn.mono (R:=R) hc fun e w' he => ?_
 obtain ⟨v,rfl,hk⟩:=h e w' he
 simpa [Act.put] using hk
theorem gI {id:Nat} {l:List Oper} {a:Act} {w:World} (h:wpListIn (FR none) 1 P l.toArray Q l a w):(Code.region id l.toArray false).wp P Q a w :=
 (wpIn_wide (n:=1)).1 (wpIn_region_lit h)
theorem wQ {F:Fence} {n:Nat} {a:Act} {w:World} (h:Q .normal a w):wpListIn F n P ops Q [] a w:=h
theorem sF {f:FuncId} {fn:Func} {c:Code} {args:Array Value} {w:World} {R:Ending→World→Prop}
 (hf:P.funcs[f]? = some fn) (hb:fn.body=some c)
 (h:c.wp P (bodyPostM Fence.wide 1 P fn R) { tmps:=args ++ Array.replicate (fn.ntmps - args.size) undef,defers:=[] } w):Calls P f args w R :=
 (callsIn_wide (n:=1)).1 (callsIn_of_wp_marks hf hb trivial ((wpIn_wide (n:=1)).2 h))
end
theorem oD {P:Program} {t ty0:TypeId} {fr0:Nat × Nat} {b:Nat} {v:Value} {w:World} (h:w.heap[b]? = some (.cells #[v] ty0 fr0)) (hu:jX P t=true):(loadVar t ⟨b,0,none⟩).run P w=.ok v w:=by
 obtain ⟨u,hu,hn⟩:=nE hu
 have h0:w.cell? ⟨b,0,none⟩=some v:=by rw [cell_of_row w b 0 _ _ _ h];rfl
 simp [loadVar,Sem.run_bind,wM hu hn,run_load,h0]
theorem kY {P:Program} {fn:Func} {p q:Tmp} {t u tv tx:TypeId} {fv fx:Nat × Nat} (h:fn.results=#[.cell p t, .cell q u]) {ts:List Value} {w:World} {b c:Nat} {v x:Value}
 (hp:ts.getD p undef=.pointer (some ⟨b,0,none⟩)) (hq:ts.getD q undef=.pointer (some ⟨c,0,none⟩)) (hv:w.heap[b]? = some (.cells #[v] tv fv)) (hx:w.heap[c]? = some (.cells #[x] tx fx)) (ht:jX P t=true) (hu:jX P u=true) :
 (results fn ts.toArray).run P w=.ok (.tuple #[v,x]) w:=by
 have h1:=oD (P:=P) hv ht
 have h2:=oD (P:=P) hx hu
 have hp':ts[p]?.getD undef=.pointer (some ⟨b,0,none⟩):=by simpa using hp
 have hq':ts[q]?.getD undef=.pointer (some ⟨c,0,none⟩):=by simpa using hq
 simp [results,h,hp',hq',asAddr,Sem.run_bind,Result.andThen,h1,h2]
theorem wR {P:Program} {n:Nat} {fn:Func} {tmps:Array Value} {R:Ending→World→Prop} {w:World} {v:Value} (h:(results fn tmps).run P w=.ok v w) (hR:R (.returned v) w) :
 LeavesInM Fence.wide n P fn tmps R [] .returning w:=⟨v,h,hR⟩
theorem vR {P:Program} {g:Operand} {ps:Array Tmp} {assign body:Code} {Q:Exit→Act→World→Prop} {a:Act} {w:World} {s:Nat} {f:FuncId} {caps:Array Value}
 (hg:a.eval g=.func (.func f) #[] caps) (he:Enters P f) (hs:w.heap.size=s)
 (h:∀ fn W lp,lp=({ state:=.ready,pending:=none,fn:=fn,tmps:=a.tmps,params:=ps,assign:=assign,body:=body,defers:=s }:Loop)→Ext w W→W.heap[s]? = some (.deferred (some []))→W.heap[s + 1]? = some (.loop lp)→W.heap.size=s + 2 →
   Calls P f (#[.func (.yield (s + 1)) #[] #[]] ++ caps) W fun e W'=>(∃ v,e=.returned v)∧∃ r,W'.heap[s + 1]? = some (.loop r)∧r.state≠.busy∧∀ W2,Put W' W2 (s + 1) (.loop { r with state:=.exhausted }) →
    match r.pending with
    | none=>Q .normal { a with defers:={ target:=.collected s,args:=#[] } :: a.defers } W2
    | some c=>c.wp P Q { a with defers:={ target:=.collected s,args:=#[] } :: a.defers } W2):(Code.rangeFunc g ps assign body).wp P Q a w:=by
 subst hs
 refine (wpIn_wide (n:=1)).1 (wpIn_rangeFunc ?_)
 intro fn _
 have hm:=(h fn ((w.alloc (.deferred (some []))).alloc (.loop { state:=.ready,pending:=none,fn:=fn,tmps:=a.tmps,params:=ps,assign:=assign,body:=body,defers:=w.heap.size })) _ rfl ((Ext.alloc _ _).trans (Ext.alloc _ _))
  (((Ext.alloc _ _).at (heap_alloc_new _ _))) (by have:=heap_alloc_new (w.alloc (.deferred (some []))) (.loop { state:=.ready,pending:=none,fn:=fn,tmps:=a.tmps,params:=ps,assign:=assign,body:=body,defers:=w.heap.size });rwa [World.size_alloc] at this) (by simp))
 have hE:=run_enterLoop_outer (P:=P) (w:=w) fn a.tmps ps assign body
 generalize ((w.alloc (.deferred (some []))).alloc (.loop { state:=.ready,pending:=none,fn:=fn,tmps:=a.tmps,params:=ps,assign:=assign,body:=body,defers:=w.heap.size }))=W1 at hm hE
 refine ⟨_,_,W1,{ target:=.fn (.func f) caps,args:=#[.func (.yield (w.heap.size + 1)) #[] #[]] },W1,f,#[.func (.yield (w.heap.size + 1)) #[] #[]] ++ caps,W1,hE,?_,fun _ _=>trivial,?_,fun hd=>by simp [Fence.wide] at hd,?_⟩
 ·have e1:a.eval (.const (.func (.yield (w.heap.size + 1)) #[] #[]))=.func (.yield (w.heap.size + 1)) #[] #[]:=rfl
  simp [resolve,hg,e1,Deferred.ofValue]
 ·have:=he (#[.func (.yield (w.heap.size + 1)) #[] #[]] ++ caps) W1
  simpa [invoke] using this
 ·refine callsIn_wide.2 (hm.mono ?_)
  rintro e W' ⟨⟨v,rfl⟩,r,hr,hb,hk⟩
  refine ⟨r.pending,_,run_endLoop hr hb,?_⟩
  have:=hk _ (iS hr)
  cases hp:r.pending with
  | none=>rw [hp] at this;exact this
  | some c=>rw [hp] at this;exact (wpIn_wide (n:=1)).2 this
theorem DO {P:Program} {n l:Nat} {fn:FuncId} {tmps:Array Value} {assign body:Code} {W:World} {R:Ending→World→Prop}
 (h:assign.wpIn (FR (some l)) n P (Exit.then (fun a₁ w₁=>∃ lp,w₁.heap[l]? = some (.loop lp)∧lp.state=.ready∧∀ w₂,Put w₁ w₂ l (.loop { lp with state:=.busy })→body.wpIn (FR (some l)) n P (roundPost P l R) a₁ w₂) (fun _ _ _=>False)) { tmps:=tmps,defers:=[] } W) :
 RoundIn Fence.wide n P l fn tmps assign body W R:=by
 refine roundIn_of_wpIn trivial (wpIn_mono h ?_)
 intro e a w hq
 cases e with
 | normal =>
  obtain ⟨lp,h1,h2,h3⟩:=hq
  exact ⟨_,run_beginRound h1 h2,h3 _ (iS h1)⟩
 | _=>exact hq
theorem BX {P:Program} {l:Nat} {R:Ending→World→Prop} {a:Act} {w:World} {lp:Loop} (h:w.heap[l]? = some (.loop lp)) (hR:∀ w',Put w w' l (.loop { lp with state:=.ready,pending:=none })→R (.returned (.bool true)) w'):roundPost P l R .normal a w :=
 ⟨_,_,run_endRound none h,hR _ (iS h)⟩
theorem JF {P:Program} {l:Nat} {R:Ending→World→Prop} {a:Act} {w:World} {lp:Loop} (h:w.heap[l]? = some (.loop lp)) (hR:∀ w',Put w w' l (.loop { lp with state:=.done,pending:=some .ret })→R (.returned (.bool false)) w'):roundPost P l R .ret a w :=
 ⟨_,_,run_endRound (some .ret) h,hR _ (iS h)⟩
theorem uO {P:Program} {n b:Nat} {fn:Func} {tmps:Array Value} {R:Ending→World→Prop} {w:World} (hd:w.heap[b]? = some (.deferred (some [])))
 (h:∀ w',Put w w' b (.deferred none)→∃ v,(results fn tmps).run P w'=.ok v w'∧R (.returned v) w'):LeavesInM Fence.wide n P fn tmps R [{ target:=.collected b,args:=#[] }] .returning w :=
 ⟨by simp, .inl ⟨_,_,rfl,run_takeDeferred hd,let ⟨v,h1,h2⟩:=h _ (iS hd);wR h1 h2⟩⟩
theorem Own.weaken {B C k e:Nat} {w:World} {v:Value} {es:List (List Value)} (h:Own B k e w v es) (hBC:C≤B):Own C k e w v es :=
 ⟨⟨h.row.1,h.row.2.imp id fun ⟨gg,cap,cur,fz,a,b,r⟩=>⟨gg,cap,cur,fz,a,Nat.le_trans hBC b,r⟩⟩,h.2⟩
theorem Own.put {B k e b:Nat} {w w':World} {v:Value} {es:List (List Value)} {o:Obj} (h:Own B k e w v es) (hp:Put w w' b o) (hb:b < B):Own B k e w' v es :=
 h.mv hp.mv (by
  cases hv:v.ownBlock with
  | none=>exact .inl rfl
  | some r=>have:=h.block r hv;exact .inr (fun e=>by have:=Option.some.inj e;omega))
theorem Put.at {w w':World} {b k:Nat} {o o':Obj} (hp:Put w w' b o) (h:w.heap[k]? = some o') (hk:k≠b):w'.heap[k]? = some o':=(hp.other k hk).trans h
theorem Own.one {B k e:Nat} {w:World} {v:Value} {es:List (List Value)} (h:Own B k e w v es):v.oneCell'=true:=by
 rcases h.row.2 with ⟨rfl,_⟩ | ⟨_,_,_,_,rfl,_⟩ <;> rfl
theorem Own.mvs {B k e b:Nat} {w w1 w':World} {v:Value} {es:List (List Value)} {o:Obj} (h:Own B k e w1 v es) (hm:Mv v.ownBlock w w') (hw:w.heap[b]? = some o) (hb:b < B):w'.heap[b]? = some o :=
 hm.at hw (fun e=>by have:=h.block b e.symm;omega)
theorem Own.mvx {B k e:Nat} {w0 w w1 w':World} {v:Value} {es:List (List Value)} (h:Own B k e w1 v es) (hm:Mv v.ownBlock w w') (hx:Ext w0 w) (hB:w0.heap.size≤B):Ext w0 w' :=
 hx.move hm (fun k hk=>by have:=h.block k hk;omega)
end Go.Proofs.X
set_option linter.unusedVariables false
set_option linter.unusedSimpArgs false
namespace Go.Proofs.X
open Go.RowKit
theorem uP {k:Nat} {c:List Value} (hc:c.length=k):∀ (es:List (List Value)) (i:Nat),(∀ x ∈ es,x.length=k)→i < es.length→(es.set i c).flatten=es.flatten.take (i * k) ++ c ++ es.flatten.drop (i * k + k)
 | [],i,_,hi=>by simp at hi
 | x :: es,0,hall,hi=>by
   have hx:=hall x (by simp)
   simp only [List.set_cons_zero,List.flatten_cons,Nat.zero_mul,List.take_zero,List.nil_append,Nat.zero_add]
   rw [← hx,List.drop_left]
 | x :: es,i + 1,hall,hi=>by
   have hx:=hall x (by simp)
   simp only [List.set_cons_succ,List.flatten_cons]
   rw [uP hc es i (fun y hy=>hall y (by simp [hy])) (by simpa using hi)]
   rw [show (i + 1) * k=x.length + i * k by rw [hx,Nat.add_mul];omega,List.take_length_add_append,Nat.add_assoc,List.drop_length_add_append]
   simp
def aS (l:List UInt8):List (List Value):=l.map fun b=>[.int .u8 (b.toNat:Nat)]
theorem oS:∀ l:List UInt8,(aS l).flatten=l.map (fun b=>Value.int .u8 (b.toNat:Nat))
 | []=>rfl
 | b :: l=>by
   have:=oS l
   simp only [aS] at this ⊢
   simp [this]
theorem Own.store {P:Program} {B k e:Nat} {w:World} {v:Value} {es:List (List Value)} {t:TypeId} {i:Nat} {c:Value} (h:Own B k e w v es) (hi:i < es.length) (hc:c.cells.size=k) (hs:aR P t k=true) (h1:c.cells.all (·.oneCell')=true) :
 ∃ w' b o,dN v (i * k)=.pointer (some ⟨b,o,none⟩)∧(storeVar t ⟨b,o,none⟩ c).run P w=.ok () w'∧Own B k e w' v (es.set i c.cells.toList)∧Mv v.ownBlock w w':=by
 rcases h.row.2 with ⟨rfl,h0⟩ | ⟨g,cap,cur,fz,rfl,hb,hg,hfz,hnc,hcm,hcs,htake⟩
 ·omega
 ·have hl:=bO h.each
  have hik:i * k + k≤es.length * k:=by
   have:(i + 1) * k≤es.length * k:=Nat.mul_le_mul_right k hi
   rwa [Nat.add_mul,Nat.one_mul] at this
  have hck:es.length * k≤cap * k:=Nat.mul_le_mul_right k hnc
  have hst:=eM P g (i * k) e fz c.cells.toList 0 cur w hg hfz (by simp [hc];omega) (fun u hu=>(Array.all_eq_true_iff_forall_mem.1 h1) u (by simpa using hu))
  simp only [Nat.add_zero] at hst
  obtain ⟨ti,hq,hsz⟩:=sC (jE hs)
  have hall:∀ x ∈ es.set i c.cells.toList,x.length=k:=by
   intro x hx
   rcases List.mem_or_eq_of_mem_set hx with hx | rfl
   ·exact h.each x hx
   ·simpa using hc
  refine ⟨w.setRow g (cur.toList.take (i * k) ++ c.cells.toList ++ cur.toList.drop (i * k + c.cells.toList.length)).toArray,g,i * k,by simp [dN,dW],?_,⟨⟨?_, .inr ⟨g,cap,(cur.toList.take (i * k) ++ c.cells.toList ++ cur.toList.drop (i * k + c.cells.toList.length)).toArray,fz,?_,hb,setRow_heap w g cur _ e _ hg,?_,?_,hcm,?_,?_⟩⟩,hall⟩,⟨rfl,rfl,rfl,by simp,fun k _ hk=>setRow_other w g k _ (fun e=>hk (by simp [Value.ownBlock,e])),Nat.le_refl _⟩⟩
  ·simpa [storeVar,sizeOf,typeInfo,hq,hsz,hc] using hst
  ·rw [bO hall]
  ·simp
  ·simp only [List.size_toArray,List.length_append,List.length_take,List.length_drop,Array.length_toList,hc];omega
  ·simpa using hnc
  ·simp only [List.size_toArray,List.length_append,List.length_take,List.length_drop,Array.length_toList,hc];omega
  ·rw [uP (by simpa using hc) es i h.each hi,← htake]
   apply List.ext_getElem?
   intro j
   have hlc:c.cells.toList.length=k:=by simpa using hc
   have hA:(cur.toList.take (i * k)).length=i * k:=by simp;omega
   have hA2:(List.take (i * k) (List.take (es.length * k) cur.toList)).length=i * k:=by simp;omega
   rw [List.getElem?_take]
   simp only [List.length_set]
   simp only [List.append_assoc]
   simp only [List.getElem?_append,hA,hA2,hlc]
   by_cases h1:j < i * k
   ·rw [if_pos (by omega),if_pos h1,if_pos h1]
    simp only [List.getElem?_take]
    rw [if_pos h1,if_pos h1,if_pos (by omega)]
   ·by_cases h2:j - i * k < k
    ·rw [if_neg h1,if_neg h1,if_pos h2,if_pos h2,if_pos (by omega)]
    ·rw [if_neg h1,if_neg h1,if_neg h2,if_neg h2]
     simp only [List.getElem?_drop,List.getElem?_take]
     rw [show i * k + k + (j - i * k - k)=j by omega]
section
variable {P:Program} {ops:Array Oper} {Q:Exit→Act→World→Prop} {w:World} {rest:List Oper} {ts:List Value} {df:List Deferred} {ty:TypeId} {ps:String} {af:Array Edge} {g:Option (Nat × Bool)}
theorem wS {B k e:Nat} {v c:Value} {es:List (List Value)} {t ty2:TypeId} {x y:Operand} {i:Nat} (hw:Region.wanted (Oper.mk none (.store t x y) ty2 ps af g) (yielded ops ts.toArray)=true)
 (hx:(Act.mk ts.toArray df).eval x=dN v (i * k)) (hy:(Act.mk ts.toArray df).eval y=c) (h:Own B k e w v es) (hi:i < es.length) (hc:c.cells.size=k) (hs:aR P t k=true) (h1:c.cells.all (·.oneCell')=true)
 (hk:∀ w',Own B k e w' v (es.set i c.cells.toList)→Mv v.ownBlock w w'→wpList P ops Q rest (Act.mk ts.toArray df) w'):wpList P ops Q (Oper.mk none (.store t x y) ty2 ps af g :: rest) (Act.mk ts.toArray df) w:=by
 obtain ⟨w',b,o,he,hr,ho,hm⟩:=h.store (P:=P) hi hc hs h1
 refine jF hw (w':=w') ?_ (hk w' ho hm)
 simp [execOp,hx,hy,he,Instr.storeAt,Instr.sureAddr,hr]
theorem fE {B e:Nat} {v c:Value} {es:List (List Value)} {t ty2:TypeId} {x y:Operand} {i:Nat} (hw:Region.wanted (Oper.mk none (.store t x y) ty2 ps af g) (yielded ops ts.toArray)=true)
 (hx:(Act.mk ts.toArray df).eval x=dN v (i * 1)) (hy:(Act.mk ts.toArray df).eval y=c) (h:Own B 1 e w v es) (hi:i < es.length) (hs:aR P t 1=true) (h1:c.oneCell'=true)
 (hk:∀ w',Own B 1 e w' v (es.set i [c])→Mv v.ownBlock w w'→wpList P ops Q rest (Act.mk ts.toArray df) w'):wpList P ops Q (Oper.mk none (.store t x y) ty2 ps af g :: rest) (Act.mk ts.toArray df) w:=by
 have hc:c.cells=#[c]:=by cases c <;> first | rfl | cases h1
 refine wS hw hx hy h hi (by rw [hc];rfl) hs (by rw [hc];simpa using h1) ?_
 rw [hc]
 exact hk
def vX (P:Program) (t e:TypeId):Bool:=(match P.underlying t with | some (.slice e')=>e' == e | _=>false) && (match P.underlying e with | some (.int .u8)=>true | _=>false)
theorem sG {t e:TypeId} (h:vX P t e=true):P.underlying t=some (.slice e)∧P.underlying e=some (.int .u8):=by
 unfold vX at h
 simp only [Bool.and_eq_true] at h
 constructor
 ·split at h
  ·rename_i e' he;have:e'=e:=by simpa using h.1
   rw [he,this]
  ·cases h.1
 ·have h2:=h.2
  split at h2
  ·assumption
  ·cases h2
theorem qD {s t e:TypeId} {d:Nat} {x:Operand} {l:List UInt8} (hw:Region.wanted (Oper.mk (some d) (.convert s t x) ty ps af g) (yielded ops ts.toArray)=true)
 (hx:(Act.mk ts.toArray df).eval x=aI l) (hs:jT P s=true) (ht:vX P t e=true) (hl:l.length≤9223372036854775807)
 (h:∀ v' w',Ext w w'→Own w.heap.size 1 e w' v' (aS l)→wpList P ops Q rest (Act.mk (ts.set d v').toArray df) w') :
 wpList P ops Q (Oper.mk (some d) (.convert s t x) ty ps af g :: rest) (Act.mk ts.toArray df) w:=by
 obtain ⟨h1,h2⟩:=sG ht
 have hr:=run_bytes_of_string (P:=P) w s t e ⟨l.toArray⟩ (fA hs) h1 h2
 unfold wpList
 rw [if_pos hw]
 refine .inl ?_
 unfold Oper.wp
 have hr':(execOp (Act.mk ts.toArray df).eval (Oper.mk (some d) (.convert s t x) ty ps af g)).run P w=.ok (.value (.slice (some ⟨w.heap.size,0,none⟩) (ByteArray.mk l.toArray).size (grownCap w (ByteArray.mk l.toArray).size 0 e)))
  (w.drew.alloc (.cells (bytesRow ⟨l.toArray⟩ (grownCap w (ByteArray.mk l.toArray).size 0 e)) e ((bytesRow ⟨l.toArray⟩ (grownCap w (ByteArray.mk l.toArray).size 0 e)).size,(bytesRow ⟨l.toArray⟩ (grownCap w (ByteArray.mk l.toArray).size 0 e)).size + 1))):=by
  simp only [execOp,hx,aI,Sem.run_bind,hr,Result.andThen_ok,Sem.run_pure]
 rw [hr']
 rw [fD]
 have hge:=grownCap_ge w l.length 0 e
 have hcm:=grownCap_le_maxLen w l.length 0 e (by unfold maxLen;omega)
 have hall:∀ x ∈ aS l,x.length=1:=by
  intro x hx
  obtain ⟨b,_,rfl⟩:=List.mem_map.1 hx
  rfl
 have hfl:=oS l
 have hsz:(bytesRow ⟨l.toArray⟩ (grownCap w l.length 0 e)).size=grownCap w l.length 0 e:=by
  simp [bytesRow,fD,-ByteArray.size_data];omega
 have ho:Own w.heap.size 1 e (w.drew.alloc (.cells (bytesRow ⟨l.toArray⟩ (grownCap w l.length 0 e)) e ((bytesRow ⟨l.toArray⟩ (grownCap w l.length 0 e)).size,(bytesRow ⟨l.toArray⟩ (grownCap w l.length 0 e)).size + 1)))
  (.slice (some ⟨w.heap.size,0,none⟩) l.length (grownCap w l.length 0 e)) (aS l):=by
  refine ⟨⟨by rw [bO hall], .inr ⟨w.heap.size,grownCap w l.length 0 e,_,_,by simp [aS],Nat.le_refl _,heap_alloc_new w.drew _, .inr (Nat.le_refl _),by simpa [aS] using hge,hcm,by rw [hsz];simp,?_⟩⟩,hall⟩
  rw [hfl]
  simp only [aS,List.length_map,Nat.mul_one,bytesRow,Array.toList_append,Array.toList_map]
  rw [List.take_append_of_le_length (by simp),List.take_of_length_le (by simp)]
 have:=h _ _ ((Ext.drew w).trans (Ext.alloc w.drew _)) ho
 simpa [Oper.upon,Act.put] using this
theorem Runs.strOf {s t e:TypeId} {m:Nat} {d:Option Nat} {l:List UInt8} (h:Sl 1 w (ts.getD m undef) (aS l)) (hs:vX P s e=true) (ht:jT P t=true) :
 Runs P (Oper.mk d (.convert s t (.tmp m)) ty ps af g) (Act.mk ts.toArray df) w (aI l):=by
 obtain ⟨h1,h2⟩:=sG hs
 obtain ⟨ad,cap,he,ha,hb,hc,hd,hf⟩:=h
 have e1:(Act.mk ts.toArray df).eval (.tmp m)=ts.getD m undef:=fP m
 constructor
 have hlen:(aS l).length=l.length:=by simp [aS]
 cases ad with
 | none =>
  have h0:=hd rfl
  have:l=[]:=List.eq_nil_of_length_eq_zero (by rw [hlen] at ha;omega)
  subst this
  have hr:=run_convert_bytes_nil (P:=P) (w:=w) s e h1 h2 0 cap t (fA ht)
  simp only [execOp,e1,he,hlen,List.length_nil,Sem.run_bind,hr,Result.andThen_ok,Sem.run_pure,aI]
  rfl
 | some a =>
  have hne:∀ j (hj:j < l.length),w.cell? (a.add j)=some (.int .u8 (l[j].toNat:Int)):=by
   intro j hj
   obtain ⟨b,o,hao,hcc⟩:=hf (by intro h;rw [h] at hlen;simp at hlen;omega)
   have:=hcc j [.int .u8 (l[j].toNat:Nat)] 0 _ (by simp [aS,hj]) rfl
   cases hao
   simpa [dW] using this
  have hr:=run_convert_bytes_back (P:=P) w s t e a cap l h1 h2 (fA ht) hne
  simp only [execOp,e1,he,hlen,Sem.run_bind,hr,Result.andThen_ok,Sem.run_pure,aI]
end
end Go.Proofs.X
set_option linter.unusedVariables false
set_option linter.unusedSimpArgs false
namespace Go.Proofs.X
open Go.RowKit
theorem HZ {α:Type} (f:α→Value):∀ l:List α,(l.map fun x=>[f x]).flatten=l.map f
 | []=>rfl
 | x :: l=>by simp [HZ f l]
theorem Own.holds {α:Type} [Inhabited α] {enc:α→Value} {B e g cap:Nat} {w:World} {xs:List α} (h:Own B 1 e w (.slice (some ⟨g,0,none⟩) xs.length cap) (xs.map fun x=>[enc x])):Sort.Holds enc w g 0 xs.toArray:=by
 rcases h.row.2 with ⟨h0,_⟩ | ⟨g',cap',cur,fz,hv,hb,hg,hfz,hnc,hcm,hcs,htake⟩
 ·cases h0
 ·simp only [Value.slice.injEq,Option.some.injEq,Addr.mk.injEq,and_true,true_and] at hv
  obtain ⟨rfl,_,rfl⟩:=hv
  rw [HZ] at htake
  simp only [List.length_map,Nat.mul_one] at htake hcs hnc
  intro j hj
  have hj':j < xs.length:=by simpa using hj
  have hjc:j < cur.size:=by omega
  constructor
  ·rw [Nat.zero_add,cell_of_row w g j cur e fz hg]
   have:=congrArg (·[j]?) htake
   simp only [List.getElem?_take,if_pos hj',List.getElem?_map,List.getElem?_eq_getElem hj',Option.map_some] at this
   rw [← Array.getElem?_toList,this]
   simp [hj']
  ·rw [Nat.zero_add];exact rD hg hfz hjc
theorem Own.putRow {α:Type} [Inhabited α] {enc:α→Value} {B e g cap:Nat} {w:World} {xs ys:List α} (h:Own B 1 e w (.slice (some ⟨g,0,none⟩) xs.length cap) (xs.map fun x=>[enc x])) (hl:ys.length=xs.length) (n:Nat) (os:Array Obj) :
 Own B 1 e (Sort.grow (Sort.putRow enc (Sort.ahead w n) g 0 ys.toArray) os) (.slice (some ⟨g,0,none⟩) xs.length cap) (ys.map fun x=>[enc x])∧Mv (some g) w (Sort.grow (Sort.putRow enc (Sort.ahead w n) g 0 ys.toArray) os):=by
 rcases h.row.2 with ⟨h0,_⟩ | ⟨g',cap',cur,fz,hv,hb,hg,hfz,hnc,hcm,hcs,htake⟩
 ·cases h0
 ·simp only [Value.slice.injEq,Option.some.injEq,Addr.mk.injEq,and_true,true_and] at hv
  obtain ⟨rfl,_,rfl⟩:=hv
  simp only [List.length_map,Nat.mul_one] at htake hcs hnc
  have hgs:g < w.heap.size:=(Array.getElem?_eq_some_iff.1 hg).1
  have hg2:(Sort.grow (Sort.putRow enc (Sort.ahead w n) g 0 ys.toArray) os).heap[g]? = some (.cells (Sort.putCells enc 0 ys.toArray cur) e fz):=by
   simp only [Sort.grow,Sort.putRow,Sort.mapBlock,Sort.ahead]
   rw [Array.getElem?_append_left (by simpa using hgs),Array.getElem?_modify,if_pos rfl,hg]
   rfl
  have hsz:(Sort.putCells enc 0 ys.toArray cur).size=cur.size:=by simp [Sort.putCells]
  refine ⟨⟨⟨by rw [HZ];simp, .inr ⟨g,cap,_,fz,by simp [hl],hb,hg2,by rw [hsz];exact hfz,by simpa [hl] using hnc,hcm,by rw [hsz];simpa using hcs,?_⟩⟩,by simp⟩,⟨rfl,rfl,rfl,?_,?_,Nat.le_add_right _ _⟩⟩
  ·rw [HZ]
   apply List.ext_getElem?
   intro j
   simp only [List.length_map,Nat.mul_one,List.getElem?_take,List.getElem?_map]
   by_cases hj:j < ys.length
   ·rw [if_pos hj,List.getElem?_eq_getElem hj]
    simp only [Sort.putCells,Array.toList_mapIdx,List.getElem?_mapIdx]
    have hjc:j < cur.toList.length:=by simp;omega
    rw [List.getElem?_eq_getElem hjc]
    simp [hj]
   ·rw [if_neg hj,List.getElem?_eq_none (by omega)];rfl
  ·simp only [Sort.grow,Sort.putRow,Sort.mapBlock,Sort.ahead,Array.size_append,Array.size_modify];omega
  ·intro k hk hne
   simp only [Sort.grow,Sort.putRow,Sort.mapBlock,Sort.ahead]
   rw [Array.getElem?_append_left (by simpa using hk),Array.getElem?_modify,if_neg (fun e=>hne (by rw [e]))]
theorem Own.short {B k e g n cap:Nat} {w:World} {es:List (List Value)} (h:Own B k e w (.slice (some ⟨g,0,none⟩) n cap) es) {m:Nat} (hm:m≤es.length):Own B k e w (.slice (some ⟨g,0,none⟩) m cap) (es.take m):=by
 rcases h.row.2 with ⟨h0,_⟩ | ⟨g',cap',cur,fz,hv,hb,hg,hfz,hnc,hcm,hcs,htake⟩
 ·cases h0
 ·simp only [Value.slice.injEq,Option.some.injEq,Addr.mk.injEq,and_true,true_and] at hv
  obtain ⟨rfl,_,rfl⟩:=hv
  have hall:∀ x ∈ es.take m,x.length=k:=fun x hx=>h.each x (List.mem_of_mem_take hx)
  have hlen:(es.take m).length=m:=by simp;omega
  refine ⟨⟨by rw [bO hall], .inr ⟨g,cap,cur,fz,by rw [hlen],hb,hg,hfz,by rw [hlen];omega,hcm,hcs,?_⟩⟩,hall⟩
  rw [hlen]
  have h1:es.flatten=(es.take m).flatten ++ (es.drop m).flatten:=by rw [← List.flatten_append,List.take_append_drop]
  have h2:(es.take m).flatten.length=m * k:=by rw [bO hall,hlen]
  have h3:m * k≤es.length * k:=Nat.mul_le_mul_right k hm
  have:cur.toList.take (m * k)=(cur.toList.take (es.length * k)).take (m * k):=by rw [List.take_take,Nat.min_eq_left h3]
  rw [this,htake,h1,← h2,List.take_left]
theorem Own.form {B k e:Nat} {w:World} {v:Value} {es:List (List Value)} (h:Own B k e w v es):(v=.slice none 0 0∧es=[])∨∃ g cap,v=.slice (some ⟨g,0,none⟩) es.length cap∧g < w.heap.size∧B≤g∧es.length≤cap∧es.length≤9223372036854775807:=by
 rcases h.row.2 with ⟨h0,h1⟩ | ⟨g,cap,cur,fz,hv,hb,hg,hfz,hnc,hcm,_⟩
 ·exact .inl ⟨h0,List.eq_nil_of_length_eq_zero h1⟩
 ·exact .inr ⟨g,cap,hv,(Array.getElem?_eq_some_iff.1 hg).1,hb,hnc,by unfold maxLen at hcm;omega⟩
end Go.Proofs.X
set_option linter.unusedVariables false
set_option linter.unusedSimpArgs false
namespace Go.Proofs.X
open Go.RowKit
section
variable {P:Program} {w:World} {a:Act} {d:Option Nat} {ty:TypeId} {ps:String} {af:Array Edge} {g:Option (Nat × Bool)}
theorem Runs.shr {t u:TypeId} {x y:Operand} {m n:Int} {k2:IntKind} (hx:a.eval x=.int .i64 m) (hy:a.eval y=.int k2 n) (h0:0≤n) (h1:n≤64) :
 Runs P (Oper.mk d (.binOp .shr t x y u) ty ps af g) a w (.int .i64 (m / 2 ^ n.toNat)):=by
 have e:min n.toNat IntKind.i64.bits=n.toNat:=by simp [IntKind.bits];omega
 constructor;simp [execOp,hx,hy,eqGuard,binOp,shift_shr_any _ _ _ _ h0,e]
theorem Runs.shl {t u:TypeId} {x y:Operand} {m n:Int} {k2:IntKind} (hx:a.eval x=.int .i64 m) (hy:a.eval y=.int k2 n) (h0:0≤n) (h1:n≤64) (h2:0≤m * 2 ^ n.toNat∧m * 2 ^ n.toNat < 9223372036854775808) :
 Runs P (Oper.mk d (.binOp .shl t x y u) ty ps af g) a w (.int .i64 (m * 2 ^ n.toNat)):=by
 have e:min n.toNat IntKind.i64.bits=n.toNat:=by simp [IntKind.bits];omega
 have e2:IntKind.i64.wrap (m * 2 ^ n.toNat)=m * 2 ^ n.toNat:=IntWalk.i64_in _ (by omega)
 constructor;simp [execOp,hx,hy,eqGuard,binOp,shift_shl_any _ _ _ _ h0,e,e2]
theorem Runs.shl8 {t u:TypeId} {x y:Operand} {m:Nat} (hx:a.eval x=.int .i64 (m:Nat)) (hy:a.eval y=.int .u64 8) (h:m * 256 < 4611686018427387904) :
 Runs P (Oper.mk d (.binOp .shl t x y u) ty ps af g) a w (.int .i64 ((m * 256:Nat):Int)):=by
 have:=Runs.shl (P:=P) (w:=w) (d:=d) (ty:=ty) (ps:=ps) (af:=af) (g:=g) (t:=t) (u:=u) hx hy (by omega) (by omega) (by simp;omega)
 have e:((m:Nat):Int) * 2 ^ (8:Int).toNat=((m * 256:Nat):Int):=by simp
 rwa [e] at this
theorem AA (x y:Nat) (hy:y < 256):(x * 256) ||| y=x * 256 + y:=by
 have:=nat_join8' (x * 256) y (by omega) hy
 rw [Nat.or_comm] at this
 exact this
theorem Runs.or8 {t u:TypeId} {x y:Operand} {m n:Nat} (hx:a.eval x=.int .i64 ((m * 256:Nat):Int)) (hy:a.eval y=.int .i64 (n:Nat)) (hn:n < 256) (hm:m * 256 < 4611686018427387904) :
 Runs P (Oper.mk d (.binOp .or t x y u) ty ps af g) a w (.int .i64 ((m * 256 + n:Nat):Int)):=by
 have e:(BitVec.ofInt 64 ((m * 256:Nat):Int) ||| BitVec.ofInt 64 (n:Int)).toNat=m * 256 + n:=by
  rw [BitVec.toNat_or,BitVec.ofInt_natCast,BitVec.ofInt_natCast,BitVec.toNat_ofNat,BitVec.toNat_ofNat,Nat.mod_eq_of_lt (by omega),Nat.mod_eq_of_lt (by omega),AA m n hn]
 have e2:IntKind.i64.wrap ((m * 256 + n:Nat):Int)=((m * 256 + n:Nat):Int):=IntWalk.i64_in _ (by omega)
 constructor
 have hb:(Op.intBits .or .i64 ((m * 256:Nat):Int) (n:Nat))=Sem.pure (.int .i64 ((m * 256 + n:Nat):Int)):=by
  show Sem.pure (Value.int .i64 (IntKind.i64.wrap ((BitVec.ofInt 64 ((m * 256:Nat):Int) ||| BitVec.ofInt 64 (n:Int)).toNat:Nat)))=_
  rw [e,e2]
 simp only [execOp,hx,hy,eqGuard,binOp,hb,Sem.run_bind,Sem.run_pure,Result.andThen_ok]
 simp [Sem.run]
end
end Go.Proofs.X
set_option linter.unusedVariables false
set_option linter.unusedSimpArgs false
namespace Go.Proofs.X
open Go.RowKit
def LD (P:Program) (t n:TypeId):Bool:=match P.underlying t with | some (.array m e)=>m == n && jX P e && (match P.info? e with | some i=>i.size == 1 | none=>false) | _=>false
theorem GL {P:Program} {t n:Nat} (h:LD P t n=true):∃ e i,P.underlying t=some (.array n e)∧jX P e=true∧P.info? e=some i∧i.size=1:=by
 unfold LD at h
 split at h
 ·rename_i m e he
  simp only [Bool.and_eq_true] at h
  obtain ⟨⟨h1,h2⟩,h3⟩:=h
  have:m=n:=by simpa using h1
  subst this
  split at h3
  ·rename_i i hi
   exact ⟨e,i,he,h2,hi,by simpa using h3⟩
  ·cases h3
 ·cases h
section
variable {P:Program} {ops:Array Oper} {Q:Exit→Act→World→Prop} {w:World} {rest:List Oper} {a:Act} {ts:List Value} {df:List Deferred} {d:Option Nat} {ty:TypeId} {ps:String} {af:Array Edge} {g:Option (Nat × Bool)} {tys:Array TypeId}
theorem Runs.build {t:TypeId} {parts:List (Nat × Operand)} {vals:List (Nat × Value)} {cells:Array Value} (hx:parts.map (fun p=>(p.1,(Act.mk ts.toArray df).eval p.2))=vals) (h:P.built t vals=some cells) :
 Runs P (Oper.mk d (.build t parts.toArray) ty ps af g) (Act.mk ts.toArray df) w (.agg cells):=by
 have hr:=run_build (P:=P) w t vals.toArray cells (by simpa using h)
 constructor
 simp only [execOp,List.map_toArray,hx,Sem.run_bind,hr,Result.andThen_ok,Sem.run_pure]
theorem Runs.idxA {t n:TypeId} {m i:Nat} {x:Nat} {cs:Array Value} {v:Value} (hx:ts.getD x undef=.agg cs) (hi:ts.getD m undef=.int .i64 (i:Nat)) (hv:cs[i]? = some v) (hn:i < n) (ht:LD P t n=true) :
 Runs P (Oper.mk d (.index t (.tmp x) (.tmp m)) ty ps af g) (Act.mk ts.toArray df) w v:=by
 obtain ⟨e,ie,hu,hp,hie,hsz⟩:=GL ht
 obtain ⟨u,hu2,hn2⟩:=nE hp
 have e1:(Act.mk ts.toArray df).eval (.tmp x)=.agg cs:=by rw [fP];exact hx
 have e2:(Act.mk ts.toArray df).eval (.tmp m)=.int .i64 (i:Nat):=by rw [fP];exact hi
 constructor
 simp only [execOp,e1,e2,Instr.index,asIntOf,Sem.run_bind,Sem.run_pure,Result.andThen_ok,run_underlying hu]
 rw [if_pos (by omega)]
 simp [sizeOf,typeInfo,hie,hsz,part,wM hu2 hn2,Sem.run_bind,hv]
theorem fL {f:FuncId} {m d:Nat} {caps:Array Value} {xs:List Operand} {vs:List Value} {R:Ending→World→Prop} (he:Enters P f) (hw:Region.wanted (Oper.mk (some d) (.call ⟨.value (.tmp m),xs.toArray,tys⟩) ty ps af g) (yielded ops ts.toArray)=true)
 (hm:ts.getD m undef=.func (.func f) #[] caps) (hxs:xs.map (Act.mk ts.toArray df).eval=vs) (hc:Calls P f (vs.toArray ++ caps) w R) (h:∀ e w',R e w'→∃ v,e=.returned v∧wpList P ops Q rest (Act.mk (ts.set d v).toArray df) w') :
 wpList P ops Q (Oper.mk (some d) (.call ⟨.value (.tmp m),xs.toArray,tys⟩) ty ps af g :: rest) (Act.mk ts.toArray df) w:=by
 subst hxs
 unfold wpList
 rw [if_pos hw]
 refine .inl ?_
 unfold Oper.wp
 have e1:(Act.mk ts.toArray df).eval (.tmp m)=.func (.func f) #[] caps:=by rw [fP];exact hm
 have hr:(execOp (Act.mk ts.toArray df).eval (Oper.mk (some d) (.call ⟨.value (.tmp m),xs.toArray,tys⟩) ty ps af g)).run P w=.ok (.enter f ((xs.map (Act.mk ts.toArray df).eval).toArray ++ caps)) w:=by
  have h1:=he ((xs.map (Act.mk ts.toArray df).eval).toArray ++ caps) w
  simpa [execOp,resolve,e1,Deferred.ofValue,invoke] using h1
 rw [hr]
 refine hc.mono fun e w' h' => ?_
 obtain ⟨v,rfl,hk⟩:=h e w' h'
 simpa [Act.put] using hk
theorem aU {fn:Func} {p q:Tmp} {t:TypeId} (h:fn.results=#[.cell p t, .tmp q]) {b:Nat} {cs:List Value} {ty0:TypeId} {fr:Nat × Nat} (hp:ts.getD p undef=.pointer (some ⟨b,0,none⟩)) (hb:w.heap[b]? = some (.cells cs.toArray ty0 fr)) (ht:cP P t cs.length=true) :
 (results fn ts.toArray).run P w=.ok (.tuple #[.agg cs.toArray,ts.getD q undef]) w:=by
 obtain ⟨u,ie,hu,hn,hie,hz⟩:=nF ht
 have hl:=run_loadCells_list (P:=P) w ⟨b,0,none⟩ cs (fun j v hv=>by rw [dW,Nat.zero_add,cell_of_row w b j _ _ _ hb];simpa using hv)
 have hp':ts[p]?.getD undef=.pointer (some ⟨b,0,none⟩):=by simpa using hp
 rw [results_cell_tmp h]
 simp [hp',asAddr,loadVar,Sem.run_bind,mM hu hn,sizeOf,typeInfo,hie,hz,hl,Result.andThen]
theorem bH {fn:Func} {p:Tmp} {t:TypeId} (h:fn.results=#[.cell p t]) {b:Nat} {cs:List Value} {ty0:TypeId} {fr:Nat × Nat} (hp:ts.getD p undef=.pointer (some ⟨b,0,none⟩)) (hb:w.heap[b]? = some (.cells cs.toArray ty0 fr)) (ht:cP P t cs.length=true) :
 (results fn ts.toArray).run P w=.ok (.agg cs.toArray) w:=by
 obtain ⟨u,ie,hu,hn,hie,hz⟩:=nF ht
 have hl:=run_loadCells_list (P:=P) w ⟨b,0,none⟩ cs (fun j v hv=>by rw [dW,Nat.zero_add,cell_of_row w b j _ _ _ hb];simpa using hv)
 have hp':ts[p]?.getD undef=.pointer (some ⟨b,0,none⟩):=by simpa using hp
 simp [results,h,hp',asAddr,loadVar,Sem.run_bind,mM hu hn,sizeOf,typeInfo,hie,hz,hl,Result.andThen]
end
end Go.Proofs.X
set_option linter.unusedVariables false
set_option linter.unusedSimpArgs false
namespace Go.Proofs.X
open Go.RowKit
section
variable {P:Program} {w:World}
theorem BY {base:Nat} {t ty e:TypeId} {i:TypeInfo} {z:Value} {size bytes:Nat} (ht:P.underlying t=some (.slice e)) (hi:P.info? e=some i) (hz:i.zero=some z)
 (hsize:i.size=size) (hby:i.bytes=bytes) (hzs:z.cells.size=size) (hsz:0 < size)
 {v:Value} {n:Nat} {xs:List Value} (hown:w.ownsRow base e size v n xs)
 {a:Addr} {m c:Nat} {news:List Value} (hl:news.length=m * size) (hnews:∀ j u,news[j]? = some u→w.cell? (a.add j)=some u) (h1:∀ u ∈ news,u.oneCell'=true)
 (h63:n + m≤maxLen) (hbytes:(n + m) * bytes≤140737488355328) (hbase:base≤w.heap.size) {v':Value} {w':World}
 (hr:(Builtin.append_ #[t,t] ty #[v, .slice (some a) m c]).run P w=.ok v' w'):w.drawn≤w'.drawn:=by
 obtain ⟨v2,w2,hr2,_,hm,_⟩:=sD (P:=P) w base t ty e i z size bytes ht hi hz hsize hby hzs hsz v n xs (lT hown) a m c news hl hnews h1 h63 hbytes hbase
 rw [hr] at hr2
 cases hr2
 exact hm.drawn
theorem qQ {base:Nat} {t u ty e:TypeId} {i:TypeInfo} (ht:P.underlying t=some (.slice e)) (hu:P.underlying u=some .string) (hi:P.info? e=some i) (hz:i.zero=some (.int .u8 0))
 (hsize:i.size=1) (hby:i.bytes=1) {v:Value} {n:Nat} {xs:List Value} (hown:w.ownsRow base e 1 v n xs) {s:ByteArray}
 (h63:n + s.size≤maxLen) (hbytes:n + s.size≤140737488355328) {v':Value} {w':World}
 (hr:(Builtin.append_ #[t,u] ty #[v, .string s]).run P w=.ok v' w'):w.drawn≤w'.drawn:=by
 have h63:n + s.size≤9223372036854775807:=by simp only [maxLen] at h63;omega
 have hxl:xs.length=n:=by simpa using hown.1
 rcases hown.2 with ⟨rfl,rfl⟩ | ⟨g,cap,cur,rfl,hbg,hg,hnc,hcm,hcs,htake⟩
 ·by_cases hm:s.size=0
  ·have hf:=Lib.run_firstCells_string (P:=P) w 1 s
   rw [hm] at hf
   have hn:Lib.strCells s=[]:=List.eq_nil_of_length_eq_zero (by rw [Lib.strCells_length];exact hm)
   have h2:(Builtin.append_ #[t,u] ty #[.slice none 0 0, .string s]).run P w=.ok (.slice none 0 0) w:=by
    simp [Builtin.append_,run_underlying ht,run_underlying hu,sizeOf,typeInfo,hi,hsize,Builtin.lenOf,hm,hf]
   rw [h2] at hr
   cases hr
   exact Nat.le_refl _
  ·have h2:=run_append_nil_string (P:=P) w t u ty e i (.int .u8 0) ht hu hi hz s (by omega) (by omega) (by rw [hby];omega)
   rw [h2] at hr
   cases hr
   exact Nat.le_succ _
 ·by_cases hroom:n + s.size≤cap
  ·have hcz:cur.size=cap:=by simpa using hcs
   have h2:=Lib.run_append_room_string (P:=P) w t u ty e i ht hu hi hsize g n cap cur hg s hroom (by omega)
   rw [h2] at hr
   cases hr
   exact Nat.le_refl _
  ·have h2:=Lib.run_append_grow_string (P:=P) w t u ty e i (.int .u8 0) ht hu hi hz ⟨g,0,none⟩ n cap xs (by rw [hsize];simpa using hxl) (hown.cells (g:=g) rfl) s (by omega) (by omega) (by rw [hby];exact growslice_fits (by omega) (by omega))
   rw [h2] at hr
   cases hr
   exact Nat.le_succ _
variable {ops:Array Oper} {rest:List Oper} {o:Oper} {act:Act} {Q:Exit→Act→World→Prop}
theorem GM (hgd:o.guard=none) (s x:Operand) (t:TypeId)
 (ho:o.op=.call { callee:=.builtin .append,args:=#[s,x],argTypes:=#[t,t] })
 (base:Nat) (e:TypeId) (i:TypeInfo) (z:Value) (size bytes:Nat) (ht:P.underlying t=some (.slice e)) (hi:P.info? e=some i) (hz:i.zero=some z)
 (hsize:i.size=size) (hby:i.bytes=bytes) (hzs:z.cells.size=size) (hsz:0 < size)
 (v:Value) (n:Nat) (xs:List Value) (hs:act.eval s=v) (hown:w.ownsRow base e size v n xs)
 (ad:Addr) (m c:Nat) (news:List Value) (hx:act.eval x=.slice (some ad) m c) (hl:news.length=m * size) (hnews:∀ j u,news[j]? = some u→w.cell? (ad.add j)=some u) (h1:∀ u ∈ news,u.oneCell'=true)
 (h63:n + m≤maxLen) (hbytes:(n + m) * bytes≤140737488355328) (hbase:base≤w.heap.size)
 (h:∀ v' w',w'.ownsRow base e size v' (n + m) (xs ++ news)→w.grownBy w' v.ownBlock→w.drawn≤w'.drawn→wpList P ops Q rest (act.put o.dst v') w'):wpList P ops Q (o :: rest) act w:=by
 refine wpList_plain hgd fun K hK => ?_
 obtain ⟨v',w',hr,h2,h3,h4⟩:=run_append_own (P:=P) w base t o.type e i z size bytes ht hi hz hsize hby hzs hsz v n xs hown ad m c news hl hnews h1 h63 hbytes hbase
 have hd:=BY ht hi hz hsize hby hzs hsz hown hl hnews h1 h63 hbytes hbase hr
 unfold Oper.wp execOp
 simp only [ho,resolve,invoke,builtin,Sem.run_bind,Sem.run_pure,Result.andThen_ok,List.map_toArray,List.map_cons,List.map_nil,hs,hx,hr]
 exact hK _ _ (h v' w' h2 h3 hd)
theorem DP (hgd:o.guard=none) (sl x:Operand) (t u:TypeId)
 (ho:o.op=.call { callee:=.builtin .append,args:=#[sl,x],argTypes:=#[t,u] })
 (base:Nat) (e:TypeId) (i:TypeInfo) (ht:P.underlying t=some (.slice e)) (hu:P.underlying u=some .string) (hi:P.info? e=some i) (hz:i.zero=some (.int .u8 0))
 (hsize:i.size=1) (hby:i.bytes=1)
 (v:Value) (n:Nat) (xs:List Value) (hs:act.eval sl=v) (hown:w.ownsRow base e 1 v n xs) (s:ByteArray) (hx:act.eval x=.string s)
 (h63:n + s.size≤maxLen) (hbytes:n + s.size≤140737488355328) (hbase:base≤w.heap.size)
 (h:∀ v' w',w'.ownsRow base e 1 v' (n + s.size) (xs ++ Lib.strCells s)→w.grownBy w' v.ownBlock→w.drawn≤w'.drawn→wpList P ops Q rest (act.put o.dst v') w'):wpList P ops Q (o :: rest) act w:=by
 refine wpList_plain hgd fun K hK => ?_
 obtain ⟨v',w',hr,h2,h3,h4⟩:=Lib.run_append_own_string (P:=P) w base t u o.type e i ht hu hi hz hsize hby v n xs hown s h63 hbytes hbase
 have hd:=qQ ht hu hi hz hsize hby hown h63 hbytes hr
 unfold Oper.wp execOp
 simp only [ho,resolve,invoke,builtin,Sem.run_bind,Sem.run_pure,Result.andThen_ok,List.map_toArray,List.map_cons,List.map_nil,hs,hx,hr]
 exact hK _ _ (h v' w' h2 h3 hd)
end
theorem Ext.grown {w w':World} (h:Ext w w'):∃ q os,w'=Sort.grow (w.drewN q) os:=by
 refine ⟨w'.drawn - w.drawn,w'.heap.extract w.heap.size w'.heap.size,?_⟩
 have hd:=h.drawn
 have hs:=h.size
 have hh:w'.heap=w.heap ++ w'.heap.extract w.heap.size w'.heap.size:=by
  apply Array.ext_getElem?
  intro k
  rw [Array.getElem?_append]
  split
  ·rename_i hk;exact h.block k hk
  ·rename_i hk
   rw [Array.getElem?_extract]
   split
   ·congr 1;omega
   ·rw [Array.getElem?_eq_none];omega
 have h1:=h.os
 have h2:=h.tape
 have h3:=h.output
 cases w;cases w'
 simp only [Sort.grow,World.drewN,World.mk.injEq] at *
 subst h1 h2 h3
 exact ⟨hh,rfl,by omega,rfl,rfl⟩
end Go.Proofs.X
set_option linter.unusedVariables false
set_option linter.unusedSimpArgs false
namespace Go.Proofs.X
open Go.RowKit
section
variable {P:Program} {w:World} {ts:List Value} {df:List Deferred} {d:Option Nat} {ty:TypeId} {ps:String} {af:Array Edge} {g:Option (Nat × Bool)}
theorem Runs.nilP {x:Nat} {a:Addr} (h:ts.getD x undef=.pointer (some a)):Runs P (Oper.mk d (.nilCheck (.tmp x)) ty ps af g) (Act.mk ts.toArray df) w (ts.getD x undef):=by
 constructor
 simp only [execOp,fP,h]
 rfl
theorem Runs.nilPts {x:Nat} {vs:List Value} (h:Pts w (ts.getD x undef) vs):Runs P (Oper.mk d (.nilCheck (.tmp x)) ty ps af g) (Act.mk ts.toArray df) w (ts.getD x undef):=by
 obtain ⟨b,o,h1,_⟩:=h
 exact Runs.nilP h1
theorem Runs.minI {t u:TypeId} {x y:Operand} {m n:Int} (hx:(Act.mk ts.toArray df).eval x=.int .i64 m) (hy:(Act.mk ts.toArray df).eval y=.int .i64 n) :
 Runs P (Oper.mk d (.call ⟨.builtin .min,#[x,y],#[t,u]⟩) ty ps af g) (Act.mk ts.toArray df) w (.int .i64 (min m n)):=by
 constructor
 have e:(if n < m then n else m)=min m n:=by rw [Int.min_def];split <;> split <;> omega
 simp [execOp,resolve,invoke,builtin,hx,hy,run_min_int2,e]
end
section
variable {P:Program} {ops:Array Oper} {Q:Exit→Act→World→Prop} {w w':World} {rest:List Oper} {ts:List Value} {df:List Deferred} {d:Nat} {op:Op} {ty:TypeId} {ps:String} {af:Array Edge} {g:Option (Nat × Bool)}
theorem sH {v:Value} (hw:Region.wanted (Oper.mk (some d) op ty ps af g) (yielded ops ts.toArray)=true) (hr:(execOp (Act.mk ts.toArray df).eval (Oper.mk (some d) op ty ps af g)).run P w=.ok (.value v) w')
 (h:wpList P ops Q rest (Act.mk (ts.set d v).toArray df) w'):wpList P ops Q (Oper.mk (some d) op ty ps af g :: rest) (Act.mk ts.toArray df) w:=by
 unfold wpList
 rw [if_pos hw]
 refine .inl ?_
 unfold Oper.wp
 rw [hr]
 simpa [Oper.upon,Act.put] using h
end
section
variable {P:Program} {ops:Array Oper} {Q:Exit→Act→World→Prop} {w:World} {rest:List Oper} {ts:List Value} {df:List Deferred} {d:Nat} {op:Op} {ty:TypeId} {ps:String} {af:Array Edge} {j e:Nat} {want b:Bool}
theorem rF (h1:(ops[j]?).bind (·.dst)=some e) (h2:ts.getD e undef=.bool b):yielded ops ts.toArray j=some b:=by
 unfold yielded
 rw [h1]
 have:ts[e]? = some (.bool b):=by
  rw [List.getD_eq_getElem?_getD] at h2
  cases h:ts[e]? with
  | none=>rw [h] at h2;cases h2
  | some v=>rw [h] at h2;exact congrArg some h2
 simp [this]
theorem wT {o:Option Nat} (h1:(ops[j]?).bind (·.dst)=some e) (h2:ts.getD e undef=.bool b) (h3:b=want):Region.wanted (Oper.mk o op ty ps af (some (j,want))) (yielded ops ts.toArray)=true:=by
 simp [Region.wanted,rF h1 h2,h3]
theorem AC {o:Option Nat} (h1:(ops[j]?).bind (·.dst)=some e) (h2:ts.getD e undef=.bool b) (h3:b = !want):Region.wanted (Oper.mk o op ty ps af (some (j,want))) (yielded ops ts.toArray)=false:=by
 simp [Region.wanted,rF h1 h2,h3]
theorem aT {v:Value} (hr:Runs P (Oper.mk (some d) op ty ps af none) (Act.mk ts.toArray df) w v)
 (h:wpList P ops Q rest (Act.mk (ts.set d v).toArray df) w):wpList P ops Q (Oper.mk (some d) op ty ps af none :: rest) (Act.mk ts.toArray df) w:=cH rfl hr h
theorem JG (h1:(ops[j]?).bind (·.dst)=some e) (h2:ts.getD e undef=.bool b) (h3:b = !want)
 (h:wpList P ops Q rest (Act.mk (ts.set d undef).toArray df) w):wpList P ops Q (Oper.mk (some d) op ty ps af (some (j,want)) :: rest) (Act.mk ts.toArray df) w:=DI (AC h1 h2 h3) h
theorem rG {o:Option Nat} (h1:(ops[j]?).bind (·.dst)=some e) (h2:ts.getD e undef=.bool b)
 (h3:b=want→wpList P ops Q (Oper.mk o op ty ps af none :: rest) (Act.mk ts.toArray df) w) (h4:b = !want→wpList P ops Q rest ((Act.mk ts.toArray df).put o undef) w) :
 wpList P ops Q (Oper.mk o op ty ps af (some (j,want)) :: rest) (Act.mk ts.toArray df) w:=zZ (rF h1 h2) h3 h4
inductive GV (ops:Array Oper) (ts:List Value) (j:Nat) (K:Bool→Prop):Prop
 | mk {e:Nat} {b:Bool} (h1:(ops[j]?).bind (·.dst)=some e) (h2:ts.getD e undef=.bool b) (h3:K b):GV ops ts j K
inductive GU (ops:Array Oper) (ts:List Value) (j:Nat):Prop
 | mk {e:Nat} (h1:(ops[j]?).bind (·.dst)=some e) (h2:ts.getD e undef=undef):GU ops ts j
theorem AD {o:Option Nat} (h:GU ops ts j):Region.wanted (Oper.mk o op ty ps af (some (j,want))) (yielded ops ts.toArray)=false:=by
 obtain ⟨h1,h2⟩:=h
 rename_i e
 have:yielded ops ts.toArray j=none:=by
  unfold yielded
  rw [h1]
  cases h:ts[e]? with
  | none=>simp [h]
  | some v =>
   rw [List.getD_eq_getElem?_getD,h] at h2
   have:v=undef:=h2
   subst this
   simp [h,undef]
 simp [Region.wanted,this]
theorem RG (h:GU ops ts j) (h2:wpList P ops Q rest (Act.mk (ts.set d undef).toArray df) w):wpList P ops Q (Oper.mk (some d) op ty ps af (some (j,want)) :: rest) (Act.mk ts.toArray df) w :=
 DI (AD h) h2
theorem RH (h:GV ops ts j fun b=>(b=want→wpList P ops Q (Oper.mk (some d) op ty ps af none :: rest) (Act.mk ts.toArray df) w)∧(b = !want→wpList P ops Q rest (Act.mk (ts.set d undef).toArray df) w)) :
 wpList P ops Q (Oper.mk (some d) op ty ps af (some (j,want)) :: rest) (Act.mk ts.toArray df) w:=by
 obtain ⟨g1,g2,g3,g4⟩:=h
 exact rG g1 g2 g3 (fun h=>by simpa [Act.put] using g4 h)
theorem LE (h:GV ops ts j fun b=>(b=want→wpList P ops Q (Oper.mk none op ty ps af none :: rest) (Act.mk ts.toArray df) w)∧(b = !want→wpList P ops Q rest (Act.mk ts.toArray df) w)) :
 wpList P ops Q (Oper.mk none op ty ps af (some (j,want)) :: rest) (Act.mk ts.toArray df) w:=by
 obtain ⟨g1,g2,g3,g4⟩:=h
 exact rG g1 g2 g3 (fun h=>by simpa [Act.put] using g4 h)
theorem sI {C:World→Prop} {QQ:Act→Prop} {v:Value} (hr:∀ w,C w→Runs P (Oper.mk (some d) op ty ps af none) (Act.mk ts.toArray df) w v)
 (h:wpQuiet P ops C QQ rest (Act.mk (ts.set d v).toArray df)):wpQuiet P ops C QQ (Oper.mk (some d) op ty ps af none :: rest) (Act.mk ts.toArray df):=vW rfl hr h
theorem LF {C:World→Prop} {QQ:Act→Prop} {v:Value} (h1:(ops[j]?).bind (·.dst)=some e) (h2:ts.getD e undef=.bool b) (h3:b=want) (hr:∀ w,C w→Runs P (Oper.mk (some d) op ty ps af (some (j,want))) (Act.mk ts.toArray df) w v)
 (h:wpQuiet P ops C QQ rest (Act.mk (ts.set d v).toArray df)):wpQuiet P ops C QQ (Oper.mk (some d) op ty ps af (some (j,want)) :: rest) (Act.mk ts.toArray df):=vW (wT h1 h2 h3) hr h
theorem AE {C:World→Prop} {QQ:Act→Prop} (h1:(ops[j]?).bind (·.dst)=some e) (h2:ts.getD e undef=.bool b) (h3:b = !want)
 (h:wpQuiet P ops C QQ rest (Act.mk (ts.set d undef).toArray df)):wpQuiet P ops C QQ (Oper.mk (some d) op ty ps af (some (j,want)) :: rest) (Act.mk ts.toArray df):=DJ (AC h1 h2 h3) h
end
def oM (Q:Exit→Act→World→Prop) (K:Act→World→Prop):Exit→Act→World→Prop
 | .normal=>K
 | e=>Q e
section
variable {P:Program} {Q:Exit→Act→World→Prop} {S:World→Prop} {l:List Oper} {ts:List Value} {df:List Deferred} {d:Nat} {ty:TypeId} {ps:String} {af:Array Edge} {g:Option (Nat × Bool)} {w:World} {fuel:Nat} {listed:List Bool} {id:Nat}
theorem dO {ops:Array Oper} {i:Nat} {o:Oper} {K:Act→World→Prop} {a:Act} (hi:ops[i]? = some o) (h:wpList P ops (oM Q K) [o] a w):wpOp P ops Q i K a w:=by
 unfold wpOp
 rw [hi]
 unfold wpList at h
 by_cases hw:Region.wanted o (yielded ops a.tmps)=true
 ·rw [if_pos hw] at h
  show (if Region.wanted o (yielded ops a.tmps)=true then o.wp P a w K Q∨(o.asks P a w∧LetsOut Q) else K (a.put o.dst undef) w)
  rw [if_pos hw]
  rcases h with h | h
  ·left
   unfold Oper.wp at *
   generalize (execOp a.eval o).run P w=r at *
   cases r with
   | ok n w' =>
    cases n <;> first | exact h | skip
    all_goals simp only [Oper.upon,wpList,oM] at h ⊢
    all_goals first | exact h | exact h.elim | (refine Calls.mono h ?_;intro e w'' he;cases e <;> exact he) | skip
   | halt x w'=>cases x <;> exact h
  ·exact .inr h
 ·rw [if_neg hw] at h
  show (if Region.wanted o (yielded ops a.tmps)=true then o.wp P a w K Q∨(o.asks P a w∧LetsOut Q) else K (a.put o.dst undef) w)
  rw [if_neg hw]
  exact h
theorem dS {a:Act} (S:World→Prop) (hm:P.follows .mixedOrders=true)
 (h:∀ w1,Ext w w1→w1.heap=w.heap→wpAnyH P .any l.toArray Q S l.length (List.replicate l.length false).toArray a w1):(Code.region id l.toArray true).wp P Q a w:=by
 refine wp_region_held (S:=S) hm ?_
 have:=h { w with drawn:=w.drawn + 1 } (Ext.drew w) rfl
 simpa using this
theorem cO {fuel2:Nat} {i:Nat} {op:Op} {v:Value} (hi:l[i]? = some (Oper.mk (some d) op ty ps af g)) (hfu:fuel2=fuel + 1) (hs:Region.noSelect l.toArray=true) (hf:Region.free .any l.toArray listed.toArray i=true) (hr:(Region.ready .any l.toArray listed.toArray).contains i=true)
 (hw:Region.wanted (Oper.mk (some d) op ty ps af g) (yielded l.toArray ts.toArray)=true) (hS:S w)
 (hy:∀ w',S w'→Runs P (Oper.mk (some d) op ty ps af g) (Act.mk ts.toArray df) w' v) (hQ:∀ c a w,Q (.panic c) (a.put (some d) v) w→Q (.panic c) a w)
 (h:wpAnyH P .any l.toArray Q S fuel (listed.set i true).toArray (Act.mk (ts.set d v).toArray df) w):wpAnyH P .any l.toArray Q S fuel2 listed.toArray (Act.mk ts.toArray df) w:=by
 subst hfu
 refine wpAnyH_take (i:=i) (oi:=Oper.mk (some d) op ty ps af g) (v:=v) (by simpa using hi) hs hf hr hQ (.inl ⟨hw,fun w' hw'=>(hy w' hw').run⟩) hS ?_
 simpa [Act.put] using h
theorem LG {fuel2:Nat} {i:Nat} {op:Op} (hi:l[i]? = some (Oper.mk (some d) op ty ps af g)) (hfu:fuel2=fuel + 1) (hs:Region.noSelect l.toArray=true) (hf:Region.free .any l.toArray listed.toArray i=true) (hr:(Region.ready .any l.toArray listed.toArray).contains i=true)
 (hQ:∀ c a w,Q (.panic c) (a.put (some d) undef) w→Q (.panic c) a w) (hw:Region.wanted (Oper.mk (some d) op ty ps af g) (yielded l.toArray ts.toArray)=false) (hS:S w)
 (h:wpAnyH P .any l.toArray Q S fuel (listed.set i true).toArray (Act.mk (ts.set d undef).toArray df) w):wpAnyH P .any l.toArray Q S fuel2 listed.toArray (Act.mk ts.toArray df) w:=by
 subst hfu
 refine wpAnyH_take (i:=i) (oi:=Oper.mk (some d) op ty ps af g) (v:=undef) (by simpa using hi) hs hf hr hQ (.inr ⟨hw,rfl⟩) hS ?_
 simpa [Act.put] using h
theorem cA {fuel2:Nat} {i:Nat} {o:Oper} {a:Act} (hr:Region.ready .any l.toArray listed.toArray=[i]) (hi:l[i]? = some o) (hfu:fuel2=fuel + 1)
 (h:wpList P l.toArray (oM Q fun a' w'=>S w'∧wpAnyH P .any l.toArray Q S fuel (listed.set i true).toArray a' w') [o] a w):wpAnyH P .any l.toArray Q S fuel2 listed.toArray a w:=by
 subst hfu
 refine wpAnyH_all hr (by simp) fun j hj => ?_
 have:j=i:=by simpa using hj
 subst this
 refine dO (o:=o) (by simpa using hi) ?_
 simpa using h
theorem qE {fuel2:Nat} {i j:Nat} {o o':Oper} {a:Act} (hr:Region.ready .any l.toArray listed.toArray=[i,j]) (hi:l[i]? = some o) (hj:l[j]? = some o') (hfu:fuel2=fuel + 1)
 (h1:wpList P l.toArray (oM Q fun a' w'=>S w'∧wpAnyH P .any l.toArray Q S fuel (listed.set i true).toArray a' w') [o] a w)
 (h2:wpList P l.toArray (oM Q fun a' w'=>S w'∧wpAnyH P .any l.toArray Q S fuel (listed.set j true).toArray a' w') [o'] a w):wpAnyH P .any l.toArray Q S fuel2 listed.toArray a w:=by
 subst hfu
 refine wpAnyH_all hr (by simp) fun k hk => ?_
 have:k=i∨k=j:=by simpa using hk
 rcases this with rfl | rfl
 ·refine dO (o:=o) (by simpa using hi) ?_
  simpa using h1
 ·refine dO (o:=o') (by simpa using hj) ?_
  simpa using h2
theorem aJ {ops:Array Oper} {K:Act→World→Prop} {a:Act} (h:K a w):wpList P ops (oM Q K) [] a w:=h
theorem dK {a:Act} (hr:Region.ready .any l.toArray listed.toArray=[]) (h:Q .normal a w):wpAnyH P .any l.toArray Q S fuel listed.toArray a w:=wpAnyH_done hr h _
end
end Go.Proofs.X
set_option linter.unusedVariables false
set_option linter.unusedSimpArgs false
namespace Go.Proofs.X
open Go.RowKit
section
variable {P:Program} {w:World} {ts:List Value} {df:List Deferred} {d:Option Nat} {ty:TypeId} {ps:String} {af:Array Edge} {g:Option (Nat × Bool)}
def DQ:Value→Bool | .slice a _ _=>a.isNone | _=>false
theorem Runs.nilS {x:Nat} {t u:TypeId} {k:Nat} {es:List (List Value)} (h:Sl k w (ts.getD x undef) es) (ht:fC P t k=true) :
 Runs P (Oper.mk d (.binOp .eql t (.tmp x) (.const (.slice none 0 0)) u) ty ps af g) (Act.mk ts.toArray df) w (.bool (DQ (ts.getD x undef))):=by
 obtain ⟨a,cap,h1,_⟩:=h
 obtain ⟨e,i,ht,_⟩:=eT ht
 constructor
 have e1:(Act.mk ts.toArray df).eval (.tmp x)=.slice a es.length cap:=by rw [fP];exact h1
 have e2:(Act.mk ts.toArray df).eval (.const (.slice none 0 0))=.slice none 0 0:=rfl
 simp only [execOp,e1,e2,eqGuard,h1,DQ]
 have:=run_equal_slice_nil (P:=P) (w:=w) t e a es.length cap ht
 simp [binOp,this]
end
theorem Sl.isNil {k:Nat} {w:World} {v:Value} {es:List (List Value)} (h:Sl k w v es) (hn:X.DQ v=true):es=[]:=by
 obtain ⟨a,cap,rfl,h2,h3,h4,h5,_⟩:=h
 cases a with
 | none=>exact List.eq_nil_of_length_eq_zero (by have:=h5 rfl;omega)
 | some a=>simp [X.DQ] at hn
theorem rH {P:Program} {ops:Array Oper} {Q:Exit→Act→World→Prop} {w:World} {rest:List Oper} {ts:List Value} {df:List Deferred} {ty:TypeId} {ps:String} {af:Array Edge} {g:Option (Nat × Bool)} {t e k d bytes:Nat} (ht:lU P t e k bytes=true)
 (hw:Region.wanted (Oper.mk (some d) (.buildSlice t 0 #[]) ty ps af g) (yielded ops ts.toArray)=true)
 (h:∀ v' w',Ext w w'→w'.heap.size=w.heap.size + 1→Own w.heap.size k e w' v' []→wpList P ops Q rest (Act.mk (ts.set d v').toArray df) w') :
 wpList P ops Q (Oper.mk (some d) (.buildSlice t 0 #[]) ty ps af g :: rest) (Act.mk ts.toArray df) w :=
 bN (k:=k) (e:=e) (bytes:=bytes) (xs:=[]) (parts:=[]) hw rfl rfl (by simp) ht (by simp) fun v' w' x s _ o=>h v' w' x s o
theorem Sl.one {k:Nat} {w:World} {v:Value} {es:List (List Value)} (h:Sl k w v es):v.oneCell'=true:=by
 obtain ⟨a,cap,rfl,_⟩:=h
 rfl
theorem eR {a b c d:Value} (h1:a.oneCell'=true) (h2:b.oneCell'=true) (h3:c.oneCell'=true) (h4:d.oneCell'=true):(Value.agg #[a,b,c,d]).cells.all (·.oneCell')=true:=by simp [Value.cells,h1,h2,h3,h4]
theorem Sl.nil (k:Nat) (w:World):Sl k w (.slice none 0 0) []:=⟨none,0,rfl,Nat.le_refl _,by omega,by simp,fun _=>rfl,fun h=>absurd rfl h⟩
end Go.Proofs.X
set_option linter.unusedVariables false
set_option linter.unusedSimpArgs false
namespace Go.Proofs.X
open Go.RowKit
theorem GN {α:Type} (cs:List α) (n:Nat) (v:α) (h:n < cs.length):cs.set n v=cs.take n ++ [v] ++ cs.drop (n + 1):=by
 rw [List.set_eq_take_append_cons_drop,if_pos h];simp
section
variable {P:Program} {ops:Array Oper} {Q:Exit→Act→World→Prop} {w:World} {rest:List Oper} {ts:List Value} {df:List Deferred} {ty:TypeId} {ps:String} {af:Array Edge} {g:Option (Nat × Bool)}
theorem wU {t ty:TypeId} {b n:Nat} {cs:List Value} {v:Value} (hb:w.heap[b]? = some (.cells cs.toArray t (0,0))) (hn:n < cs.length) (hs:aR P ty 1=true) (h1:v.oneCell'=true) :
 ∃ w',(storeVar ty ⟨b,n,none⟩ v).run P w=.ok () w'∧Put w w' b (.cells (cs.set n v).toArray t (0,0)):=by
 have hc:v.cells=#[v]:=by cases v <;> first | rfl | cases h1
 obtain ⟨i,hq,hsz⟩:=sC (jE hs)
 have hr:=eM P b n t (0,0) [v] 0 cs.toArray w hb (.inl (Nat.le_refl _)) (by simp;omega) (by simpa using h1)
 simp only [Nat.add_zero,List.length_cons,List.length_nil,Nat.zero_add] at hr
 rw [← GN cs n v hn] at hr
 refine ⟨w.setRow b (cs.set n v).toArray,?_,rfl,rfl,rfl,by simp,setRow_heap w b _ _ t _ hb,fun k hk=>setRow_other w b k _ hk,rfl⟩
 simp [storeVar,sizeOf,typeInfo,hq,hsz,hc,hr]
theorem aM {t ty:TypeId} {x y:Operand} {b n:Nat} {cs:List Value} {v:Value} {ty2:TypeId} (hb:w.heap[b]? = some (.cells cs.toArray t (0,0))) (hw:Region.wanted (Oper.mk none (.store ty x y) ty2 ps af g) (yielded ops ts.toArray)=true)
 (hx:(Act.mk ts.toArray df).eval x=dT (.pointer (some ⟨b,0,none⟩)) n) (hy:(Act.mk ts.toArray df).eval y=v) (hn:n < cs.length) (hs:aR P ty 1=true) (h1:v.oneCell'=true)
 (h:∀ w',Put w w' b (.cells (cs.set n v).toArray t (0,0))→wpList P ops Q rest (Act.mk ts.toArray df) w'):wpList P ops Q (Oper.mk none (.store ty x y) ty2 ps af g :: rest) (Act.mk ts.toArray df) w:=by
 obtain ⟨w',hr,hp⟩:=wU (P:=P) hb hn hs h1
 refine jF hw (w':=w') ?_ (h w' hp)
 have e:dT (.pointer (some ⟨b,0,none⟩)) n=.pointer (some ⟨b,n,none⟩):=by simp [dT,dW]
 simp [execOp,hx,hy,e,Instr.storeAt,Instr.sureAddr,hr]
theorem Runs.build0 {t:TypeId} {d:Option Nat} {cells:Array Value} (h:P.built t []=some cells) :
 Runs P (Oper.mk d (.build t #[]) ty ps af g) (Act.mk ts.toArray df) w (.agg cells):=Runs.build (parts:=[]) (vals:=[]) rfl h
end
end Go.Proofs.X
set_option linter.unusedVariables false
set_option linter.unusedSimpArgs false
namespace Go.Proofs.X
open Go.RowKit
structure MapAt (P:Program) (kt:TypeId) (w:World) (m:Nat) (ents:List (Value × Value)):Prop where
 out:∃ es clock,w.heap[m]? = some (.map es clock)∧es.toList.map (fun e=>(e.key,e.val))=ents∧∀ e ∈ es.toList,∃ l,keyOf P kt e.key=some l
theorem MapAt.at {P:Program} {kt:TypeId} {w w':World} {m:Nat} {ents:List (Value × Value)} (h:MapAt P kt w m ents) (hm:∀ o,w.heap[m]? = some o→w'.heap[m]? = some o):MapAt P kt w' m ents:=by
 obtain ⟨es,c,h1,h2,h3⟩:=h
 exact ⟨es,c,hm _ h1,h2,h3⟩
theorem MapAt.lt {P:Program} {kt:TypeId} {w:World} {m:Nat} {ents:List (Value × Value)} (h:MapAt P kt w m ents):m < w.heap.size:=by
 obtain ⟨es,c,h1,_⟩:=h
 exact (Array.getElem?_eq_some_iff.1 h1).1
def oT (P:Program) (t kt et:TypeId):Bool:=match P.underlying t with | some (.map k e)=>k == kt && e == et | _=>false
theorem wV {P:Program} {t kt et:Nat} (h:oT P t kt et=true):P.underlying t=some (.map kt et):=by
 unfold oT at h
 split at h
 ·rename_i k e he
  simp only [Bool.and_eq_true,beq_iff_eq] at h
  rw [he,h.1,h.2]
 ·cases h
section
variable {P:Program} {ops:Array Oper} {Q:Exit→Act→World→Prop} {w:World} {rest:List Oper} {ts:List Value} {df:List Deferred} {ty:TypeId} {ps:String} {af:Array Edge} {g:Option (Nat × Bool)} {d:Nat} {kt et t:TypeId} {m:Nat} {ents:List (Value × Value)}
theorem DR (law:WideMaps.KeyLaw P kt) {es:Array MapEntry} {x:Value} {lx:Lit} (hx:keyOf P kt x=some lx) (h2:es.toList.map (fun e=>(e.key,e.val))=ents) (h3:∀ e ∈ es.toList,∃ l,keyOf P kt e.key=some l) :
 (∃ (i:Nat) (v:Value),ents[i]? = some (x,v)∧(Instr.findKey kt x es.toList).run P w=.ok (some (i,v)) w)∨((∀ (i:Nat) (e:Value × Value),ents[i]? = some e→e.1≠x)∧(Instr.findKey kt x es.toList).run P w=.ok none w):=by
 rcases law.find w hx es.toList h3 with ⟨h4,h5⟩ | ⟨j,e,h4,h5,h6⟩
 ·refine .inr ⟨fun i e hi => ?_,h4⟩
  subst h2
  rw [List.getElem?_map] at hi
  cases he:es.toList[i]? with
  | none=>rw [he] at hi;cases hi
  | some e' =>
   rw [he] at hi
   cases hi
   exact h5 e' (List.mem_of_getElem? he)
 ·refine .inl ⟨j,e.val,?_,h4⟩
  subst h2
  rw [List.getElem?_map,h5,Option.map_some,h6]
theorem iG (law:WideMaps.KeyLaw P kt) (ht:oT P t kt et=true) {z:Value} (hz:∀ w,(zeroValue et).run P w=.ok z w) (hm:MapAt P kt w m ents) {x:Value} {lx:Lit} (hx:keyOf P kt x=some lx) (ok:Bool) :
 ∃ v b,(Instr.lookup t (.map (some m)) x ok).run P w=.ok (if ok then .tuple #[v, .bool b] else v) w∧((∃ i:Nat,ents[i]? = some (x,v)∧b=true)∨((∀ (i:Nat) (e:Value × Value),ents[i]? = some e→e.1≠x)∧v=z∧b=false)):=by
 obtain ⟨es,c,h1,h2,h3⟩:=hm
 have hc:=law.check w es.isEmpty hx
 have hu:=wV ht
 have hgo:(getObj m).run P w=.ok (.map es c) w:=by simp [getObj,Sem.run,h1]
 rcases DR (w:=w) law hx h2 h3 with ⟨i,v,hi,hf⟩ | ⟨hn,hf⟩
 ·refine ⟨v,true,?_, .inl ⟨i,hi,rfl⟩⟩
  simp only [Instr.lookup,Sem.run_bind,run_underlying hu,Result.andThen_ok,hgo,Sem.run_pure,hc,hf]
 ·refine ⟨z,false,?_, .inr ⟨hn,rfl,rfl⟩⟩
  simp only [Instr.lookup,Sem.run_bind,run_underlying hu,Result.andThen_ok,hgo,Sem.run_pure,hc,hf,hz w]
theorem Runs.lookup {o:Option Nat} {a x:Operand} {v r:Value} {ok:Bool} (ha:(Act.mk ts.toArray df).eval a=.map (some m)) (hx:(Act.mk ts.toArray df).eval x=v) (h:(Instr.lookup t (.map (some m)) v ok).run P w=.ok r w) :
 Runs P (Oper.mk o (.lookup t a x ok) ty ps af g) (Act.mk ts.toArray df) w r:=by
 constructor
 simp [execOp,ha,hx,h]
theorem kZ (law:WideMaps.KeyLaw P kt) (ht:oT P t kt et=true) (hm:MapAt P kt w m ents) {x v:Value} {lx:Lit} (hx:keyOf P kt x=some lx) (hn:∀ (i:Nat) (e:Value × Value),ents[i]? = some e→e.1≠x) :
 ∃ w' o,(Instr.mapUpdate t (.map (some m)) x v).run P w=.ok () w'∧Put w w' m o∧MapAt P kt w' m (ents ++ [(x,v)]):=by
 obtain ⟨es,c,h1,h2,h3⟩:=hm
 have hc:=law.check w false hx
 have hu:=wV ht
 have hgo:(getObj m).run P w=.ok (.map es c) w:=by simp [getObj,Sem.run,h1]
 have hlt:=(Array.getElem?_eq_some_iff.1 h1).1
 rcases DR (w:=w) law hx h2 h3 with ⟨i,v',hi,hf⟩ | ⟨_,hf⟩
 ·exact absurd rfl (hn i _ hi)
 ·have hso:(setObj m (.map (es.push { key:=x,val:=v,born:=c }) (c + 1))).run P w=.ok () (w.putObj m (.map (es.push { key:=x,val:=v,born:=c }) (c + 1))):=by
   simp [setObj,Sem.run,h1,World.putObj]
  have hp:=iS (o':=.map (es.push { key:=x,val:=v,born:=c }) (c + 1)) h1
  refine ⟨_,_,?_,hp,⟨_,_,hp.this,by simp [h2],?_⟩⟩
  ·simp only [Instr.mapUpdate,Sem.run_bind,run_underlying hu,Result.andThen_ok,hgo,hc,hf,hso]
  ·intro e he
   simp only [Array.toList_push,List.mem_append,List.mem_singleton] at he
   rcases he with he | rfl
   ·exact h3 e he
   ·exact ⟨lx,hx⟩
theorem mA {a x y:Operand} {ty2:TypeId} {v u:Value} {w':World} (hw:Region.wanted (Oper.mk none (.mapUpdate t a x y) ty2 ps af g) (yielded ops ts.toArray)=true)
 (ha:(Act.mk ts.toArray df).eval a=.map (some m)) (hx:(Act.mk ts.toArray df).eval x=v) (hy:(Act.mk ts.toArray df).eval y=u) (hr:(Instr.mapUpdate t (.map (some m)) v u).run P w=.ok () w')
 (h:wpList P ops Q rest (Act.mk ts.toArray df) w'):wpList P ops Q (Oper.mk none (.mapUpdate t a x y) ty2 ps af g :: rest) (Act.mk ts.toArray df) w:=by
 refine jF hw (w':=w') ?_ h
 simp [execOp,ha,hx,hy,hr]
theorem oU (hw:Region.wanted (Oper.mk (some d) (.makeMap t none) ty ps af g) (yielded ops ts.toArray)=true)
 (h:∀ w',Ext w w'→w'.heap.size=w.heap.size + 1→MapAt P kt w' w.heap.size []→wpList P ops Q rest (Act.mk (ts.set d (.map (some w.heap.size))).toArray df) w') :
 wpList P ops Q (Oper.mk (some d) (.makeMap t none) ty ps af g :: rest) (Act.mk ts.toArray df) w:=by
 refine sH hw (v:=.map (some w.heap.size)) (w':=w.alloc (.map #[] 0)) ?_ (h _ (Ext.alloc _ _) (by simp) ⟨#[],0,heap_alloc_new w _,rfl,by simp⟩)
 simp [execOp,Instr.makeMap,newObj,Sem.run]
end
end Go.Proofs.X
set_option linter.unusedVariables false
set_option linter.unusedSimpArgs false
namespace Go.Proofs.X
open Go.RowKit
theorem Runs.fieldLit {P:Program} {w:World} {ts:List Value} {df:List Deferred} {d:Option Nat} {ty:TypeId} {ps:String} {af:Array Edge} {g:Option (Nat × Bool)} {s:TypeId} {m n b o:Nat} (h:ts.getD m undef=.pointer (some ⟨b,o,none⟩)) (hf:lS P s n n=true) :
 Runs P (Oper.mk d (.fieldAddr s (.tmp m) n) ty ps af g) (Act.mk ts.toArray df) w (dT (ts.getD m undef) n):=by
 obtain ⟨fs,f,i,ht,hf,ho,hie,hz⟩:=jY hf
 have e1:(Act.mk ts.toArray df).eval (.tmp m)=.pointer (some ⟨b,o,none⟩):=by rw [fP];exact h
 constructor
 rw [h]
 simp [execOp,e1,Instr.fieldAt,Instr.sureAddr,run_underlying ht,hf,fieldPlace,sizeOf,typeInfo,hie,hz,dT,ho]
section
variable {P:Program} {ops:Array Oper} {Q:Exit→Act→World→Prop} {md:Region.Mode} {S:Array Bool→World→Prop}
def Closed (md:Region.Mode) (ops:Array Oper) (listed:Array Bool):Prop:=∀ (j:Nat) oj,ops[j]? = some oj→listed.getD j false=true→∀ e ∈ oj.after,Region.binds md e=true→listed.getD e.on false=true
theorem Closed.start (n:Nat):Closed md ops (Array.replicate n false):=fun j oj _ h=>by rw [getD_replicate_false] at h;cases h
theorem Closed.set {i:Nat} {listed:Array Bool} (inv:Closed md ops listed) (hi:i ∈ Region.ready md ops listed):Closed md ops (listed.setIfInBounds i true):=by
 obtain ⟨_,oi,hoi,hall⟩:=mem_ready.1 hi
 intro j oj hj hl e he hb
 by_cases hij:i=j
 ·subst hij
  have:oj=oi:=Option.some.inj (hj.symm.trans hoi)
  subst this
  exact getD_set_true (hall e he hb)
 ·rw [getD_set_ne false hij] at hl
  exact getD_set_true (inv j oj hj hl e he hb)
def vY (md:Region.Mode) (ops:Array Oper):Nat→Nat→Nat→Bool
 | 0,k,i=>k == i
 | f + 1,k,i=>k == i || (match ops[k]? with | some o=>o.after.toList.any fun e=>Region.binds md e && vY md ops f e.on i | none=>false)
theorem Closed.reaches {listed:Array Bool} (inv:Closed md ops listed):∀ (f k i:Nat),X.vY md ops f k i=true→listed.getD k false=true→listed.getD i false=true
 | 0,k,i,h,hk=>by have:k=i:=by simpa [X.vY] using h
                  subst this;exact hk
 | f + 1,k,i,h,hk=>by
   simp only [X.vY,Bool.or_eq_true,beq_iff_eq] at h
   rcases h with h | h
   ·subst h;exact hk
   ·cases ho:ops[k]? with
    | none=>rw [ho] at h;cases h
    | some o =>
     rw [ho] at h
     obtain ⟨e,he,hb⟩:=List.any_eq_true.1 h
     simp only [Bool.and_eq_true] at hb
     exact inv.reaches f e.on i hb.2 (inv k o ho hk e (by simpa using he) hb.1)
def VR (md:Region.Mode) (ops:Array Oper) (S:Array Bool→World→Prop) (i:Nat) (w:World):Prop:=∃ listed,Closed md ops listed∧listed.getD i true=false∧S listed w
def wW (P:Program) (md:Region.Mode) (ops:Array Oper) (Q:Exit→Act→World→Prop) (S:Array Bool→World→Prop):Nat→Array Bool→Act→World→Prop
 | 0,listed,a,w=>Region.ready md ops listed=[]∧Q .normal a w
 | fuel + 1,listed,a,w =>
  (Region.ready md ops listed=[]→Q .normal a w) ∧
  ∀ i ∈ Region.ready md ops listed,wpOp P ops Q i (fun a' w'=>S (listed.setIfInBounds i true) w'∧wW P md ops Q S fuel (listed.setIfInBounds i true) a' w') a w
theorem wX:∀ (fuel:Nat) (listed:Array Bool) (a:Act) (w:World),wW P md ops Q S fuel listed a w→wpAny P md ops Q fuel listed a w
 | 0,_,_,_,h=>h
 | fuel + 1,_,_,_,h=>⟨h.1,fun i hi=>wpOp_mono (fun a' w' h'=>wX fuel _ a' w' h'.2) (h.2 i hi)⟩
def Till (k:Nat) (F:World→Prop) (listed:Array Bool) (w:World):Prop:=listed.getD k false=false→F w
theorem Till.set {k i:Nat} {F:World→Prop} {listed:Array Bool} {w:World} (hik:i≠k):Till k F (listed.setIfInBounds i true) w↔Till k F listed w:=by
 unfold Till;rw [getD_set_ne false hik]
theorem sJ {k i:Nat} {F:World→Prop} {oi:Oper} {v:Value} (hi:ops[i]? = some oi) (hik:i≠k) (hsel:∀ (j:Nat) (o:Oper) cs b,ops[j]? = some o→o.op≠.select cs b)
 (hQ:∀ c a w,Q (.panic c) (a.put oi.dst v) w→Q (.panic c) a w) :
 ∀ (fuel:Nat) (listed:Array Bool) (a:Act) (w:World),
   Closed md ops listed→(∀ j oj,ops[j]? = some oj→j≠i→listed.getD j true=false→(∀ e ∈ oj.after,Region.binds md e=true→e.on≠i)→oi.apart ops oj=true) →
   i ∈ Region.ready md ops listed→YieldsIf P ops (VR md ops (Till k F) i) oi v a→Till k F listed w →
   wW P md ops Q (Till k F) fuel (listed.setIfInBounds i true) (a.put oi.dst v) w→wW P md ops Q (Till k F) (fuel + 1) listed a w:=by
 intro fuel
 induction fuel with
 | zero =>
  intro listed a w hcl _ hr hy hS H
  have hun:=(mem_ready.1 hr).1
  refine ⟨fun h=>(by rw [h] at hr;cases hr),fun j hj => ?_⟩
  by_cases hji:j=i
  ·subst hji;exact hy.wpOp hi ⟨listed,hcl,hun,hS⟩ ⟨(Till.set hik).2 hS,H⟩
  ·have:=ready_mono hj hji
   rw [H.1] at this
   cases this
 | succ fuel ih =>
  intro listed a w hcl hfree hr hy hS H
  have hun:=(mem_ready.1 hr).1
  refine ⟨fun h=>(by rw [h] at hr;cases hr),fun j hj => ?_⟩
  by_cases hji:j=i
  ·subst hji;exact hy.wpOp hi ⟨listed,hcl,hun,hS⟩ ⟨(Till.set hik).2 hS,H⟩
  ·have h1:=H.2 j (ready_mono hj hji)
   obtain ⟨hjun,oj,hoj,hall⟩:=mem_ready.1 hj
   have hnot:∀ e ∈ oj.after,Region.binds md e=true→e.on≠i:=fun e he hb heq=>by
    have h1:=hall e he hb
    rw [heq,getD_both hun] at h1
    cases h1
   have h2:=wpOp_putIf hoj (hfree j oj hoj hji hjun hnot) (fun cs b=>hsel i oi cs b hi) (fun cs b=>hsel j oj cs b hoj) hQ hy h1
   have hfree':∀ k ok,ops[k]? = some ok→k≠i→(listed.setIfInBounds j true).getD k true=false →
    (∀ e ∈ ok.after,Region.binds md e=true→e.on≠i)→oi.apart ops ok=true:=fun k ok hk hki hun hno=>by
    refine hfree k ok hk hki ?_ hno
    by_cases hjk:j=k
    ·subst hjk;exact hjun
    ·rw [getD_set_ne true hjk] at hun;exact hun
   refine wpOp_mono (fun a' w' h3 => ?_) h2
   have hS2:Till k F (listed.setIfInBounds j true) w':=by
    have:=h3.2.1
    rw [Array.setIfInBounds_comm _ _ (Ne.symm hji)] at this
    exact (Till.set hik).1 this
   refine ⟨hS2,ih (listed.setIfInBounds j true) a' w' (hcl.set hj) hfree' (ready_mono hr (Ne.symm hji)) h3.1 hS2 ?_⟩
   rw [Array.setIfInBounds_comm _ _ hji]
   exact h3.2.2
end
section
variable {P:Program} {Q:Exit→Act→World→Prop} {k:Nat} {F:World→Prop} {l:List Oper} {ts:List Value} {df:List Deferred} {d:Nat} {ty:TypeId} {ps:String} {af:Array Edge} {g:Option (Nat × Bool)} {w:World} {fuel fuel2:Nat} {listed:List Bool} {id:Nat}
def zK (P:Program) (Q:Exit→Act→World→Prop) (k:Nat) (F:World→Prop) (l:List Oper) (fuel:Nat) (listed:List Bool) (a:Act) (w:World):Prop:=Closed .any l.toArray listed.toArray∧Till k F listed.toArray w→wW P .any l.toArray Q (Till k F) fuel listed.toArray a w
theorem bV {a:Act} (k:Nat) (F:World→Prop) (hm:P.follows .mixedOrders=true)
 (h:∀ w1,Ext w w1→w1.heap=w.heap→F w1∧zK P Q k F l l.length (List.replicate l.length false) a w1):(Code.region id l.toArray true).wp P Q a w:=by
 refine wp_region_any hm (wX (S:=Till k F) _ _ _ _ ?_)
 obtain ⟨h1,h2⟩:=h { w with drawn:=w.drawn + 1 } (Ext.drew w) rfl
 have:=h2 ⟨by simpa using Closed.start _,fun _=>h1⟩
 simpa using this
theorem bD {i:Nat} {op:Op} {v:Value} (hi:l[i]? = some (Oper.mk (some d) op ty ps af g)) (hfu:fuel2=fuel + 1) (hik:decide (i≠k)=true) (hk:vY .any l.toArray l.length k i=true) (hs:Region.noSelect l.toArray=true) (hf:Region.free .any l.toArray listed.toArray i=true) (hr:(Region.ready .any l.toArray listed.toArray).contains i=true)
 (hw:Region.wanted (Oper.mk (some d) op ty ps af g) (yielded l.toArray ts.toArray)=true)
 (hy:∀ w',F w'→Runs P (Oper.mk (some d) op ty ps af g) (Act.mk ts.toArray df) w' v) (hQ:∀ c a w,Q (.panic c) (a.put (some d) v) w→Q (.panic c) a w)
 (h:zK P Q k F l fuel (listed.set i true) (Act.mk (ts.set d v).toArray df) w):zK P Q k F l fuel2 listed (Act.mk ts.toArray df) w:=by
 subst hfu
 rintro ⟨hcl,hS⟩
 have hik':i≠k:=by simpa using hik
 have hr':i ∈ Region.ready .any l.toArray listed.toArray:=by simpa using hr
 refine sJ (oi:=Oper.mk (some d) op ty ps af g) (v:=v) (by simpa using hi) hik' (Region.noSelect_spec hs) hQ fuel listed.toArray _ w hcl (Region.free_spec (by simpa using hi) hf) hr' (.inl ⟨hw,fun w' ⟨l',hcl',hun',hS'⟩=>(hy w' (hS' ?_)).run⟩) hS ?_
 ·cases hkl:l'.getD k false with
  | false=>rfl
  | true =>
   have:=hcl'.reaches _ k i hk hkl
   rw [getD_both hun'] at this
   cases this
 ·have:=h ⟨by simpa using hcl.set hr',by simpa using (Till.set hik').2 hS⟩
  simpa [Act.put] using this
theorem dL {i:Nat} {op:Op} {v:Value} (hi:l[i]? = some (Oper.mk (some d) op ty ps af g)) (hfu:fuel2=fuel + 1) (hik:decide (i≠k)=true) (hs:Region.noSelect l.toArray=true) (hf:Region.free .any l.toArray listed.toArray i=true) (hr:(Region.ready .any l.toArray listed.toArray).contains i=true)
 (hw:Region.wanted (Oper.mk (some d) op ty ps af g) (yielded l.toArray ts.toArray)=true)
 (hy:∀ w',Runs P (Oper.mk (some d) op ty ps af g) (Act.mk ts.toArray df) w' v) (hQ:∀ c a w,Q (.panic c) (a.put (some d) v) w→Q (.panic c) a w)
 (h:zK P Q k F l fuel (listed.set i true) (Act.mk (ts.set d v).toArray df) w):zK P Q k F l fuel2 listed (Act.mk ts.toArray df) w:=by
 subst hfu
 rintro ⟨hcl,hS⟩
 have hik':i≠k:=by simpa using hik
 have hr':i ∈ Region.ready .any l.toArray listed.toArray:=by simpa using hr
 refine sJ (oi:=Oper.mk (some d) op ty ps af g) (v:=v) (by simpa using hi) hik' (Region.noSelect_spec hs) hQ fuel listed.toArray _ w hcl (Region.free_spec (by simpa using hi) hf) hr' (.inl ⟨hw,fun w' _=>(hy w').run⟩) hS ?_
 have:=h ⟨by simpa using hcl.set hr',by simpa using (Till.set hik').2 hS⟩
 simpa [Act.put] using this
theorem bE {i:Nat} {o:Oper} {a:Act} (hr:Region.ready .any l.toArray listed.toArray=[i]) (hi:l[i]? = some o) (hfu:fuel2=fuel + 1)
 (h:wpList P l.toArray (oM Q fun a' w'=>Till k F (listed.set i true).toArray w'∧zK P Q k F l fuel (listed.set i true) a' w') [o] a w):zK P Q k F l fuel2 listed a w:=by
 subst hfu
 rintro ⟨hcl,hS⟩
 refine ⟨fun h0=>(by rw [hr] at h0;cases h0),fun j hj => ?_⟩
 have hj':=hj
 rw [hr] at hj
 have:j=i:=by simpa using hj
 subst this
 refine wpOp_mono (fun a' w' h3 => ?_) (dO (o:=o) (by simpa using hi) h)
 have hcl2:Closed .any l.toArray (listed.set j true).toArray:=by simpa using hcl.set hj'
 refine ⟨by simpa using h3.1,?_⟩
 have:=h3.2 ⟨hcl2,h3.1⟩
 simpa using this
theorem OI {i j:Nat} {o o':Oper} {a:Act} (hr:Region.ready .any l.toArray listed.toArray=[i,j]) (hi:l[i]? = some o) (hj:l[j]? = some o') (hfu:fuel2=fuel + 1)
 (h1:wpList P l.toArray (oM Q fun a' w'=>Till k F (listed.set i true).toArray w'∧zK P Q k F l fuel (listed.set i true) a' w') [o] a w)
 (h2:wpList P l.toArray (oM Q fun a' w'=>Till k F (listed.set j true).toArray w'∧zK P Q k F l fuel (listed.set j true) a' w') [o'] a w):zK P Q k F l fuel2 listed a w:=by
 subst hfu
 rintro ⟨hcl,hS⟩
 refine ⟨fun h0=>(by rw [hr] at h0;cases h0),fun n hn => ?_⟩
 have hn':=hn
 rw [hr] at hn
 have:n=i∨n=j:=by simpa using hn
 rcases this with rfl | rfl
 ·refine wpOp_mono (fun a' w' h3 => ?_) (dO (o:=o) (by simpa using hi) h1)
  have hcl2:Closed .any l.toArray (listed.set n true).toArray:=by simpa using hcl.set hn'
  refine ⟨by simpa using h3.1,?_⟩
  have:=h3.2 ⟨hcl2,h3.1⟩
  simpa using this
 ·refine wpOp_mono (fun a' w' h3 => ?_) (dO (o:=o') (by simpa using hj) h2)
  have hcl2:Closed .any l.toArray (listed.set n true).toArray:=by simpa using hcl.set hn'
  refine ⟨by simpa using h3.1,?_⟩
  have:=h3.2 ⟨hcl2,h3.1⟩
  simpa using this
theorem cN {a:Act} (hr:Region.ready .any l.toArray listed.toArray=[]) (h:Q .normal a w):zK P Q k F l fuel listed a w:=by
 intro _
 cases fuel with
 | zero=>exact ⟨hr,h⟩
 | succ n=>exact ⟨fun _=>h,by rw [hr];simp⟩
theorem cC {listed:List Bool} (h:F w):Till k F listed.toArray w:=fun _=>h
theorem bT {listed:List Bool} (h:listed.toArray.getD k false=true):Till k F listed.toArray w:=fun h'=>by rw [h] at h';cases h'
theorem QH {α:Type} {F:α→World→Prop} {G:α→World→Prop} {goal:Prop} (h1:(∀ x w',F x w'→G x w')→goal) (h2:∀ x w',F x w'→G x w'):goal:=h1 h2
end
end Go.Proofs.X
set_option linter.unusedVariables false
set_option linter.unusedSimpArgs false
namespace Go.Proofs.X
open Go.RowKit Go.Deep
section
variable {H:Type} {enc:TypeId × Value→H} {P:Program} {w:World} {base:Nat} {spare:Nat→Bool} {held:Bool}
theorem lC {t:TypeId} {fuel:Nat} {c:Value} {x:DataW H × List MemPlace} (ht:P.underlying t=some .string) (h:DataW.trod enc P w base spare held fuel t [c]=some x):∃ s:List UInt8,c=aI s∧s.length≤maxLen:=by
 obtain ⟨s,h1,_,h3⟩:=DataW.trod_string ht h
 refine ⟨s.data.toList,?_,by rw [Array.length_toList];exact h3⟩
 simp only [List.cons.injEq,and_true] at h1
 rw [h1,aI,Array.toArray_toList]
theorem iH {t:TypeId} {k:IntKind} {fuel:Nat} {c:Value} {x:DataW H × List MemPlace} (ht:P.underlying t=some (.int k)) (h:DataW.trod enc P w base spare held fuel t [c]=some x):∃ n:Int,c=.int k n∧(Lit.int k n).wf=true:=by
 obtain ⟨n,h1,_,h3⟩:=DataW.trod_int ht h
 exact ⟨n,by simpa using h1,h3⟩
theorem mO {t e:TypeId} {k fuel:Nat} {v:Value} {x:DataW H × List MemPlace} (ht:P.underlying t=some (.slice e)) (hc:P.cellsOf e=k) (hk:0 < k) (h:DataW.trod enc P w base spare held fuel t [v]=some x) :
 ∃ es:List (List Value),Sl k w v es∧∀ c ∈ es,∃ n y,DataW.trod enc P w base spare held n e c=some y:=by
 rcases open_slice ht h with ⟨h0,_⟩ | ⟨a,len,cap,m,n,D,Pl,h0,hb,hl,hm,hmm,_,hx⟩
 ·simp only [List.cons.injEq,and_true] at h0
  subst h0
  exact ⟨[],Sl.nil _ _,by simp⟩
 ·simp only [List.cons.injEq,and_true] at h0
  subst h0
  have hlm:len≤m:=by rw [hmm];split <;> omega
  obtain ⟨f,hf⟩:=choose_lt (α:=List Value) (p:=fun i cs=>w.cells? base (a.add (i * P.cellsOf e)) (P.cellsOf e)=some cs∧DataW.trod enc P w base spare held n e cs=some (D i,Pl i)) (n:=len) (fun i hi=>hx i (by omega))
  have hfl:∀ i,i < len→(f i).length=k:=fun i hi=>by
   obtain ⟨_,h2,_⟩:=World.cells?_some (hf i hi).1
   rw [h2,hc]
  have hcell:∀ i,i < len→∀ j u,(f i)[j]? = some u→w.cell? ((a.add (i * k)).add j)=some u:=fun i hi j u hu=>by
   obtain ⟨_,h2,h3⟩:=World.cells?_some (hf i hi).1
   have hj:=(List.getElem?_eq_some_iff.1 hu).1
   have:=h3 j (by rw [← h2];exact hj)
   rw [hc] at this
   rw [this,hu]
  refine ⟨(List.range len).map f,⟨some a,cap,by simp,by simpa using hl,by simpa [maxLen] using hm,?_,(fun h=>by cases h),?_⟩,?_⟩
  ·intro x hx
   obtain ⟨i,hi,rfl⟩:=List.mem_map.1 hx
   exact hfl i (List.mem_range.1 hi)
  ·intro hne
   have hlen:0 < len:=by
    rcases Nat.eq_zero_or_pos len with h | h
    ·subst h;simp at hne
    ·exact h
   obtain ⟨b,o,sp⟩:=a
   have h0:=hcell 0 hlen 0 ((f 0)[0]'(by rw [hfl 0 hlen];exact hk)) (List.getElem?_eq_getElem _)
   have hsp:sp=none:=by
    have:=World.cell?_spot h0
    simpa [Addr.add] using this
   subst hsp
   refine ⟨b,o,rfl,fun i e j x hi hj => ?_⟩
   rw [List.getElem?_map] at hi
   have hil:i < len:=by
    rcases Nat.lt_or_ge i len with h | h
    ·exact h
    ·rw [List.getElem?_eq_none (by simpa using h)] at hi;cases hi
   rw [List.getElem?_range hil] at hi
   cases hi
   have:=hcell i hil j x hj
   rw [dW,dW] at this
   exact this
  ·intro c hc
   obtain ⟨i,hi,rfl⟩:=List.mem_map.1 hc
   exact ⟨n,_,(hf i (List.mem_range.1 hi)).2⟩
theorem qF {α β:Type} {f:α→β}:∀ {l:List β},(∀ x ∈ l,∃ y,x=f y)→∃ m:List α,l=m.map f
 | [],_=>⟨[],rfl⟩
 | x :: l,h=>by
   obtain ⟨y,rfl⟩:=h x (by simp)
   obtain ⟨m,rfl⟩:=qF (l:=l) (fun z hz=>h z (by simp [hz]))
   exact ⟨y :: m,rfl⟩
end
end Go.Proofs.X
