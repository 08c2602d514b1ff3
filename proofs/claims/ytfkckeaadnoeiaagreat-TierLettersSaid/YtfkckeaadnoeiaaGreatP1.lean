/- Laws and walks that the proof of the statement is made of (part 1). -/
import Derived.Test.YtfkckeaadnoeiaaGreatP0
set_option linter.unusedSimpArgs false
set_option linter.unusedVariables false
set_option maxRecDepth 100000
namespace Go.Proofs.X
open Go.RowKit
section
variable {P:Program} {w:World} {ts:List Value} {df:List Deferred} {d:Option Nat} {ty:TypeId} {ps:String} {af:Array Edge} {g:Option (Nat×Bool)}
theorem Runs.nilP {x:Nat} {a:Addr} (h:ts.getD x undef=.pointer (some a)):Runs P (Oper.mk d (.nilCheck (.tmp x)) ty ps af g) (Act.mk ts.toArray df) w (ts.getD x undef):=by
 constructor
 simp only [execOp,fY,h]
 rfl
theorem Runs.nilPts {x:Nat} {vs:List Value} (h:Pts w (ts.getD x undef) vs):Runs P (Oper.mk d (.nilCheck (.tmp x)) ty ps af g) (Act.mk ts.toArray df) w (ts.getD x undef):=by
 obtain ⟨b,o,h1,_⟩:=h
 exact Runs.nilP h1
theorem Runs.minI {t u:TypeId} {x y:Operand} {m n:Int} (hx:(Act.mk ts.toArray df).eval x=.int .i64 m) (hy:(Act.mk ts.toArray df).eval y=.int .i64 n) :
 Runs P (Oper.mk d (.call ⟨.builtin .min,#[x,y],#[t,u]⟩) ty ps af g) (Act.mk ts.toArray df) w (.int .i64 (min m n)):=by
 constructor
 have e:(if n<m then n else m)=min m n:=by rw [Int.min_def];split<;>split<;>omega
 simp [execOp,resolve,invoke,builtin,hx,hy,run_min_int2,e]
end
section
variable {P:Program} {ops:Array Oper} {Q:Exit→Act→World→Prop} {w w':World} {rest:List Oper} {ts:List Value} {df:List Deferred} {d:Nat} {op:Op} {ty:TypeId} {ps:String} {af:Array Edge} {g:Option (Nat×Bool)}
theorem nC {v:Value} (hw:Region.wanted (Oper.mk (some d) op ty ps af g) (yielded ops ts.toArray)=true) (hr:(execOp (Act.mk ts.toArray df).eval (Oper.mk (some d) op ty ps af g)).run P w=.ok (.value v) w')
 (h:wpList P ops Q rest (Act.mk (ts.set d v).toArray df) w'):wpList P ops Q (Oper.mk (some d) op ty ps af g::rest) (Act.mk ts.toArray df) w:=by
 unfold wpList
 rw [if_pos hw]
 refine .inl ?_
 unfold Oper.wp
 rw [hr]
 simpa [Oper.upon,Act.put]using h
end
section
variable {P:Program} {ops:Array Oper} {Q:Exit→Act→World→Prop} {w:World} {rest:List Oper} {ts:List Value} {df:List Deferred} {d:Nat} {op:Op} {ty:TypeId} {ps:String} {af:Array Edge} {j e:Nat} {want b:Bool}
theorem sO (h1:(ops[j]?).bind (·.dst)=some e) (h2:ts.getD e undef=.bool b):yielded ops ts.toArray j=some b:=by
 unfold yielded
 rw [h1]
 have:ts[e]? = some (.bool b):=by
  rw [List.getD_eq_getElem?_getD]at h2
  cases h:ts[e]? with
  | none=>rw [h]at h2;cases h2
  | some v=>rw [h]at h2;exact congrArg some h2
 simp [this]
theorem zC {o:Option Nat} (h1:(ops[j]?).bind (·.dst)=some e) (h2:ts.getD e undef=.bool b) (h3:b=want):Region.wanted (Oper.mk o op ty ps af (some (j,want))) (yielded ops ts.toArray)=true:=by
 simp [Region.wanted,sO h1 h2,h3]
theorem CQ {o:Option Nat} (h1:(ops[j]?).bind (·.dst)=some e) (h2:ts.getD e undef=.bool b) (h3:b = !want):Region.wanted (Oper.mk o op ty ps af (some (j,want))) (yielded ops ts.toArray)=false:=by
 simp [Region.wanted,sO h1 h2,h3]
theorem aG {v:Value} (hr:Runs P (Oper.mk (some d) op ty ps af none) (Act.mk ts.toArray df) w v)
 (h:wpList P ops Q rest (Act.mk (ts.set d v).toArray df) w):wpList P ops Q (Oper.mk (some d) op ty ps af none::rest) (Act.mk ts.toArray df) w:=cG rfl hr h
theorem NH (h1:(ops[j]?).bind (·.dst)=some e) (h2:ts.getD e undef=.bool b) (h3:b = !want)
 (h:wpList P ops Q rest (Act.mk (ts.set d undef).toArray df) w):wpList P ops Q (Oper.mk (some d) op ty ps af (some (j,want))::rest) (Act.mk ts.toArray df) w:=GZ (CQ h1 h2 h3) h
theorem sP {o:Option Nat} (h1:(ops[j]?).bind (·.dst)=some e) (h2:ts.getD e undef=.bool b)
 (h3:b=want→wpList P ops Q (Oper.mk o op ty ps af none::rest) (Act.mk ts.toArray df) w) (h4:b = !want→wpList P ops Q rest ((Act.mk ts.toArray df).put o undef) w) :
 wpList P ops Q (Oper.mk o op ty ps af (some (j,want))::rest) (Act.mk ts.toArray df) w:=CO (sO h1 h2) h3 h4
inductive GV (ops:Array Oper) (ts:List Value) (j:Nat) (K:Bool→Prop):Prop
 | mk {e:Nat} {b:Bool} (h1:(ops[j]?).bind (·.dst)=some e) (h2:ts.getD e undef=.bool b) (h3:K b):GV ops ts j K
inductive GU (ops:Array Oper) (ts:List Value) (j:Nat):Prop
 | mk {e:Nat} (h1:(ops[j]?).bind (·.dst)=some e) (h2:ts.getD e undef=undef):GU ops ts j
theorem CR {o:Option Nat} (h:GU ops ts j):Region.wanted (Oper.mk o op ty ps af (some (j,want))) (yielded ops ts.toArray)=false:=by
 obtain ⟨h1,h2⟩:=h
 rename_i e
 have:yielded ops ts.toArray j=none:=by
  unfold yielded
  rw [h1]
  cases h:ts[e]? with
  | none=>simp [h]
  | some v =>
   rw [List.getD_eq_getElem?_getD,h]at h2
   have:v=undef:=h2
   subst this
   simp [h,undef]
 simp [Region.wanted,this]
theorem YX (h:GU ops ts j) (h2:wpList P ops Q rest (Act.mk (ts.set d undef).toArray df) w):wpList P ops Q (Oper.mk (some d) op ty ps af (some (j,want))::rest) (Act.mk ts.toArray df) w :=
 GZ (CR h) h2
theorem YY (h:GV ops ts j fun b=>(b=want→wpList P ops Q (Oper.mk (some d) op ty ps af none::rest) (Act.mk ts.toArray df) w)∧(b = !want→wpList P ops Q rest (Act.mk (ts.set d undef).toArray df) w)) :
 wpList P ops Q (Oper.mk (some d) op ty ps af (some (j,want))::rest) (Act.mk ts.toArray df) w:=by
 obtain ⟨g1,g2,g3,g4⟩:=h
 exact sP g1 g2 g3 (fun h=>by simpa [Act.put]using g4 h)
theorem PS (h:GV ops ts j fun b=>(b=want→wpList P ops Q (Oper.mk none op ty ps af none::rest) (Act.mk ts.toArray df) w)∧(b = !want→wpList P ops Q rest (Act.mk ts.toArray df) w)) :
 wpList P ops Q (Oper.mk none op ty ps af (some (j,want))::rest) (Act.mk ts.toArray df) w:=by
 obtain ⟨g1,g2,g3,g4⟩:=h
 exact sP g1 g2 g3 (fun h=>by simpa [Act.put]using g4 h)
theorem fL {C:World→Prop} {QQ:Act→Prop} {v:Value} (hr:∀ w,C w→Runs P (Oper.mk (some d) op ty ps af none) (Act.mk ts.toArray df) w v)
 (h:wpQuiet P ops C QQ rest (Act.mk (ts.set d v).toArray df)):wpQuiet P ops C QQ (Oper.mk (some d) op ty ps af none::rest) (Act.mk ts.toArray df):=ER rfl hr h
theorem PT {C:World→Prop} {QQ:Act→Prop} {v:Value} (h1:(ops[j]?).bind (·.dst)=some e) (h2:ts.getD e undef=.bool b) (h3:b=want) (hr:∀ w,C w→Runs P (Oper.mk (some d) op ty ps af (some (j,want))) (Act.mk ts.toArray df) w v)
 (h:wpQuiet P ops C QQ rest (Act.mk (ts.set d v).toArray df)):wpQuiet P ops C QQ (Oper.mk (some d) op ty ps af (some (j,want))::rest) (Act.mk ts.toArray df):=ER (zC h1 h2 h3) hr h
theorem CS {C:World→Prop} {QQ:Act→Prop} (h1:(ops[j]?).bind (·.dst)=some e) (h2:ts.getD e undef=.bool b) (h3:b = !want)
 (h:wpQuiet P ops C QQ rest (Act.mk (ts.set d undef).toArray df)):wpQuiet P ops C QQ (Oper.mk (some d) op ty ps af (some (j,want))::rest) (Act.mk ts.toArray df):=HA (CQ h1 h2 h3) h
end
def pD (Q:Exit→Act→World→Prop) (K:Act→World→Prop):Exit→Act→World→Prop
 | .normal=>K
 | e=>Q e
section
variable {P:Program} {Q:Exit→Act→World→Prop} {S:World→Prop} {l:List Oper} {ts:List Value} {df:List Deferred} {d:Nat} {ty:TypeId} {ps:String} {af:Array Edge} {g:Option (Nat×Bool)} {w:World} {fuel:Nat} {listed:List Bool} {id:Nat}
theorem dI {ops:Array Oper} {i:Nat} {o:Oper} {K:Act→World→Prop} {a:Act} (hi:ops[i]? = some o) (h:wpList P ops (pD Q K) [o] a w):wpOp P ops Q i K a w:=by
 unfold wpOp
 rw [hi]
 unfold wpList at h
 by_cases hw:Region.wanted o (yielded ops a.tmps)=true
 ·rw [if_pos hw]at h
  show (if Region.wanted o (yielded ops a.tmps)=true then o.wp P a w K Q∨(o.asks P a w∧LetsOut Q)else K (a.put o.dst undef) w)
  rw [if_pos hw]
  rcases h with h|h
  ·left
   unfold Oper.wp at *
   generalize (execOp a.eval o).run P w=r at *
   cases r with
   | ok n w' =>
    cases n<;>first|exact h|skip
    all_goals simp only [Oper.upon,wpList,pD]at h ⊢
    all_goals first|exact h|exact h.elim|(refine Calls.mono h ?_;intro e w'' he;cases e<;>exact he)|skip
   | halt x w'=>cases x<;>exact h
  ·exact .inr h
 ·rw [if_neg hw]at h
  show (if Region.wanted o (yielded ops a.tmps)=true then o.wp P a w K Q∨(o.asks P a w∧LetsOut Q)else K (a.put o.dst undef) w)
  rw [if_neg hw]
  exact h
theorem cQ {a:Act} (S:World→Prop) (hm:P.follows .mixedOrders=true)
 (h:∀ w1,Ext w w1→w1.heap=w.heap→wpAnyH P .any l.toArray Q S l.length (List.replicate l.length false).toArray a w1):(Code.region id l.toArray true).wp P Q a w:=by
 refine wp_region_held (S:=S) hm ?_
 have:=h { w with drawn:=w.drawn+1 } (Ext.drew w) rfl
 simpa using this
theorem dJ {fuel2:Nat} {i:Nat} {op:Op} {v:Value} (hi:l[i]? = some (Oper.mk (some d) op ty ps af g)) (hfu:fuel2=fuel+1) (hs:Region.noSelect l.toArray=true) (hf:Region.free .any l.toArray listed.toArray i=true) (hr:(Region.ready .any l.toArray listed.toArray).contains i=true)
 (hw:Region.wanted (Oper.mk (some d) op ty ps af g) (yielded l.toArray ts.toArray)=true) (hS:S w)
 (hy:∀ w',S w'→Runs P (Oper.mk (some d) op ty ps af g) (Act.mk ts.toArray df) w' v) (hQ:∀ c a w,Q (.panic c) (a.put (some d) v) w→Q (.panic c) a w)
 (h:wpAnyH P .any l.toArray Q S fuel (listed.set i true).toArray (Act.mk (ts.set d v).toArray df) w):wpAnyH P .any l.toArray Q S fuel2 listed.toArray (Act.mk ts.toArray df) w:=by
 subst hfu
 refine wpAnyH_take (i:=i) (oi:=Oper.mk (some d) op ty ps af g) (v:=v) (by simpa using hi) hs hf hr hQ (.inl ⟨hw,fun w' hw'=>(hy w' hw').run⟩) hS ?_
 simpa [Act.put]using h
theorem PU {fuel2:Nat} {i:Nat} {op:Op} (hi:l[i]? = some (Oper.mk (some d) op ty ps af g)) (hfu:fuel2=fuel+1) (hs:Region.noSelect l.toArray=true) (hf:Region.free .any l.toArray listed.toArray i=true) (hr:(Region.ready .any l.toArray listed.toArray).contains i=true)
 (hQ:∀ c a w,Q (.panic c) (a.put (some d) undef) w→Q (.panic c) a w) (hw:Region.wanted (Oper.mk (some d) op ty ps af g) (yielded l.toArray ts.toArray)=false) (hS:S w)
 (h:wpAnyH P .any l.toArray Q S fuel (listed.set i true).toArray (Act.mk (ts.set d undef).toArray df) w):wpAnyH P .any l.toArray Q S fuel2 listed.toArray (Act.mk ts.toArray df) w:=by
 subst hfu
 refine wpAnyH_take (i:=i) (oi:=Oper.mk (some d) op ty ps af g) (v:=undef) (by simpa using hi) hs hf hr hQ (.inr ⟨hw,rfl⟩) hS ?_
 simpa [Act.put]using h
theorem bZ {fuel2:Nat} {i:Nat} {o:Oper} {a:Act} (hr:Region.ready .any l.toArray listed.toArray=[i]) (hi:l[i]? = some o) (hfu:fuel2=fuel+1)
 (h:wpList P l.toArray (pD Q fun a' w'=>S w'∧wpAnyH P .any l.toArray Q S fuel (listed.set i true).toArray a' w') [o] a w):wpAnyH P .any l.toArray Q S fuel2 listed.toArray a w:=by
 subst hfu
 refine wpAnyH_all hr (by simp) fun j hj=>?_
 have:j=i:=by simpa using hj
 subst this
 refine dI (o:=o) (by simpa using hi) ?_
 simpa using h
theorem tT {fuel2:Nat} {i j:Nat} {o o':Oper} {a:Act} (hr:Region.ready .any l.toArray listed.toArray=[i,j]) (hi:l[i]? = some o) (hj:l[j]? = some o') (hfu:fuel2=fuel+1)
 (h1:wpList P l.toArray (pD Q fun a' w'=>S w'∧wpAnyH P .any l.toArray Q S fuel (listed.set i true).toArray a' w') [o] a w)
 (h2:wpList P l.toArray (pD Q fun a' w'=>S w'∧wpAnyH P .any l.toArray Q S fuel (listed.set j true).toArray a' w') [o'] a w):wpAnyH P .any l.toArray Q S fuel2 listed.toArray a w:=by
 subst hfu
 refine wpAnyH_all hr (by simp) fun k hk=>?_
 have:k=i∨k=j:=by simpa using hk
 rcases this with rfl|rfl
 ·refine dI (o:=o) (by simpa using hi) ?_
  simpa using h1
 ·refine dI (o:=o') (by simpa using hj) ?_
  simpa using h2
theorem aD {ops:Array Oper} {K:Act→World→Prop} {a:Act} (h:K a w):wpList P ops (pD Q K) [] a w:=h
theorem cO {a:Act} (hr:Region.ready .any l.toArray listed.toArray=[]) (h:Q .normal a w):wpAnyH P .any l.toArray Q S fuel listed.toArray a w:=wpAnyH_done hr h _
end
section
variable {P:Program} {w:World} {ts:List Value} {df:List Deferred} {d:Option Nat} {ty:TypeId} {ps:String} {af:Array Edge} {g:Option (Nat×Bool)}
def wS:Value→Bool | .slice a _ _=>a.isNone|_=>false
theorem Runs.nilS {x:Nat} {t u:TypeId} {k:Nat} {es:List (List Value)} (h:Sl k w (ts.getD x undef) es) (ht:fC P t k=true) :
 Runs P (Oper.mk d (.binOp .eql t (.tmp x) (.const (.slice none 0 0)) u) ty ps af g) (Act.mk ts.toArray df) w (.bool (wS (ts.getD x undef))):=by
 obtain ⟨a,cap,h1,_⟩:=h
 obtain ⟨e,i,ht,_⟩:=eO ht
 constructor
 have e1:(Act.mk ts.toArray df).eval (.tmp x)=.slice a es.length cap:=by rw [fY];exact h1
 have e2:(Act.mk ts.toArray df).eval (.const (.slice none 0 0))=.slice none 0 0:=rfl
 simp only [execOp,e1,e2,eqGuard,h1,wS]
 have:=run_equal_slice_nil (P:=P) (w:=w) t e a es.length cap ht
 simp [binOp,this]
end
theorem Sl.isNil {k:Nat} {w:World} {v:Value} {es:List (List Value)} (h:Sl k w v es) (hn:X.wS v=true):es=[]:=by
 obtain ⟨a,cap,rfl,h2,h3,h4,h5,_⟩:=h
 cases a with
 | none=>exact List.eq_nil_of_length_eq_zero (by have:=h5 rfl;omega)
 | some a=>simp [X.wS]at hn
theorem kE {P:Program} {ops:Array Oper} {Q:Exit→Act→World→Prop} {w:World} {rest:List Oper} {ts:List Value} {df:List Deferred} {ty:TypeId} {ps:String} {af:Array Edge} {g:Option (Nat×Bool)} {t e k d bytes:Nat} (ht:mE P t e k bytes=true)
 (hw:Region.wanted (Oper.mk (some d) (.buildSlice t 0 #[]) ty ps af g) (yielded ops ts.toArray)=true)
 (h:∀ v' w',Ext w w'→w'.heap.size=w.heap.size+1→Own w.heap.size k e w' v' []→wpList P ops Q rest (Act.mk (ts.set d v').toArray df) w') :
 wpList P ops Q (Oper.mk (some d) (.buildSlice t 0 #[]) ty ps af g::rest) (Act.mk ts.toArray df) w :=
 rO (k:=k) (e:=e) (bytes:=bytes) (xs:=[]) (parts:=[]) hw rfl rfl (by simp) ht (by simp) fun v' w' x s _ o=>h v' w' x s o
theorem Sl.one {k:Nat} {w:World} {v:Value} {es:List (List Value)} (h:Sl k w v es):v.oneCell'=true:=by
 obtain ⟨a,cap,rfl,_⟩:=h
 rfl
theorem gE {a b c d:Value} (h1:a.oneCell'=true) (h2:b.oneCell'=true) (h3:c.oneCell'=true) (h4:d.oneCell'=true):(Value.agg #[a,b,c,d]).cells.all (·.oneCell')=true:=by simp [Value.cells,h1,h2,h3,h4]
theorem Sl.nil (k:Nat) (w:World):Sl k w (.slice none 0 0) []:=⟨none,0,rfl,Nat.le_refl _,by omega,by simp,fun _=>rfl,fun h=>absurd rfl h⟩
theorem JY {α:Type} (cs:List α) (n:Nat) (v:α) (h:n<cs.length):cs.set n v=cs.take n ++ [v]++cs.drop (n+1):=by
 rw [List.set_eq_take_append_cons_drop,if_pos h];simp
section
variable {P:Program} {ops:Array Oper} {Q:Exit→Act→World→Prop} {w:World} {rest:List Oper} {ts:List Value} {df:List Deferred} {ty:TypeId} {ps:String} {af:Array Edge} {g:Option (Nat×Bool)}
theorem zD {t ty:TypeId} {b n:Nat} {cs:List Value} {v:Value} (hb:w.heap[b]? = some (.cells cs.toArray t (0,0))) (hn:n<cs.length) (hs:dG P ty 1=true) (h1:v.oneCell'=true) :
 ∃ w',(storeVar ty ⟨b,n,none⟩ v).run P w=.ok () w'∧Put w w' b (.cells (cs.set n v).toArray t (0,0)):=by
 have hc:v.cells=#[v]:=by cases v<;>first|rfl|cases h1
 obtain ⟨i,hq,hsz⟩:=rN (iO hs)
 have hr:=eC P b n t (0,0) [v] 0 cs.toArray w hb (.inl (Nat.le_refl _)) (by simp;omega) (by simpa using h1)
 simp only [Nat.add_zero,List.length_cons,List.length_nil,Nat.zero_add]at hr
 rw [← JY cs n v hn]at hr
 refine ⟨w.setRow b (cs.set n v).toArray,?_,rfl,rfl,rfl,by simp,setRow_heap w b _ _ t _ hb,fun k hk=>setRow_other w b k _ hk,rfl⟩
 simp [storeVar,sizeOf,typeInfo,hq,hsz,hc,hr]
theorem iJ {t ty:TypeId} {x y:Operand} {b n:Nat} {cs:List Value} {v:Value} {ty2:TypeId} (hb:w.heap[b]? = some (.cells cs.toArray t (0,0))) (hw:Region.wanted (Oper.mk none (.store ty x y) ty2 ps af g) (yielded ops ts.toArray)=true)
 (hx:(Act.mk ts.toArray df).eval x=aV (.pointer (some ⟨b,0,none⟩)) n) (hy:(Act.mk ts.toArray df).eval y=v) (hn:n<cs.length) (hs:dG P ty 1=true) (h1:v.oneCell'=true)
 (h:∀ w',Put w w' b (.cells (cs.set n v).toArray t (0,0))→wpList P ops Q rest (Act.mk ts.toArray df) w'):wpList P ops Q (Oper.mk none (.store ty x y) ty2 ps af g::rest) (Act.mk ts.toArray df) w:=by
 obtain ⟨w',hr,hp⟩:=zD (P:=P) hb hn hs h1
 refine iP hw (w':=w') ?_ (h w' hp)
 have e:aV (.pointer (some ⟨b,0,none⟩)) n=.pointer (some ⟨b,n,none⟩):=by simp [aV,cY]
 simp [execOp,hx,hy,e,Instr.storeAt,Instr.sureAddr,hr]
theorem Runs.build0 {t:TypeId} {d:Option Nat} {cells:Array Value} (h:P.built t []=some cells) :
 Runs P (Oper.mk d (.build t #[]) ty ps af g) (Act.mk ts.toArray df) w (.agg cells):=Runs.build (parts:=[]) (vals:=[]) rfl h
end
structure MapAt (P:Program) (kt:TypeId) (w:World) (m:Nat) (ents:List (Value×Value)):Prop where
 out:∃ es clock,w.heap[m]? = some (.map es clock)∧es.toList.map (fun e=>(e.key,e.val))=ents∧∀ e∈es.toList,∃ l,keyOf P kt e.key=some l
theorem MapAt.at {P:Program} {kt:TypeId} {w w':World} {m:Nat} {ents:List (Value×Value)} (h:MapAt P kt w m ents) (hm:∀ o,w.heap[m]? = some o→w'.heap[m]? = some o):MapAt P kt w' m ents:=by
 obtain ⟨es,c,h1,h2,h3⟩:=h
 exact ⟨es,c,hm _ h1,h2,h3⟩
theorem MapAt.lt {P:Program} {kt:TypeId} {w:World} {m:Nat} {ents:List (Value×Value)} (h:MapAt P kt w m ents):m<w.heap.size:=by
 obtain ⟨es,c,h1,_⟩:=h
 exact (Array.getElem?_eq_some_iff.1 h1).1
def eI (P:Program) (t kt et:TypeId):Bool:=match P.underlying t with|some (.map k e)=>k == kt&&e == et|_=>false
theorem gL {P:Program} {t kt et:Nat} (h:eI P t kt et=true):P.underlying t=some (.map kt et):=by
 unfold eI at h
 split at h
 ·rename_i k e he
  simp only [Bool.and_eq_true,beq_iff_eq]at h
  rw [he,h.1,h.2]
 ·cases h
section
variable {P:Program} {ops:Array Oper} {Q:Exit→Act→World→Prop} {w:World} {rest:List Oper} {ts:List Value} {df:List Deferred} {ty:TypeId} {ps:String} {af:Array Edge} {g:Option (Nat×Bool)} {d:Nat} {kt et t:TypeId} {m:Nat} {ents:List (Value×Value)}
theorem HG (law:WideMaps.KeyLaw P kt) {es:Array MapEntry} {x:Value} {lx:Lit} (hx:keyOf P kt x=some lx) (h2:es.toList.map (fun e=>(e.key,e.val))=ents) (h3:∀ e∈es.toList,∃ l,keyOf P kt e.key=some l) :
 (∃ (i:Nat) (v:Value),ents[i]? = some (x,v)∧(Instr.findKey kt x es.toList).run P w=.ok (some (i,v)) w)∨((∀ (i:Nat) (e:Value×Value),ents[i]? = some e→e.1≠x)∧(Instr.findKey kt x es.toList).run P w=.ok none w):=by
 rcases law.find w hx es.toList h3 with ⟨h4,h5⟩|⟨j,e,h4,h5,h6⟩
 ·refine .inr ⟨fun i e hi=>?_,h4⟩
  subst h2
  rw [List.getElem?_map]at hi
  cases he:es.toList[i]? with
  | none=>rw [he]at hi;cases hi
  | some e' =>
   rw [he]at hi
   cases hi
   exact h5 e' (List.mem_of_getElem? he)
 ·refine .inl ⟨j,e.val,?_,h4⟩
  subst h2
  rw [List.getElem?_map,h5,Option.map_some,h6]
theorem gM (law:WideMaps.KeyLaw P kt) (ht:eI P t kt et=true) {z:Value} (hz:∀ w,(zeroValue et).run P w=.ok z w) (hm:MapAt P kt w m ents) {x:Value} {lx:Lit} (hx:keyOf P kt x=some lx) (ok:Bool) :
 ∃ v b,(Instr.lookup t (.map (some m)) x ok).run P w=.ok (if ok then .tuple #[v, .bool b]else v) w∧((∃ i:Nat,ents[i]? = some (x,v)∧b=true)∨((∀ (i:Nat) (e:Value×Value),ents[i]? = some e→e.1≠x)∧v=z∧b=false)):=by
 obtain ⟨es,c,h1,h2,h3⟩:=hm
 have hc:=law.check w es.isEmpty hx
 have hu:=gL ht
 have hgo:(getObj m).run P w=.ok (.map es c) w:=by simp [getObj,Sem.run,h1]
 rcases HG (w:=w) law hx h2 h3 with ⟨i,v,hi,hf⟩|⟨hn,hf⟩
 ·refine ⟨v,true,?_, .inl ⟨i,hi,rfl⟩⟩
  simp only [Instr.lookup,Sem.run_bind,run_underlying hu,Result.andThen_ok,hgo,Sem.run_pure,hc,hf]
 ·refine ⟨z,false,?_, .inr ⟨hn,rfl,rfl⟩⟩
  simp only [Instr.lookup,Sem.run_bind,run_underlying hu,Result.andThen_ok,hgo,Sem.run_pure,hc,hf,hz w]
theorem Runs.lookup {o:Option Nat} {a x:Operand} {v r:Value} {ok:Bool} (ha:(Act.mk ts.toArray df).eval a=.map (some m)) (hx:(Act.mk ts.toArray df).eval x=v) (h:(Instr.lookup t (.map (some m)) v ok).run P w=.ok r w) :
 Runs P (Oper.mk o (.lookup t a x ok) ty ps af g) (Act.mk ts.toArray df) w r:=by
 constructor
 simp [execOp,ha,hx,h]
theorem iZ (law:WideMaps.KeyLaw P kt) (ht:eI P t kt et=true) (hm:MapAt P kt w m ents) {x v:Value} {lx:Lit} (hx:keyOf P kt x=some lx) (hn:∀ (i:Nat) (e:Value×Value),ents[i]? = some e→e.1≠x) :
 ∃ w' o,(Instr.mapUpdate t (.map (some m)) x v).run P w=.ok () w'∧Put w w' m o∧MapAt P kt w' m (ents ++ [(x,v)]):=by
 obtain ⟨es,c,h1,h2,h3⟩:=hm
 have hc:=law.check w false hx
 have hu:=gL ht
 have hgo:(getObj m).run P w=.ok (.map es c) w:=by simp [getObj,Sem.run,h1]
 have hlt:=(Array.getElem?_eq_some_iff.1 h1).1
 rcases HG (w:=w) law hx h2 h3 with ⟨i,v',hi,hf⟩|⟨_,hf⟩
 ·exact absurd rfl (hn i _ hi)
 ·have hso:(setObj m (.map (es.push { key:=x,val:=v,born:=c }) (c+1))).run P w=.ok () (w.putObj m (.map (es.push { key:=x,val:=v,born:=c }) (c+1))):=by
   simp [setObj,Sem.run,h1,World.putObj]
  have hp:=fK (o':=.map (es.push { key:=x,val:=v,born:=c }) (c+1)) h1
  refine ⟨_,_,?_,hp,⟨_,_,hp.this,by simp [h2],?_⟩⟩
  ·simp only [Instr.mapUpdate,Sem.run_bind,run_underlying hu,Result.andThen_ok,hgo,hc,hf,hso]
  ·intro e he
   simp only [Array.toList_push,List.mem_append,List.mem_singleton]at he
   rcases he with he|rfl
   ·exact h3 e he
   ·exact ⟨lx,hx⟩
theorem eQ {a x y:Operand} {ty2:TypeId} {v u:Value} {w':World} (hw:Region.wanted (Oper.mk none (.mapUpdate t a x y) ty2 ps af g) (yielded ops ts.toArray)=true)
 (ha:(Act.mk ts.toArray df).eval a=.map (some m)) (hx:(Act.mk ts.toArray df).eval x=v) (hy:(Act.mk ts.toArray df).eval y=u) (hr:(Instr.mapUpdate t (.map (some m)) v u).run P w=.ok () w')
 (h:wpList P ops Q rest (Act.mk ts.toArray df) w'):wpList P ops Q (Oper.mk none (.mapUpdate t a x y) ty2 ps af g::rest) (Act.mk ts.toArray df) w:=by
 refine iP hw (w':=w') ?_ h
 simp [execOp,ha,hx,hy,hr]
theorem nD (hw:Region.wanted (Oper.mk (some d) (.makeMap t none) ty ps af g) (yielded ops ts.toArray)=true)
 (h:∀ w',Ext w w'→w'.heap.size=w.heap.size+1→MapAt P kt w' w.heap.size []→wpList P ops Q rest (Act.mk (ts.set d (.map (some w.heap.size))).toArray df) w') :
 wpList P ops Q (Oper.mk (some d) (.makeMap t none) ty ps af g::rest) (Act.mk ts.toArray df) w:=by
 refine nC hw (v:=.map (some w.heap.size)) (w':=w.alloc (.map #[] 0)) ?_ (h _ (Ext.alloc _ _) (by simp) ⟨#[],0,heap_alloc_new w _,rfl,by simp⟩)
 simp [execOp,Instr.makeMap,newObj,Sem.run]
end
theorem Runs.fieldLit {P:Program} {w:World} {ts:List Value} {df:List Deferred} {d:Option Nat} {ty:TypeId} {ps:String} {af:Array Edge} {g:Option (Nat×Bool)} {s:TypeId} {m n b o:Nat} (h:ts.getD m undef=.pointer (some ⟨b,o,none⟩)) (hf:mY P s n n=true) :
 Runs P (Oper.mk d (.fieldAddr s (.tmp m) n) ty ps af g) (Act.mk ts.toArray df) w (aV (ts.getD m undef) n):=by
 obtain ⟨fs,f,i,ht,hf,ho,hie,hz⟩:=lO hf
 have e1:(Act.mk ts.toArray df).eval (.tmp m)=.pointer (some ⟨b,o,none⟩):=by rw [fY];exact h
 constructor
 rw [h]
 simp [execOp,e1,Instr.fieldAt,Instr.sureAddr,run_underlying ht,hf,fieldPlace,sizeOf,typeInfo,hie,hz,aV,ho]
section
variable {P:Program} {ops:Array Oper} {Q:Exit→Act→World→Prop} {md:Region.Mode} {S:Array Bool→World→Prop}
def Closed (md:Region.Mode) (ops:Array Oper) (listed:Array Bool):Prop:=∀ (j:Nat) oj,ops[j]? = some oj→listed.getD j false=true→∀ e∈oj.after,Region.binds md e=true→listed.getD e.on false=true
theorem Closed.start (n:Nat):Closed md ops (Array.replicate n false):=fun j oj _ h=>by rw [getD_replicate_false]at h;cases h
theorem Closed.set {i:Nat} {listed:Array Bool} (inv:Closed md ops listed) (hi:i∈Region.ready md ops listed):Closed md ops (listed.setIfInBounds i true):=by
 obtain ⟨_,oi,hoi,hall⟩:=mem_ready.1 hi
 intro j oj hj hl e he hb
 by_cases hij:i=j
 ·subst hij
  have:oj=oi:=Option.some.inj (hj.symm.trans hoi)
  subst this
  exact getD_set_true (hall e he hb)
 ·rw [getD_set_ne false hij]at hl
  exact getD_set_true (inv j oj hj hl e he hb)
def tU (md:Region.Mode) (ops:Array Oper):Nat→Nat→Nat→Bool
 | 0,k,i=>k == i
 | f+1,k,i=>k == i||(match ops[k]? with|some o=>o.after.toList.any fun e=>Region.binds md e&&tU md ops f e.on i|none=>false)
theorem Closed.reaches {listed:Array Bool} (inv:Closed md ops listed):∀ (f k i:Nat),X.tU md ops f k i=true→listed.getD k false=true→listed.getD i false=true
 | 0,k,i,h,hk=>by have:k=i:=by simpa [X.tU]using h
                  subst this;exact hk
 | f+1,k,i,h,hk=>by
   simp only [X.tU,Bool.or_eq_true,beq_iff_eq]at h
   rcases h with h|h
   ·subst h;exact hk
   ·cases ho:ops[k]? with
    | none=>rw [ho]at h;cases h
    | some o =>
     rw [ho]at h
     obtain ⟨e,he,hb⟩:=List.any_eq_true.1 h
     simp only [Bool.and_eq_true]at hb
     exact inv.reaches f e.on i hb.2 (inv k o ho hk e (by simpa using he) hb.1)
def Eg (md:Region.Mode) (ops:Array Oper) (S:Array Bool→World→Prop) (i:Nat) (w:World):Prop:=∃ listed,Closed md ops listed∧listed.getD i true=false∧S listed w
def zE (P:Program) (md:Region.Mode) (ops:Array Oper) (Q:Exit→Act→World→Prop) (S:Array Bool→World→Prop):Nat→Array Bool→Act→World→Prop
 | 0,listed,a,w=>Region.ready md ops listed=[]∧Q .normal a w
 | fuel+1,listed,a,w =>
  (Region.ready md ops listed=[]→Q .normal a w) ∧
  ∀ i∈Region.ready md ops listed,wpOp P ops Q i (fun a' w'=>S (listed.setIfInBounds i true) w'∧zE P md ops Q S fuel (listed.setIfInBounds i true) a' w') a w
theorem zF:∀ (fuel:Nat) (listed:Array Bool) (a:Act) (w:World),zE P md ops Q S fuel listed a w→wpAny P md ops Q fuel listed a w
 | 0,_,_,_,h=>h
 | fuel+1,_,_,_,h=>⟨h.1,fun i hi=>wpOp_mono (fun a' w' h'=>zF fuel _ a' w' h'.2) (h.2 i hi)⟩
def Till (k:Nat) (F:World→Prop) (listed:Array Bool) (w:World):Prop:=listed.getD k false=false→F w
theorem Till.set {k i:Nat} {F:World→Prop} {listed:Array Bool} {w:World} (hik:i≠k):Till k F (listed.setIfInBounds i true) w↔Till k F listed w:=by
 unfold Till;rw [getD_set_ne false hik]
theorem tV {k i:Nat} {F:World→Prop} {oi:Oper} {v:Value} (hi:ops[i]? = some oi) (hik:i≠k) (hsel:∀ (j:Nat) (o:Oper) cs b,ops[j]? = some o→o.op≠.select cs b)
 (hQ:∀ c a w,Q (.panic c) (a.put oi.dst v) w→Q (.panic c) a w) :
 ∀ (fuel:Nat) (listed:Array Bool) (a:Act) (w:World),
   Closed md ops listed→(∀ j oj,ops[j]? = some oj→j≠i→listed.getD j true=false→(∀ e∈oj.after,Region.binds md e=true→e.on≠i)→oi.apart ops oj=true) →
   i∈Region.ready md ops listed→YieldsIf P ops (Eg md ops (Till k F) i) oi v a→Till k F listed w →
   zE P md ops Q (Till k F) fuel (listed.setIfInBounds i true) (a.put oi.dst v) w→zE P md ops Q (Till k F) (fuel+1) listed a w:=by
 intro fuel
 induction fuel with
 | zero =>
  intro listed a w hcl _ hr hy hS H
  have hun:=(mem_ready.1 hr).1
  refine ⟨fun h=>(by rw [h]at hr;cases hr),fun j hj=>?_⟩
  by_cases hji:j=i
  ·subst hji;exact hy.wpOp hi ⟨listed,hcl,hun,hS⟩ ⟨(Till.set hik).2 hS,H⟩
  ·have:=ready_mono hj hji
   rw [H.1]at this
   cases this
 | succ fuel ih =>
  intro listed a w hcl hfree hr hy hS H
  have hun:=(mem_ready.1 hr).1
  refine ⟨fun h=>(by rw [h]at hr;cases hr),fun j hj=>?_⟩
  by_cases hji:j=i
  ·subst hji;exact hy.wpOp hi ⟨listed,hcl,hun,hS⟩ ⟨(Till.set hik).2 hS,H⟩
  ·have h1:=H.2 j (ready_mono hj hji)
   obtain ⟨hjun,oj,hoj,hall⟩:=mem_ready.1 hj
   have hnot:∀ e∈oj.after,Region.binds md e=true→e.on≠i:=fun e he hb heq=>by
    have h1:=hall e he hb
    rw [heq,getD_both hun]at h1
    cases h1
   have h2:=wpOp_putIf hoj (hfree j oj hoj hji hjun hnot) (fun cs b=>hsel i oi cs b hi) (fun cs b=>hsel j oj cs b hoj) hQ hy h1
   have hfree':∀ k ok,ops[k]? = some ok→k≠i→(listed.setIfInBounds j true).getD k true=false →
    (∀ e∈ok.after,Region.binds md e=true→e.on≠i)→oi.apart ops ok=true:=fun k ok hk hki hun hno=>by
    refine hfree k ok hk hki ?_ hno
    by_cases hjk:j=k
    ·subst hjk;exact hjun
    ·rw [getD_set_ne true hjk]at hun;exact hun
   refine wpOp_mono (fun a' w' h3=>?_) h2
   have hS2:Till k F (listed.setIfInBounds j true) w':=by
    have:=h3.2.1
    rw [Array.setIfInBounds_comm _ _ (Ne.symm hji)]at this
    exact (Till.set hik).1 this
   refine ⟨hS2,ih (listed.setIfInBounds j true) a' w' (hcl.set hj) hfree' (ready_mono hr (Ne.symm hji)) h3.1 hS2 ?_⟩
   rw [Array.setIfInBounds_comm _ _ hji]
   exact h3.2.2
end
section
variable {P:Program} {Q:Exit→Act→World→Prop} {k:Nat} {F:World→Prop} {l:List Oper} {ts:List Value} {df:List Deferred} {d:Nat} {ty:TypeId} {ps:String} {af:Array Edge} {g:Option (Nat×Bool)} {w:World} {fuel fuel2:Nat} {listed:List Bool} {id:Nat}
def wT (P:Program) (Q:Exit→Act→World→Prop) (k:Nat) (F:World→Prop) (l:List Oper) (fuel:Nat) (listed:List Bool) (a:Act) (w:World):Prop:=Closed .any l.toArray listed.toArray∧Till k F listed.toArray w→zE P .any l.toArray Q (Till k F) fuel listed.toArray a w
theorem aO {a:Act} (k:Nat) (F:World→Prop) (hm:P.follows .mixedOrders=true)
 (h:∀ w1,Ext w w1→w1.heap=w.heap→F w1∧wT P Q k F l l.length (List.replicate l.length false) a w1):(Code.region id l.toArray true).wp P Q a w:=by
 refine wp_region_any hm (zF (S:=Till k F) _ _ _ _ ?_)
 obtain ⟨h1,h2⟩:=h { w with drawn:=w.drawn+1 } (Ext.drew w) rfl
 have:=h2 ⟨by simpa using Closed.start _,fun _=>h1⟩
 simpa using this
theorem bT {i:Nat} {op:Op} {v:Value} (hi:l[i]? = some (Oper.mk (some d) op ty ps af g)) (hfu:fuel2=fuel+1) (hik:decide (i≠k)=true) (hk:tU .any l.toArray l.length k i=true) (hs:Region.noSelect l.toArray=true) (hf:Region.free .any l.toArray listed.toArray i=true) (hr:(Region.ready .any l.toArray listed.toArray).contains i=true)
 (hw:Region.wanted (Oper.mk (some d) op ty ps af g) (yielded l.toArray ts.toArray)=true)
 (hy:∀ w',F w'→Runs P (Oper.mk (some d) op ty ps af g) (Act.mk ts.toArray df) w' v) (hQ:∀ c a w,Q (.panic c) (a.put (some d) v) w→Q (.panic c) a w)
 (h:wT P Q k F l fuel (listed.set i true) (Act.mk (ts.set d v).toArray df) w):wT P Q k F l fuel2 listed (Act.mk ts.toArray df) w:=by
 subst hfu
 rintro ⟨hcl,hS⟩
 have hik':i≠k:=by simpa using hik
 have hr':i∈Region.ready .any l.toArray listed.toArray:=by simpa using hr
 refine tV (oi:=Oper.mk (some d) op ty ps af g) (v:=v) (by simpa using hi) hik' (Region.noSelect_spec hs) hQ fuel listed.toArray _ w hcl (Region.free_spec (by simpa using hi) hf) hr' (.inl ⟨hw,fun w' ⟨l',hcl',hun',hS'⟩=>(hy w' (hS' ?_)).run⟩) hS ?_
 ·cases hkl:l'.getD k false with
  | false=>rfl
  | true =>
   have:=hcl'.reaches _ k i hk hkl
   rw [getD_both hun']at this
   cases this
 ·have:=h ⟨by simpa using hcl.set hr',by simpa using (Till.set hik').2 hS⟩
  simpa [Act.put]using this
theorem jA {i:Nat} {op:Op} {v:Value} (hi:l[i]? = some (Oper.mk (some d) op ty ps af g)) (hfu:fuel2=fuel+1) (hik:decide (i≠k)=true) (hs:Region.noSelect l.toArray=true) (hf:Region.free .any l.toArray listed.toArray i=true) (hr:(Region.ready .any l.toArray listed.toArray).contains i=true)
 (hw:Region.wanted (Oper.mk (some d) op ty ps af g) (yielded l.toArray ts.toArray)=true)
 (hy:∀ w',Runs P (Oper.mk (some d) op ty ps af g) (Act.mk ts.toArray df) w' v) (hQ:∀ c a w,Q (.panic c) (a.put (some d) v) w→Q (.panic c) a w)
 (h:wT P Q k F l fuel (listed.set i true) (Act.mk (ts.set d v).toArray df) w):wT P Q k F l fuel2 listed (Act.mk ts.toArray df) w:=by
 subst hfu
 rintro ⟨hcl,hS⟩
 have hik':i≠k:=by simpa using hik
 have hr':i∈Region.ready .any l.toArray listed.toArray:=by simpa using hr
 refine tV (oi:=Oper.mk (some d) op ty ps af g) (v:=v) (by simpa using hi) hik' (Region.noSelect_spec hs) hQ fuel listed.toArray _ w hcl (Region.free_spec (by simpa using hi) hf) hr' (.inl ⟨hw,fun w' _=>(hy w').run⟩) hS ?_
 have:=h ⟨by simpa using hcl.set hr',by simpa using (Till.set hik').2 hS⟩
 simpa [Act.put]using this
theorem YZ {i:Nat} {o:Oper} {a:Act} (hr:Region.ready .any l.toArray listed.toArray=[i]) (hi:l[i]? = some o) (hfu:fuel2=fuel+1)
 (h:wpList P l.toArray (pD Q fun a' w'=>Till k F (listed.set i true).toArray w'∧wT P Q k F l fuel (listed.set i true) a' w') [o] a w):wT P Q k F l fuel2 listed a w:=by
 subst hfu
 rintro ⟨hcl,hS⟩
 refine ⟨fun h0=>(by rw [hr]at h0;cases h0),fun j hj=>?_⟩
 have hj':=hj
 rw [hr]at hj
 have:j=i:=by simpa using hj
 subst this
 refine wpOp_mono (fun a' w' h3=>?_) (dI (o:=o) (by simpa using hi) h)
 have hcl2:Closed .any l.toArray (listed.set j true).toArray:=by simpa using hcl.set hj'
 refine ⟨by simpa using h3.1,?_⟩
 have:=h3.2 ⟨hcl2,h3.1⟩
 simpa using this
theorem ET {i j:Nat} {o o':Oper} {a:Act} (hr:Region.ready .any l.toArray listed.toArray=[i,j]) (hi:l[i]? = some o) (hj:l[j]? = some o') (hfu:fuel2=fuel+1)
 (h1:wpList P l.toArray (pD Q fun a' w'=>Till k F (listed.set i true).toArray w'∧wT P Q k F l fuel (listed.set i true) a' w') [o] a w)
 (h2:wpList P l.toArray (pD Q fun a' w'=>Till k F (listed.set j true).toArray w'∧wT P Q k F l fuel (listed.set j true) a' w') [o'] a w):wT P Q k F l fuel2 listed a w:=by
 subst hfu
 rintro ⟨hcl,hS⟩
 refine ⟨fun h0=>(by rw [hr]at h0;cases h0),fun n hn=>?_⟩
 have hn':=hn
 rw [hr]at hn
 have:n=i∨n=j:=by simpa using hn
 rcases this with rfl|rfl
 ·refine wpOp_mono (fun a' w' h3=>?_) (dI (o:=o) (by simpa using hi) h1)
  have hcl2:Closed .any l.toArray (listed.set n true).toArray:=by simpa using hcl.set hn'
  refine ⟨by simpa using h3.1,?_⟩
  have:=h3.2 ⟨hcl2,h3.1⟩
  simpa using this
 ·refine wpOp_mono (fun a' w' h3=>?_) (dI (o:=o') (by simpa using hj) h2)
  have hcl2:Closed .any l.toArray (listed.set n true).toArray:=by simpa using hcl.set hn'
  refine ⟨by simpa using h3.1,?_⟩
  have:=h3.2 ⟨hcl2,h3.1⟩
  simpa using this
theorem PV {a:Act} (hr:Region.ready .any l.toArray listed.toArray=[]) (h:Q .normal a w):wT P Q k F l fuel listed a w:=by
 intro _
 cases fuel with
 | zero=>exact ⟨hr,h⟩
 | succ n=>exact ⟨fun _=>h,by rw [hr];simp⟩
theorem aR {listed:List Bool} (h:F w):Till k F listed.toArray w:=fun _=>h
theorem aN {listed:List Bool} (h:listed.toArray.getD k false=true):Till k F listed.toArray w:=fun h'=>by rw [h]at h';cases h'
theorem LW {α:Type} {F:α→World→Prop} {G:α→World→Prop} {goal:Prop} (h1:(∀ x w',F x w'→G x w')→goal) (h2:∀ x w',F x w'→G x w'):goal:=h1 h2
end
open Go.Deep
section
variable {H:Type} {enc:TypeId×Value→H} {P:Program} {w:World} {base:Nat} {spare:Nat→Bool} {held:Bool}
theorem tW {t:TypeId} {fuel:Nat} {c:Value} {x:DataW H×List MemPlace} (ht:P.underlying t=some .string) (h:DataW.trod enc P w base spare held fuel t [c]=some x):∃ s:List UInt8,c=aE s∧s.length≤maxLen:=by
 obtain ⟨s,h1,_,h3⟩:=DataW.trod_string ht h
 refine ⟨s.data.toList,?_,by rw [Array.length_toList];exact h3⟩
 simp only [List.cons.injEq,and_true]at h1
 rw [h1,aE,Array.toArray_toList]
theorem tX {t:TypeId} {k:IntKind} {fuel:Nat} {c:Value} {x:DataW H×List MemPlace} (ht:P.underlying t=some (.int k)) (h:DataW.trod enc P w base spare held fuel t [c]=some x):∃ n:Int,c=.int k n∧(Lit.int k n).wf=true:=by
 obtain ⟨n,h1,_,h3⟩:=DataW.trod_int ht h
 exact ⟨n,by simpa using h1,h3⟩
theorem rQ {t e:TypeId} {k fuel:Nat} {v:Value} {x:DataW H×List MemPlace} (ht:P.underlying t=some (.slice e)) (hc:P.cellsOf e=k) (hk:0<k) (h:DataW.trod enc P w base spare held fuel t [v]=some x) :
 ∃ es:List (List Value),Sl k w v es∧∀ c∈es,∃ n y,DataW.trod enc P w base spare held n e c=some y:=by
 rcases open_slice ht h with ⟨h0,_⟩|⟨a,len,cap,m,n,D,Pl,h0,hb,hl,hm,hmm,_,hx⟩
 ·simp only [List.cons.injEq,and_true]at h0
  subst h0
  exact ⟨[],Sl.nil _ _,by simp⟩
 ·simp only [List.cons.injEq,and_true]at h0
  subst h0
  have hlm:len≤m:=by rw [hmm];split<;>omega
  obtain ⟨f,hf⟩:=choose_lt (α:=List Value) (p:=fun i cs=>w.cells? base (a.add (i*P.cellsOf e)) (P.cellsOf e)=some cs∧DataW.trod enc P w base spare held n e cs=some (D i,Pl i)) (n:=len) (fun i hi=>hx i (by omega))
  have hfl:∀ i,i<len→(f i).length=k:=fun i hi=>by
   obtain ⟨_,h2,_⟩:=World.cells?_some (hf i hi).1
   rw [h2,hc]
  have hcell:∀ i,i<len→∀ j u,(f i)[j]? = some u→w.cell? ((a.add (i*k)).add j)=some u:=fun i hi j u hu=>by
   obtain ⟨_,h2,h3⟩:=World.cells?_some (hf i hi).1
   have hj:=(List.getElem?_eq_some_iff.1 hu).1
   have:=h3 j (by rw [← h2];exact hj)
   rw [hc]at this
   rw [this,hu]
  refine ⟨(List.range len).map f,⟨some a,cap,by simp,by simpa using hl,by simpa [maxLen]using hm,?_,(fun h=>by cases h),?_⟩,?_⟩
  ·intro x hx
   obtain ⟨i,hi,rfl⟩:=List.mem_map.1 hx
   exact hfl i (List.mem_range.1 hi)
  ·intro hne
   have hlen:0<len:=by
    rcases Nat.eq_zero_or_pos len with h|h
    ·subst h;simp at hne
    ·exact h
   obtain ⟨b,o,sp⟩:=a
   have h0:=hcell 0 hlen 0 ((f 0)[0]'(by rw [hfl 0 hlen];exact hk)) (List.getElem?_eq_getElem _)
   have hsp:sp=none:=by
    have:=World.cell?_spot h0
    simpa [Addr.add]using this
   subst hsp
   refine ⟨b,o,rfl,fun i e j x hi hj=>?_⟩
   rw [List.getElem?_map]at hi
   have hil:i<len:=by
    rcases Nat.lt_or_ge i len with h|h
    ·exact h
    ·rw [List.getElem?_eq_none (by simpa using h)]at hi;cases hi
   rw [List.getElem?_range hil]at hi
   cases hi
   have:=hcell i hil j x hj
   rw [cY,cY]at this
   exact this
  ·intro c hc
   obtain ⟨i,hi,rfl⟩:=List.mem_map.1 hc
   exact ⟨n,_,(hf i (List.mem_range.1 hi)).2⟩
theorem tZ {α β:Type} {f:α→β}:∀ {l:List β},(∀ x∈l,∃ y,x=f y)→∃ m:List α,l=m.map f
 | [],_=>⟨[],rfl⟩
 | x::l,h=>by
   obtain ⟨y,rfl⟩:=h x (by simp)
   obtain ⟨m,rfl⟩:=tZ (l:=l) (fun z hz=>h z (by simp [hz]))
   exact ⟨y::m,rfl⟩
end
theorem aB {G G':Prop} (h:G') (e:G=G':=by ((simp only [List.set_cons_succ,List.set_cons_zero,List.getD_cons_succ,List.getD_cons_zero,List.length_map,if_true,Bool.false_eq_true,if_false,Int.toNat_natCast,Int.toNat_zero,Int.toNat_one,Nat.zero_mul,Bool.not_true,Bool.not_false,decide_true,decide_false]);(with_reducible exact rfl))):G:=e.mpr h
theorem fP {w w':World} (h:Ext w w':=by (repeat (first|(with_reducible assumption)|exact Ext.refl _|(refine Ext.trans ?_ (by with_reducible assumption))))):Ext w w':=h
theorem rn {P:Program} {o:Oper} {a:Act} {w:World} {v:Value} (h:Runs P o a w v:=by (first|exact Runs.moveT _|exact Runs.assignT _|exact Runs.moveC _|exact Runs.assignC _|((apply Runs.pickTC);(rfl))|((apply Runs.pickCT);(rfl))|((apply Runs.pickT);(rfl))|((apply Runs.len);((first|assumption|(apply Sl.ext;(assumption);(repeat (first|(with_reducible assumption)|exact Ext.refl _|(refine Ext.trans ?_ (by with_reducible assumption)))))));(decide +kernel))|((apply Runs.lenS);(rfl);(decide +kernel))|((apply Runs.idxT);(rfl);((first|assumption|(apply Sl.ext;(assumption);(repeat (first|(with_reducible assumption)|exact Ext.refl _|(refine Ext.trans ?_ (by with_reducible assumption)))))));((first|assumption|omega|(simp only [List.length_map,List.length_cons,Int.toNat_natCast,Int.toNat_zero,Int.toNat_one];omega)));(decide +kernel))|((apply Runs.fieldLit);(rfl);(decide +kernel))|((apply Runs.fieldTn);((first|assumption|(apply Pts.ext;(assumption);(repeat (first|(with_reducible assumption)|exact Ext.refl _|(refine Ext.trans ?_ (by with_reducible assumption)))))));(decide +kernel))|((apply Runs.loadP);((first|rfl|(simp only [List.getD_cons_succ,List.getD_cons_zero];with_reducible rfl)));((first|assumption|(apply Pts.ext;(assumption);(repeat (first|(with_reducible assumption)|exact Ext.refl _|(refine Ext.trans ?_ (by with_reducible assumption)))))));(rfl);(decide +kernel))|((apply Runs.load);((first|assumption|(apply Pts.ext;(assumption);(repeat (first|(with_reducible assumption)|exact Ext.refl _|(refine Ext.trans ?_ (by with_reducible assumption)))))));(decide +kernel))|((apply Runs.loadN);((first|assumption|(apply Pts.ext;(assumption);(repeat (first|(with_reducible assumption)|exact Ext.refl _|(refine Ext.trans ?_ (by with_reducible assumption)))))));((first|(simp only [List.length_cons,List.length_nil,Nat.zero_add,Nat.reduceAdd];done)|(simp only [List.length_cons,List.length_nil,Nat.zero_add,Nat.reduceAdd];rfl)));(decide +kernel))|((apply Runs.extract);(rfl);(rfl))|((apply Runs.not);(rfl))|((apply Runs.lss);(rfl);(rfl))|((apply Runs.leq);(rfl);(rfl))|((apply Runs.gtr);(rfl);(rfl))|((apply Runs.geq);(rfl);(rfl))|((apply Runs.eql);(rfl);(rfl))|((apply Runs.neq);(rfl);(rfl))|((apply Runs.inc);(rfl);(rfl);((first|assumption|omega|(simp only [List.length_map,List.length_cons,Int.toNat_natCast,Int.toNat_zero,Int.toNat_one];omega))))|((apply Runs.add);(rfl);(rfl);((first|assumption|omega|(simp only [List.length_map,List.length_cons,Int.toNat_natCast,Int.toNat_zero,Int.toNat_one];omega))))|((apply Runs.sub);(rfl);(rfl);((first|assumption|omega|(simp only [List.length_map,List.length_cons,Int.toNat_natCast,Int.toNat_zero,Int.toNat_one];omega))))|((apply Runs.addU);(rfl);(rfl))|((apply Runs.subU);(rfl);(rfl))|((apply Runs.eqlS);(rfl);(rfl))|((apply Runs.neqS);(rfl);(rfl))|((apply Runs.lssS);(rfl);(rfl))|((apply Runs.geqS);(rfl);(rfl))|((apply Runs.gtrS);(rfl);(rfl))|((apply Runs.idxS);(rfl);(rfl);((first|assumption|omega|(simp only [List.length_map,List.length_cons,Int.toNat_natCast,Int.toNat_zero,Int.toNat_one];omega)));(decide +kernel))|((apply Runs.idxTI);(rfl);((first|assumption|(apply Sl.ext;(assumption);(repeat (first|(with_reducible assumption)|exact Ext.refl _|(refine Ext.trans ?_ (by with_reducible assumption)))))));((first|assumption|omega|(simp only [List.length_map,List.length_cons,Int.toNat_natCast,Int.toNat_zero,Int.toNat_one];omega)));((first|assumption|omega|(simp only [List.length_map,List.length_cons,Int.toNat_natCast,Int.toNat_zero,Int.toNat_one];omega)));(decide +kernel))|((apply Runs.idxSI);(rfl);(rfl);((first|assumption|omega|(simp only [List.length_map,List.length_cons,Int.toNat_natCast,Int.toNat_zero,Int.toNat_one];omega)));((first|assumption|omega|(simp only [List.length_map,List.length_cons,Int.toNat_natCast,Int.toNat_zero,Int.toNat_one];omega)));(decide +kernel))|((apply Runs.convB);(rfl);(decide +kernel);(decide +kernel))|((apply Runs.cutSI);(rfl);(rfl);(rfl);((first|assumption|omega|(simp only [List.length_map,List.length_cons,Int.toNat_natCast,Int.toNat_zero,Int.toNat_one];omega)));((first|assumption|omega|(simp only [List.length_map,List.length_cons,Int.toNat_natCast,Int.toNat_zero,Int.toNat_one];omega)));((first|assumption|omega|(simp only [List.length_map,List.length_cons,Int.toNat_natCast,Int.toNat_zero,Int.toNat_one];omega)));(decide +kernel))|((apply Runs.dropSI);(rfl);(rfl);((first|assumption|omega|(simp only [List.length_map,List.length_cons,Int.toNat_natCast,Int.toNat_zero,Int.toNat_one];omega)));((first|assumption|omega|(simp only [List.length_map,List.length_cons,Int.toNat_natCast,Int.toNat_zero,Int.toNat_one];omega)));(decide +kernel))|((apply Runs.takeSI);(rfl);(rfl);((first|assumption|omega|(simp only [List.length_map,List.length_cons,Int.toNat_natCast,Int.toNat_zero,Int.toNat_one];omega)));((first|assumption|omega|(simp only [List.length_map,List.length_cons,Int.toNat_natCast,Int.toNat_zero,Int.toNat_one];omega)));(decide +kernel))|((apply Runs.cutTI);(rfl);(rfl);((first|assumption|(apply Sl.ext;(assumption);(repeat (first|(with_reducible assumption)|exact Ext.refl _|(refine Ext.trans ?_ (by with_reducible assumption)))))));((first|assumption|omega|(simp only [List.length_map,List.length_cons,Int.toNat_natCast,Int.toNat_zero,Int.toNat_one];omega)));((first|assumption|omega|(simp only [List.length_map,List.length_cons,Int.toNat_natCast,Int.toNat_zero,Int.toNat_one];omega)));((first|assumption|omega|(simp only [List.length_map,List.length_cons,Int.toNat_natCast,Int.toNat_zero,Int.toNat_one];omega)));(decide +kernel))|((apply Runs.dropTI);(rfl);((first|assumption|(apply Sl.ext;(assumption);(repeat (first|(with_reducible assumption)|exact Ext.refl _|(refine Ext.trans ?_ (by with_reducible assumption)))))));((first|assumption|omega|(simp only [List.length_map,List.length_cons,Int.toNat_natCast,Int.toNat_zero,Int.toNat_one];omega)));((first|assumption|omega|(simp only [List.length_map,List.length_cons,Int.toNat_natCast,Int.toNat_zero,Int.toNat_one];omega)));(decide +kernel))|((apply Runs.takeTI);(rfl);((first|assumption|(apply Sl.ext;(assumption);(repeat (first|(with_reducible assumption)|exact Ext.refl _|(refine Ext.trans ?_ (by with_reducible assumption)))))));((first|assumption|omega|(simp only [List.length_map,List.length_cons,Int.toNat_natCast,Int.toNat_zero,Int.toNat_one];omega)));((first|assumption|omega|(simp only [List.length_map,List.length_cons,Int.toNat_natCast,Int.toNat_zero,Int.toNat_one];omega)));(decide +kernel))|((apply Runs.shr);(rfl);(rfl);(decide +kernel);(decide +kernel))|((apply Runs.shl8);(rfl);(rfl);((first|assumption|omega|(simp only [List.length_map,List.length_cons,Int.toNat_natCast,Int.toNat_zero,Int.toNat_one];omega))))|((apply Runs.or8);(rfl);(rfl);((first|assumption|omega|(simp only [List.length_map,List.length_cons,Int.toNat_natCast,Int.toNat_zero,Int.toNat_one];omega)));((first|assumption|omega|(simp only [List.length_map,List.length_cons,Int.toNat_natCast,Int.toNat_zero,Int.toNat_one];omega))))|((apply Runs.mul);(rfl);(rfl);((first|assumption|omega|(simp only [List.length_map,List.length_cons,Int.toNat_natCast,Int.toNat_zero,Int.toNat_one];omega))))|exact Runs.func1|exact Runs.func0|exact Runs.func2|exact Runs.func3|((apply Runs.nilS);((first|assumption|(apply Sl.ext;(assumption);(repeat (first|(with_reducible assumption)|exact Ext.refl _|(refine Ext.trans ?_ (by with_reducible assumption)))))));(decide +kernel))|((apply Runs.nilP);(rfl))|((apply Runs.nilPts);((first|assumption|(apply Pts.ext;(assumption);(repeat (first|(with_reducible assumption)|exact Ext.refl _|(refine Ext.trans ?_ (by with_reducible assumption))))))))|((apply Runs.minI);(rfl);(rfl))|((apply Runs.strOf (e:=5));((first|assumption|(apply Sl.ext;(assumption);(repeat (first|(with_reducible assumption)|exact Ext.refl _|(refine Ext.trans ?_ (by with_reducible assumption)))))));(decide +kernel);(decide +kernel))|((apply Runs.addS);(rfl);(rfl);((first|omega|(simp only [List.length_append,List.length_cons,List.length_nil];omega))))|((apply Runs.convU);(rfl);(decide +kernel);(decide +kernel))|((apply Runs.convS);(rfl);(decide +kernel);(decide +kernel)))):Runs P o a w v:=h
structure St (P:Program) (ops:Array Oper) (Q:Exit→Act→World→Prop) (rest:List Oper) (o:Oper) (ts:List Value) (df:List Deferred) (w:World):Prop where
 out:wpList P ops Q (o::rest) (Act.mk ts.toArray df) w
section
variable {P:Program} {ops:Array Oper} {Q:Exit→Act→World→Prop} {rest:List Oper} {o:Oper} {ts ts' t1 t0:List Value} {df:List Deferred} {w:World} {d e j:Nat} {op:Op} {ty:TypeId} {ps:String} {af:Array Edge} {b want:Bool} {v:Value} {p1 p0:Prop}
theorem aS (h:St P ops Q rest o ts df w):wpList P ops Q (o::rest) (Act.mk ts.toArray df) w:=h.out
inductive SR (P:Program) (o:Oper) (ts:List Value) (df:List Deferred) (w:World) (d:Nat) (ts':List Value):Prop
 | mk {v:Value} (h1:Runs P o (Act.mk ts.toArray df) w v) (h2:ts.set d v=ts'):SR P o ts df w d ts'
structure S1 (P:Program) (ops:Array Oper) (Q:Exit→Act→World→Prop) (rest:List Oper) (d:Nat) (op:Op) (ty:TypeId) (ps:String) (af:Array Edge) (ts:List Value) (df:List Deferred) (w:World):Prop where
 out:St P ops Q rest (Oper.mk (some d) op ty ps af none) ts df w
structure G1 (P:Program) (ops:Array Oper) (Q:Exit→Act→World→Prop) (rest:List Oper) (dd:Option Nat) (op:Op) (ty:TypeId) (ps:String) (af:Array Edge) (j:Nat) (want:Bool) (ts:List Value) (df:List Deferred) (w:World):Prop where
 out:St P ops Q rest (Oper.mk dd op ty ps af (some (j,want))) ts df w
theorem gV (h:S1 P ops Q rest d op ty ps af ts df w):St P ops Q rest (Oper.mk (some d) op ty ps af none) ts df w:=h.out
theorem lY {dd:Option Nat} (h:G1 P ops Q rest dd op ty ps af j want ts df w):St P ops Q rest (Oper.mk dd op ty ps af (some (j,want))) ts df w:=h.out
theorem JZ (h:wpList P ops Q rest (Act.mk ts'.toArray df) w) (hr:SR P (Oper.mk (some d) op ty ps af none) ts df w d ts':=by (apply SR.mk;(exact rn);(((simp only [List.set_cons_succ,List.set_cons_zero,List.getD_cons_succ,List.getD_cons_zero,List.length_map,if_true,Bool.false_eq_true,if_false,Int.toNat_natCast,Int.toNat_zero,Int.toNat_one,Nat.zero_mul,Bool.not_true,Bool.not_false,decide_true,decide_false]);(with_reducible exact rfl))))) :
 S1 P ops Q rest d op ty ps af ts df w:=by obtain ⟨hr,e⟩:=hr;exact ⟨⟨aG hr (e▸h)⟩⟩
theorem nR {dd:Option Nat} (h:wpList P ops Q (Oper.mk dd op ty ps af none::rest) (Act.mk ts.toArray df) w) (h1:(ops[j]?).bind (·.dst)=some e:=by rfl) (h2:ts.getD e undef=.bool b:=by rfl) (h3:b=want:=by (with_reducible rfl)) :
 G1 P ops Q rest dd op ty ps af j want ts df w:=⟨⟨sP h1 h2 (fun _=>h) (fun h'=>(by rw [h3]at h';cases want<;>cases h'))⟩⟩
theorem GR (h:wpList P ops Q rest (Act.mk ts'.toArray df) w) (h1:(ops[j]?).bind (·.dst)=some e:=by rfl) (h2:ts.getD e undef=.bool b:=by rfl) (h3:b = !want:=by (first|(with_reducible exact (rfl:true = !false))|(with_reducible exact (rfl:false = !true))|(exact Bool.not_false.symm)|(exact Bool.not_true.symm))) (e:ts.set d undef=ts':=by ((simp only [List.set_cons_succ,List.set_cons_zero,List.getD_cons_succ,List.getD_cons_zero,List.length_map,if_true,Bool.false_eq_true,if_false,Int.toNat_natCast,Int.toNat_zero,Int.toNat_one,Nat.zero_mul,Bool.not_true,Bool.not_false,decide_true,decide_false]);(with_reducible exact rfl))) :
 G1 P ops Q rest (some d) op ty ps af j want ts df w:=⟨⟨NH h1 h2 h3 (e▸h)⟩⟩
theorem GT (h:wpList P ops Q rest (Act.mk ts'.toArray df) w) (h1:(ops[j]?).bind (·.dst)=some e:=by rfl) (h2:ts.getD e undef=undef:=by rfl) (e:ts.set d undef=ts':=by ((simp only [List.set_cons_succ,List.set_cons_zero,List.getD_cons_succ,List.getD_cons_zero,List.length_map,if_true,Bool.false_eq_true,if_false,Int.toNat_natCast,Int.toNat_zero,Int.toNat_one,Nat.zero_mul,Bool.not_true,Bool.not_false,decide_true,decide_false]);(with_reducible exact rfl))) :
 G1 P ops Q rest (some d) op ty ps af j want ts df w:=⟨⟨YX ⟨h1,h2⟩ (e▸h)⟩⟩
theorem GW (h:wpList P ops Q rest (Act.mk ts.toArray df) w) (h1:(ops[j]?).bind (·.dst)=some e:=by rfl) (h2:ts.getD e undef=.bool b:=by rfl) (h3:b = !want:=by (first|(with_reducible exact (rfl:true = !false))|(with_reducible exact (rfl:false = !true))|(exact Bool.not_false.symm)|(exact Bool.not_true.symm))) :
 G1 P ops Q rest none op ty ps af j want ts df w:=⟨⟨PS (GV.mk h1 h2 ⟨fun h'=>(by rw [h3]at h';cases want<;>cases h'),fun _=>h⟩)⟩⟩
theorem EU (k1:p1→wpList P ops Q (Oper.mk (some d) op ty ps af none::rest) (Act.mk t1.toArray df) w) (k0:p0→wpList P ops Q rest (Act.mk t0.toArray df) w)
 (h1:(ops[j]?).bind (·.dst)=some e:=by rfl) (h2:ts.getD e undef=.bool b:=by rfl) (hp1:(b=want)=p1:=by ((first|(simp only [decide_eq_true_eq,decide_eq_false_iff_not,Bool.not_true,Bool.not_false];(with_reducible exact rfl))|(with_reducible exact rfl)))) (hp0:(b = !want)=p0:=by ((first|(simp only [decide_eq_true_eq,decide_eq_false_iff_not,Bool.not_true,Bool.not_false];(with_reducible exact rfl))|(with_reducible exact rfl))))
 (e1:b=want→ts=t1:=by (intro hcW;(try simp only [hcW,Bool.not_true,Bool.not_false]);(try simp only [List.set_cons_succ,List.set_cons_zero,List.getD_cons_succ,List.getD_cons_zero,List.length_map,if_true,Bool.false_eq_true,if_false,Int.toNat_natCast,Int.toNat_zero,Int.toNat_one,Nat.zero_mul,Bool.not_true,Bool.not_false,decide_true,decide_false]);(with_reducible exact rfl))) (e0:b = !want→ts.set d undef=t0:=by (intro hcW;(try simp only [hcW,Bool.not_true,Bool.not_false]);(try simp only [List.set_cons_succ,List.set_cons_zero,List.getD_cons_succ,List.getD_cons_zero,List.length_map,if_true,Bool.false_eq_true,if_false,Int.toNat_natCast,Int.toNat_zero,Int.toNat_one,Nat.zero_mul,Bool.not_true,Bool.not_false,decide_true,decide_false]);(with_reducible exact rfl))):G1 P ops Q rest (some d) op ty ps af j want ts df w :=
 ⟨⟨YY ⟨h1,h2,fun h=>e1 h▸k1 (hp1▸h),fun h=>e0 h▸k0 (hp0▸h)⟩⟩⟩
theorem EV (k1:p1→wpList P ops Q (Oper.mk none op ty ps af none::rest) (Act.mk t1.toArray df) w) (k0:p0→wpList P ops Q rest (Act.mk t0.toArray df) w)
 (h1:(ops[j]?).bind (·.dst)=some e:=by rfl) (h2:ts.getD e undef=.bool b:=by rfl) (hp1:(b=want)=p1:=by ((first|(simp only [decide_eq_true_eq,decide_eq_false_iff_not,Bool.not_true,Bool.not_false];(with_reducible exact rfl))|(with_reducible exact rfl)))) (hp0:(b = !want)=p0:=by ((first|(simp only [decide_eq_true_eq,decide_eq_false_iff_not,Bool.not_true,Bool.not_false];(with_reducible exact rfl))|(with_reducible exact rfl))))
 (e1:b=want→ts=t1:=by (intro hcW;(try simp only [hcW,Bool.not_true,Bool.not_false]);(try simp only [List.set_cons_succ,List.set_cons_zero,List.getD_cons_succ,List.getD_cons_zero,List.length_map,if_true,Bool.false_eq_true,if_false,Int.toNat_natCast,Int.toNat_zero,Int.toNat_one,Nat.zero_mul,Bool.not_true,Bool.not_false,decide_true,decide_false]);(with_reducible exact rfl))) (e0:b = !want→ts=t0:=by (intro hcW;(try simp only [hcW,Bool.not_true,Bool.not_false]);(try simp only [List.set_cons_succ,List.set_cons_zero,List.getD_cons_succ,List.getD_cons_zero,List.length_map,if_true,Bool.false_eq_true,if_false,Int.toNat_natCast,Int.toNat_zero,Int.toNat_one,Nat.zero_mul,Bool.not_true,Bool.not_false,decide_true,decide_false]);(with_reducible exact rfl))):G1 P ops Q rest none op ty ps af j want ts df w :=
 ⟨⟨PS ⟨h1,h2,fun h=>e1 h▸k1 (hp1▸h),fun h=>e0 h▸k0 (hp0▸h)⟩⟩⟩
structure Sq (P:Program) (ops:Array Oper) (C:World→Prop) (QQ:Act→Prop) (rest:List Oper) (o:Oper) (ts:List Value) (df:List Deferred):Prop where
 out:wpQuiet P ops C QQ (o::rest) (Act.mk ts.toArray df)
structure Q1 (P:Program) (ops:Array Oper) (C:World→Prop) (QQ:Act→Prop) (rest:List Oper) (d:Nat) (op:Op) (ty:TypeId) (ps:String) (af:Array Edge) (ts:List Value) (df:List Deferred):Prop where
 out:Sq P ops C QQ rest (Oper.mk (some d) op ty ps af none) ts df
structure QG (P:Program) (ops:Array Oper) (C:World→Prop) (QQ:Act→Prop) (rest:List Oper) (d:Nat) (op:Op) (ty:TypeId) (ps:String) (af:Array Edge) (j:Nat) (want:Bool) (ts:List Value) (df:List Deferred):Prop where
 out:Sq P ops C QQ rest (Oper.mk (some d) op ty ps af (some (j,want))) ts df
inductive SRq (P:Program) (o:Oper) (ts:List Value) (df:List Deferred) (C:World→Prop) (d:Nat) (ts':List Value):Prop
 | mk {v:Value} (h1:∀ w,C w→Runs P o (Act.mk ts.toArray df) w v) (h2:ts.set d v=ts'):SRq P o ts df C d ts'
variable {C:World→Prop} {QQ:Act→Prop}
theorem Fb (h:Sq P ops C QQ rest o ts df):wpQuiet P ops C QQ (o::rest) (Act.mk ts.toArray df):=h.out
theorem Fc (h:Q1 P ops C QQ rest d op ty ps af ts df):Sq P ops C QQ rest (Oper.mk (some d) op ty ps af none) ts df:=h.out
theorem Fd (h:QG P ops C QQ rest d op ty ps af j want ts df):Sq P ops C QQ rest (Oper.mk (some d) op ty ps af (some (j,want))) ts df:=h.out
theorem Fu (h:wpQuiet P ops C QQ rest (Act.mk ts'.toArray df)) (hr:SRq P (Oper.mk (some d) op ty ps af none) ts df C d ts':=by (apply SRq.mk;(intro _ _;exact rn);(((simp only [List.set_cons_succ,List.set_cons_zero,List.getD_cons_succ,List.getD_cons_zero,List.length_map,if_true,Bool.false_eq_true,if_false,Int.toNat_natCast,Int.toNat_zero,Int.toNat_one,Nat.zero_mul,Bool.not_true,Bool.not_false,decide_true,decide_false]);(with_reducible exact rfl))))):Q1 P ops C QQ rest d op ty ps af ts df:=by
 obtain ⟨hr,e⟩:=hr;exact ⟨⟨fL hr (e▸h)⟩⟩
theorem Fe (h:wpQuiet P ops C QQ (Oper.mk (some d) op ty ps af none::rest) (Act.mk ts.toArray df)) (h1:(ops[j]?).bind (·.dst)=some e:=by rfl) (h2:ts.getD e undef=.bool b:=by rfl) (h3:b=want:=by (with_reducible rfl)):QG P ops C QQ rest d op ty ps af j want ts df:=by
 refine ⟨⟨?_⟩⟩
 have hw:=zC (op:=op) (ty:=ty) (ps:=ps) (af:=af) (o:=some d) h1 h2 h3
 unfold wpQuiet at h ⊢
 rw [if_pos hw]
 rw [if_pos (by simp [Region.wanted])]at h
 exact h
theorem Ff (h:wpQuiet P ops C QQ rest (Act.mk ts'.toArray df)) (h1:(ops[j]?).bind (·.dst)=some e:=by rfl) (h2:ts.getD e undef=.bool b:=by rfl) (h3:b = !want:=by (first|(with_reducible exact (rfl:true = !false))|(with_reducible exact (rfl:false = !true))|(exact Bool.not_false.symm)|(exact Bool.not_true.symm))) (e:ts.set d undef=ts':=by ((simp only [List.set_cons_succ,List.set_cons_zero,List.getD_cons_succ,List.getD_cons_zero,List.length_map,if_true,Bool.false_eq_true,if_false,Int.toNat_natCast,Int.toNat_zero,Int.toNat_one,Nat.zero_mul,Bool.not_true,Bool.not_false,decide_true,decide_false]);(with_reducible exact rfl))):QG P ops C QQ rest d op ty ps af j want ts df :=
 ⟨⟨CS h1 h2 h3 (e▸h)⟩⟩
theorem Fg (h:wpQuiet P ops C QQ rest (Act.mk ts'.toArray df)) (h1:(ops[j]?).bind (·.dst)=some e:=by rfl) (h2:ts.getD e undef=undef:=by rfl) (e:ts.set d undef=ts':=by ((simp only [List.set_cons_succ,List.set_cons_zero,List.getD_cons_succ,List.getD_cons_zero,List.length_map,if_true,Bool.false_eq_true,if_false,Int.toNat_natCast,Int.toNat_zero,Int.toNat_one,Nat.zero_mul,Bool.not_true,Bool.not_false,decide_true,decide_false]);(with_reducible exact rfl))):QG P ops C QQ rest d op ty ps af j want ts df :=
 ⟨⟨HA (CR ⟨h1,h2⟩) (e▸h)⟩⟩
theorem Fh {a:Act} (h:QQ a):wpQuiet P ops C QQ [] a:=LU h
end
section
variable {P:Program} {Q:Exit→Act→World→Prop} {S:World→Prop} {l:List Oper} {ts:List Value} {df:List Deferred} {d:Nat} {ty:TypeId} {ps:String} {af:Array Edge} {g:Option (Nat×Bool)} {w:World} {fuel:Nat} {listed:List Bool}
theorem tk (i:Nat) {fuel2:Nat} {op:Op} {v:Value} (h:wpAnyH P .any l.toArray Q S fuel (listed.set i true).toArray (Act.mk (ts.set d v).toArray df) w)
 (hi:l[i]? = some (Oper.mk (some d) op ty ps af g):=by rfl) (hfu:fuel2=fuel+1:=by rfl) (hs:Region.noSelect l.toArray=true:=by decide +kernel) (hf:Region.free .any l.toArray listed.toArray i=true:=by decide +kernel) (hr:(Region.ready .any l.toArray listed.toArray).contains i=true:=by decide +kernel)
 (hw:Region.wanted (Oper.mk (some d) op ty ps af g) (yielded l.toArray ts.toArray)=true:=by rfl) (hS:S w:=by (repeat (first|(with_reducible assumption)|exact Ext.refl _|(refine Ext.trans ?_ (by with_reducible assumption)))))
 (hy:∀ w',S w'→Runs P (Oper.mk (some d) op ty ps af g) (Act.mk ts.toArray df) w' v:=by (intro _ _;exact rn)) (hQ:∀ c a w,Q (.panic c) (a.put (some d) v) w→Q (.panic c) a w:=by exact fun _ _ _ h=>h):wpAnyH P .any l.toArray Q S fuel2 listed.toArray (Act.mk ts.toArray df) w :=
 dJ hi hfu hs hf hr hw hS hy hQ h
theorem tsk (i:Nat) {fuel2:Nat} {op:Op} (h:wpAnyH P .any l.toArray Q S fuel (listed.set i true).toArray (Act.mk (ts.set d undef).toArray df) w)
 (hi:l[i]? = some (Oper.mk (some d) op ty ps af g):=by rfl) (hfu:fuel2=fuel+1:=by rfl) (hs:Region.noSelect l.toArray=true:=by decide +kernel) (hf:Region.free .any l.toArray listed.toArray i=true:=by decide +kernel) (hr:(Region.ready .any l.toArray listed.toArray).contains i=true:=by decide +kernel)
 (hQ:∀ c a w,Q (.panic c) (a.put (some d) undef) w→Q (.panic c) a w:=by exact fun _ _ _ h=>h) (hw:Region.wanted (Oper.mk (some d) op ty ps af g) (yielded l.toArray ts.toArray)=false:=by rfl) (hS:S w:=by (repeat (first|(with_reducible assumption)|exact Ext.refl _|(refine Ext.trans ?_ (by with_reducible assumption))))):wpAnyH P .any l.toArray Q S fuel2 listed.toArray (Act.mk ts.toArray df) w :=
 PU hi hfu hs hf hr hQ hw hS h
end
structure Hid (G:Prop):Prop where
 out:G
section
variable {P:Program} {ops:Array Oper} {Q:Exit→Act→World→Prop} {rest:List Oper} {o:Oper} {ts:List Value} {df:List Deferred} {w:World} {C:World→Prop} {QQ:Act→Prop} {l:List Oper} {a:Act}
theorem dU {G':Prop} (h:G') (e:Hid G'→St P ops Q rest o ts df w:=by (intro hk;(first|(refine gV ?_;refine JZ ?_)|(refine lY ?_;first|refine nR ?_|refine GR ?_|refine GW ?_|refine GT ?_));(repeat ((with_reducible refine aS ?_);(first|(refine gV ?_;refine JZ ?_)|(refine lY ?_;first|refine nR ?_|refine GR ?_|refine GW ?_|refine GT ?_))));exact hk.out)):St P ops Q rest o ts df w:=e ⟨h⟩
structure Qh (P:Program) (ops:Array Oper) (C:World→Prop) (QQ:Act→Prop) (l:List Oper) (a:Act):Prop where
 out:wpQuiet P ops C QQ l a
theorem EW (h:Qh P ops C QQ l a):wpQuiet P ops C QQ l a:=h.out
theorem UH {G':Prop} (h:G') (e:Hid G'→wpQuiet P ops C QQ l a:=by (intro hk;(repeat (first|((with_reducible refine Fb ?_);(first|(refine Fc ?_;refine Fu ?_)|(refine Fd ?_;first|refine Fe ?_|refine Ff ?_|refine Fg ?_)))|(with_reducible refine Fh ?_)));exact hk.out)):Qh P ops C QQ l a:=⟨e ⟨h⟩⟩
theorem bG {G1 G0 p1 p0:Prop} (h1:p1→G1) (h0:p0→G0) (e:(p1→G1)→(p0→G0)→St P ops Q rest o ts df w:=by (intro hk1 hk0;refine lY ?_;first|exact EU hk1 hk0|exact EV hk1 hk0)):St P ops Q rest o ts df w:=e h1 h0
structure NoOp (G G':Prop):Prop where
 out:G=G'
theorem PW:NoOp (wpList P ops Q (o::rest) (Act.mk ts.toArray df) w) (wpList P ops Q (o::rest) (Act.mk ts.toArray df) w):=⟨rfl⟩
end
inductive TkI (P:Program) (Q:Exit→Act→World→Prop) (k:Nat) (F:World→Prop) (l:List Oper) (ts:List Value) (df:List Deferred) (listed:List Bool) (fuel2 i fuel:Nat) (ts':List Value):Prop
 | mk {d op ty ps af g v} (hi:l[i]? = some (Oper.mk (some d) op ty ps af g)) (hfu:fuel2=fuel+1) (hik:decide (i≠k)=true) (hk:tU .any l.toArray l.length k i=true) (hs:Region.noSelect l.toArray=true) (hf:Region.free .any l.toArray listed.toArray i=true) (hr:(Region.ready .any l.toArray listed.toArray).contains i=true)
   (hw:Region.wanted (Oper.mk (some d) op ty ps af g) (yielded l.toArray ts.toArray)=true) (hy:∀ w',F w'→Runs P (Oper.mk (some d) op ty ps af g) (Act.mk ts.toArray df) w' v) (hQ:∀ c a w,Q (.panic c) (a.put (some d) v) w→Q (.panic c) a w) (e:ts.set d v=ts'):TkI P Q k F l ts df listed fuel2 i fuel ts'
theorem zG (i:Nat) {P:Program} {Q:Exit→Act→World→Prop} {k:Nat} {F:World→Prop} {l:List Oper} {ts ts':List Value} {df:List Deferred} {listed:List Bool} {fuel2 fuel:Nat} {w:World} (h:wT P Q k F l fuel (listed.set i true) (Act.mk ts'.toArray df) w)
 (e:TkI P Q k F l ts df listed fuel2 i fuel ts':=by refine TkI.mk (by rfl) (by rfl) (by decide +kernel) (by decide +kernel) (by decide +kernel) (by decide +kernel) (by decide +kernel) (by rfl) (by (intro _ _;exact rn)) (fun _ _ _ h=>h) (by ((simp only [List.set_cons_succ,List.set_cons_zero,List.getD_cons_succ,List.getD_cons_zero,List.length_map,if_true,Bool.false_eq_true,if_false,Int.toNat_natCast,Int.toNat_zero,Int.toNat_one,Nat.zero_mul,Bool.not_true,Bool.not_false,decide_true,decide_false]);(with_reducible exact rfl)))):wT P Q k F l fuel2 listed (Act.mk ts.toArray df) w:=by
 obtain ⟨hi,hfu,hik,hk,hs,hf,hr,hw,hy,hQ,e⟩:=e
 exact bT hi hfu hik hk hs hf hr hw hy hQ (e▸h)
inductive TkP (P:Program) (Q:Exit→Act→World→Prop) (k:Nat) (F:World→Prop) (l:List Oper) (ts:List Value) (df:List Deferred) (listed:List Bool) (fuel2 i fuel:Nat) (ts':List Value):Prop
 | mk {d op ty ps af g v} (hi:l[i]? = some (Oper.mk (some d) op ty ps af g)) (hfu:fuel2=fuel+1) (hik:decide (i≠k)=true) (hs:Region.noSelect l.toArray=true) (hf:Region.free .any l.toArray listed.toArray i=true) (hr:(Region.ready .any l.toArray listed.toArray).contains i=true)
   (hw:Region.wanted (Oper.mk (some d) op ty ps af g) (yielded l.toArray ts.toArray)=true) (hy:∀ w',Runs P (Oper.mk (some d) op ty ps af g) (Act.mk ts.toArray df) w' v) (hQ:∀ c a w,Q (.panic c) (a.put (some d) v) w→Q (.panic c) a w) (e:ts.set d v=ts'):TkP P Q k F l ts df listed fuel2 i fuel ts'
theorem ZA (i:Nat) {P:Program} {Q:Exit→Act→World→Prop} {k:Nat} {F:World→Prop} {l:List Oper} {ts ts':List Value} {df:List Deferred} {listed:List Bool} {fuel2 fuel:Nat} {w:World} (h:wT P Q k F l fuel (listed.set i true) (Act.mk ts'.toArray df) w)
 (e:TkP P Q k F l ts df listed fuel2 i fuel ts':=by refine TkP.mk (by rfl) (by rfl) (by decide +kernel) (by decide +kernel) (by decide +kernel) (by decide +kernel) (by rfl) (by (intro _;exact rn)) (fun _ _ _ h=>h) (by ((simp only [List.set_cons_succ,List.set_cons_zero,List.getD_cons_succ,List.getD_cons_zero,List.length_map,if_true,Bool.false_eq_true,if_false,Int.toNat_natCast,Int.toNat_zero,Int.toNat_one,Nat.zero_mul,Bool.not_true,Bool.not_false,decide_true,decide_false]);(with_reducible exact rfl)))):wT P Q k F l fuel2 listed (Act.mk ts.toArray df) w:=by
 obtain ⟨hi,hfu,hik,hs,hf,hr,hw,hy,hQ,e⟩:=e
 exact jA hi hfu hik hs hf hr hw hy hQ (e▸h)
theorem aZ {G G':Prop} (h:G') (e:NoOp G G':=by ((fail_if_success (with_reducible exact PW));exact ⟨rfl⟩)):G:=e.out.mpr h
theorem uA {α:Type} [Inhabited α] (enc:α→List Value) (k:Nat) (hk:∀ x,(enc x).length=k) (l:List α):(Sort.flatK enc k l.toArray).toList=(l.map enc).flatten:=by
 have hall:∀ x∈l.map enc,x.length=k:=by
  intro x hx
  obtain ⟨y,_,rfl⟩:=List.mem_map.1 hx
  exact hk y
 have hfl:=aY hall
 have h:Sort.flatK enc k l.toArray=((l.map enc).flatten).toArray:=by
  refine Sort.ext_get! (by simp [hfl]) fun t ht=>?_
  have ht':t<l.length*k:=by simpa using ht
  rw [Sort.get_flatK _ _ _ t (by simpa using ht')]
  have k0:0<k:=by
   rcases Nat.eq_zero_or_pos k with h|h
   ·subst h;simp at ht'
   ·exact h
  have hd:t / k<l.length:=Nat.div_lt_of_lt_mul (by rw [Nat.mul_comm];exact ht')
  have hm:t % k<k:=Nat.mod_lt _ k0
  have e1:l.toArray[t / k]! = l[t / k]:=by rw [getElem!_pos _ _ (by simpa using hd)];simp
  rw [e1]
  have h1:=jX hall (i:=t / k) (j:=t % k) (e:=enc l[t / k]) (x:=(enc l[t / k])[t % k]'(by rw [hk];exact hm)) (by simp [hd]) (List.getElem?_eq_getElem (by rw [hk];exact hm))
  rw [show t / k*k+t % k=t by rw [Nat.mul_comm];exact Nat.div_add_mod t k]at h1
  have h2:t<(l.map enc).flatten.length:=(List.getElem?_eq_some_iff.1 h1).1
  rw [getElem!_pos _ t (by simpa using h2)]
  have h3:=(List.getElem?_eq_some_iff.1 h1).2
  simp only [List.getElem_toArray]
  rw [h3,getElem!_pos _ _ (by rw [hk];exact hm)]
 rw [h]
theorem Own.holdsF {B k e g cap n:Nat} {w:World} {es:List (List Value)} (h:Own B k e w (.slice (some ⟨g,0,none⟩) n cap) es):Sort.Holds id w g 0 es.flatten.toArray:=by
 rcases h.row.2 with ⟨h0,_⟩|⟨g',cap',cur,fz,hv,hb,hg,hfz,hnc,hcm,hcs,htake⟩
 ·cases h0
 ·simp only [Value.slice.injEq,Option.some.injEq,Addr.mk.injEq,and_true,true_and]at hv
  obtain ⟨rfl,_,rfl⟩:=hv
  have hlen:=aY h.each
  have hck:es.length*k≤cap*k:=Nat.mul_le_mul_right k hnc
  intro j hj
  have hj':j<es.flatten.length:=by simpa using hj
  have hjc:j<cur.size:=by omega
  constructor
  ·rw [Nat.zero_add,cell_of_row w g j cur e fz hg]
   have:=congrArg (·[j]?) htake
   simp only [List.getElem?_take,if_pos (show j<es.length*k by omega),List.getElem?_eq_getElem hj']at this
   rw [← Array.getElem?_toList,this]
   rw [getElem!_pos _ j hj]
   simp
  ·rw [Nat.zero_add];exact sM hg hfz hjc
theorem Own.putRowF {B k e g cap:Nat} {w:World} {es fs:List (List Value)} (h:Own B k e w (.slice (some ⟨g,0,none⟩) es.length cap) es) (hl:fs.length=es.length) (hf:∀ x∈fs,x.length=k) (n:Nat) (os:Array Obj) :
 Own B k e (Sort.grow (Sort.putRow id (Sort.ahead w n) g 0 fs.flatten.toArray) os) (.slice (some ⟨g,0,none⟩) es.length cap) fs∧Mv (some g) w (Sort.grow (Sort.putRow id (Sort.ahead w n) g 0 fs.flatten.toArray) os):=by
 rcases h.row.2 with ⟨h0,_⟩|⟨g',cap',cur,fz,hv,hb,hg,hfz,hnc,hcm,hcs,htake⟩
 ·cases h0
 ·simp only [Value.slice.injEq,Option.some.injEq,Addr.mk.injEq,and_true,true_and]at hv
  obtain ⟨rfl,rfl⟩:=hv
  have hgs:g<w.heap.size:=(Array.getElem?_eq_some_iff.1 hg).1
  have hg2:(Sort.grow (Sort.putRow id (Sort.ahead w n) g 0 fs.flatten.toArray) os).heap[g]? = some (.cells (Sort.putCells id 0 fs.flatten.toArray cur) e fz):=by
   simp only [Sort.grow,Sort.putRow,Sort.mapBlock,Sort.ahead]
   rw [Array.getElem?_append_left (by simpa using hgs),Array.getElem?_modify,if_pos rfl,hg]
   rfl
  have hsz:(Sort.putCells id 0 fs.flatten.toArray cur).size=cur.size:=by simp [Sort.putCells]
  have hlen:=aY hf
  have hck:es.length*k≤cap*k:=Nat.mul_le_mul_right k hnc
  refine ⟨⟨⟨hlen, .inr ⟨g,cap,_,fz,by rw [hl],hb,hg2,by rw [hsz];exact hfz,by omega,hcm,by rw [hsz];exact hcs,?_⟩⟩,hf⟩,⟨rfl,rfl,rfl,?_,?_,Nat.le_add_right _ _⟩⟩
  ·apply List.ext_getElem?
   intro j
   simp only [List.getElem?_take]
   by_cases hj:j<fs.length*k
   ·have hpk:fs.length*k=es.length*k:=by rw [hl]
    have hjf:j<fs.flatten.length:=by omega
    have hjc:j<cur.toList.length:=by rw [Array.length_toList];omega
    rw [if_pos hj,List.getElem?_eq_getElem hjf]
    simp only [Sort.putCells,Array.toList_mapIdx,List.getElem?_mapIdx]
    rw [List.getElem?_eq_getElem hjc,Option.map_some]
    have hc:(0≤j∧j<0+fs.flatten.toArray.size):=by constructor;omega;simp only [List.size_toArray];omega
    rw [if_pos hc]
    simp only [Nat.sub_zero,id]
    rw [getElem!_pos _ j (by simpa only [List.size_toArray]using hjf),List.getElem_toArray]
   ·rw [if_neg hj,List.getElem?_eq_none (by omega)]
  ·simp only [Sort.grow,Sort.putRow,Sort.mapBlock,Sort.ahead,Array.size_append,Array.size_modify];omega
  ·intro k hk hne
   simp only [Sort.grow,Sort.putRow,Sort.mapBlock,Sort.ahead]
   rw [Array.getElem?_append_left (by simpa using hk),Array.getElem?_modify,if_neg (fun e=>hne (by rw [e]))]
open Go
def NI:Nat→List UInt8→Option (List (List UInt8))
 | _,[]=>some []
 | 0,_::_=>none
 | f+1,k::t=>if k.toNat<1∨63<k.toNat∨t.length<k.toNat then none else (NI f (t.drop k.toNat)).map (t.take k.toNat :: ·)
theorem vH:∀ (f:Nat) (l:List UInt8),l.length≤f→NI f l=NI l.length l
 | 0,[],_=>rfl
 | f+1,[],_=>rfl
 | f+1,k::t,h=>by
   simp only [List.length_cons]at h ⊢
   unfold NI
   split
   ·rfl
   ·rw [vH f (t.drop k.toNat) (by simp;omega),vH t.length (t.drop k.toNat) (by simp)]
def hY (l:List UInt8):Option (List (List UInt8)):=NI l.length l
theorem vI:hY []=some []:=rfl
theorem mG (k:UInt8) (t:List UInt8):hY (k::t)=if k.toNat<1∨63<k.toNat∨t.length<k.toNat then none else (hY (t.drop k.toNat)).map (t.take k.toNat :: ·):=by
 unfold hY
 simp only [List.length_cons]
 rw [NI]
 split
 ·rfl
 ·rw [vH t.length (t.drop k.toNat) (by simp)]
def aM (n:List UInt8):Option (List (List UInt8)):=if 254<n.length then none else hY n
def vJ (b:UInt8):UInt8:=if 65≤b.toNat∧b.toNat≤90 then b+32 else b
def low (l:List UInt8):List UInt8:=l.map vJ
def enc (ls:List (List UInt8)):List UInt8:=(ls.map fun x=>UInt8.ofNat x.length::x).flatten
def jB (x:List UInt8):Bool:=decide (1≤x.length)&&decide (x.length≤63)
def mV (ls:List (List UInt8)):Option (List UInt8):=if ls.all jB=true∧(enc ls).length≤254 then some (enc ls)else none
def fold (n:List UInt8):List UInt8:=match aM n with|none=>n|some ls=>(mV (ls.map low)).getD []
def nS (l:List UInt8) (k:Nat):List UInt8:=low (l.take k)++l.drop k
theorem qJ (l:List UInt8) (k:Nat):(nS l k).length=l.length:=by simp [nS,low];omega
theorem CT (l:List UInt8):nS l 0=l:=by simp [nS,low]
theorem HH (l:List UInt8):nS l l.length=low l:=by simp [nS]
theorem zH (l:List UInt8) (k:Nat) (h:k<l.length):(nS l k)[k]? = some l[k]:=by
 have hm:(low (l.take k)).length=k:=by simp [low];omega
 rw [nS,List.getElem?_append_right (by omega),hm]
 simp [h]
theorem vK (l:List UInt8) (k:Nat) (h:k<l.length):nS l (k+1)=(nS l k).set k (vJ l[k]):=by
 have hm:(low (l.take k)).length=k:=by simp [low];omega
 have h1:l.take (k+1)=l.take k ++ [l[k]]:=by rw [List.take_add_one,List.getElem?_eq_getElem h];rfl
 have h2:l.drop k=l[k]::l.drop (k+1):=List.drop_eq_getElem_cons h
 unfold nS
 rw [List.set_append_right _ _ (by omega),hm,h2,h1,Nat.sub_self,List.set_cons_zero]
 simp only [low,List.map_append,List.map_cons,List.map_nil,List.append_assoc,List.singleton_append]
theorem vL (l:List UInt8) (k:Nat) (h:k<l.length) (hs:vJ l[k]=l[k]):nS l (k+1)=nS l k:=by
 rw [vK l k h,hs]
 apply List.ext_getElem?
 intro j
 by_cases hj:k=j
 ·subst hj;rw [List.getElem?_set_self (by rw [qJ];exact h),zH l k h]
 ·rw [List.getElem?_set_ne hj]
theorem EX {b:UInt8} (h:¬ (65≤b.toNat∧b.toNat≤90)):vJ b=b:=by rw [vJ,if_neg h]
def sQ {α:Type} (f:α→α) (l:List α) (k:Nat):List α:=(l.take k).map f++l.drop k
theorem wU {α:Type} (f:α→α) (l:List α) (k:Nat):(sQ f l k).length=l.length:=by simp [sQ];omega
theorem CU {α:Type} (f:α→α) (l:List α):sQ f l 0=l:=by simp [sQ]
theorem HI {α:Type} (f:α→α) (l:List α):sQ f l l.length=l.map f:=by simp [sQ]
theorem HJ {α:Type} (f:α→α) (l:List α) (k:Nat) (h:k<l.length):(sQ f l k)[k]? = some l[k]:=by
 have hm:((l.take k).map f).length=k:=by simp;omega
 rw [sQ,List.getElem?_append_right (by omega),hm]
 simp [h]
theorem CV {α:Type} (f:α→α) (l:List α) (k:Nat) (h:k<l.length):sQ f l (k+1)=(sQ f l k).set k (f l[k]):=by
 have hm:((l.take k).map f).length=k:=by simp;omega
 have h1:l.take (k+1)=l.take k ++ [l[k]]:=by rw [List.take_add_one,List.getElem?_eq_getElem h];rfl
 have h2:l.drop k=l[k]::l.drop (k+1):=List.drop_eq_getElem_cons h
 unfold sQ
 rw [List.set_append_right _ _ (by omega),hm,h2,h1,Nat.sub_self,List.set_cons_zero]
 simp only [List.map_append,List.map_cons,List.map_nil,List.append_assoc,List.singleton_append]
theorem CW:∀ (n:Nat) (l:List UInt8),l.length≤n→∀ ls,hY l=some ls→ls.all jB=true∧enc ls=l
 | _,[],_,ls,h=>by
   rw [vI]at h;cases h;exact ⟨rfl,rfl⟩
 | 0,_::_,hn,_,_=>by simp at hn
 | n+1,k::t,hn,ls,h=>by
   rw [mG]at h
   split at h
   ·cases h
   ·rename_i hk
    cases hp:hY (t.drop k.toNat) with
    | none=>rw [hp]at h;cases h
    | some ms =>
     rw [hp]at h
     cases h
     obtain ⟨h1,h2⟩:=CW n (t.drop k.toNat) (by simp at hn ⊢;omega) ms hp
     have hlen:(t.take k.toNat).length=k.toNat:=by simp;omega
     refine ⟨?_,?_⟩
     ·simp only [List.all_cons,h1,Bool.and_true,jB,hlen,Bool.and_eq_true,decide_eq_true_eq];omega
     ·have:enc (t.take k.toNat::ms)=UInt8.ofNat (t.take k.toNat).length::(t.take k.toNat)++enc ms:=by simp [enc]
      rw [this,h2,hlen]
      simp
theorem fM {l:List UInt8} {ls:List (List UInt8)} (h:aM l=some ls):ls.all jB=true∧enc ls=l∧l.length≤254:=by
 unfold aM at h
 split at h
 ·cases h
 ·have:=CW l.length l (Nat.le_refl _) ls h
  exact ⟨this.1,this.2,by omega⟩
theorem zI (l:List UInt8):(low l).length=l.length:=by simp [low]
theorem pE:∀ ls:List (List UInt8),(enc ls).length=(ls.map fun x=>x.length+1).sum
 | []=>rfl
 | x::ls=>by
   have:=pE ls
   have e:enc (x::ls)=UInt8.ofNat x.length::x++enc ls:=by simp [enc]
   rw [e]
   simp [this];omega
theorem zJ (ls:List (List UInt8)):(enc (ls.map low)).length=(enc ls).length:=by
 rw [pE,pE,List.map_map]
 congr 1
 apply List.map_congr_left
 intro x _
 simp [zI]
theorem kG (ls:List (List UInt8)):ls.length≤(enc ls).length:=by
 rw [pE]
 induction ls with
 | nil=>simp
 | cons x ls ih=>simp;omega
theorem sR {x:List UInt8}:∀ {ls:List (List UInt8)},x∈ls→x.length<(enc ls).length
 | y::ls,h=>by
   have e:enc (y::ls)=UInt8.ofNat y.length::y++enc ls:=by simp [enc]
   rw [e]
   rcases List.mem_cons.1 h with rfl|h
   ·simp;omega
   ·have:=sR h
    simp;omega
def qK (a b:List UInt8):Int:=if Op.bytesLess a b=true then -1 else if Op.bytesLess a b=false∧a≠b then 1 else 0
def iV:List (List UInt8)→List (List UInt8)→Int
 | [],[]=>0
 | [],_::_=>-1
 | _::_,[]=>1
 | x::xs,y::ys=>if qK x y≠0 then qK x y else iV xs ys
def dO (n:List UInt8):Option (List (List UInt8)):=(aM (fold n)).map List.reverse
def pF (a b:List UInt8):Int:=match dO a,dO b with
 | none,none=>qK a b
 | none,some _=>-1
 | some _,none=>1
 | some x,some y=>iV x y
def jR (s:List UInt8):Option (List UInt8):=if Lib.hasSuffix s [0]=true∧(aM (Lib.trimSuffix s [0])).isSome=true then some (Lib.trimSuffix s [0])else none
def jS (k:Int):Int:=if k=33 then 6 else if k=15 then 2 else if k=2∨k=5∨k=12 then 0 else -1
def aQ (k:Int) (d:List UInt8):List UInt8×Int :=
 if jS k<0 then ([],5)else if (d.length:Int)<jS k then ([],2)else match jR (d.drop (jS k).toNat) with
  | none=>([],2)
  | some n=>(n,0)
def CX:Nat→List UInt8→Nat
 | _,[]=>0
 | 0,_::_=>0
 | f+1,k::t=>if k.toNat=0 then 0 else 1+k.toNat+CX f (t.drop k.toNat)
theorem sS:∀ (f:Nat) (l:List UInt8),l.length≤f→CX f l=CX l.length l
 | 0,[],_=>rfl
 | f+1,[],_=>rfl
 | f+1,k::t,h=>by
   simp only [List.length_cons]at h ⊢
   unfold CX
   split
   ·rfl
   ·rw [sS f (t.drop k.toNat) (by simp;omega),sS t.length (t.drop k.toNat) (by simp)]
def oI (l:List UInt8):Nat:=CX l.length l
theorem zK (k:UInt8) (t:List UInt8):oI (k::t)=if k.toNat=0 then 0 else 1+k.toNat+oI (t.drop k.toNat):=by
 unfold oI
 simp only [List.length_cons]
 rw [CX]
 split
 ·rfl
 ·rw [sS t.length (t.drop k.toNat) (by simp)]
def cH (s:List UInt8):List UInt8×List UInt8×Bool :=
 if s.length≤oI s then ([],[],false)else ((jR (s.take (oI s+1))).getD [],s.drop (oI s+1),(jR (s.take (oI s+1))).isSome)
def sT:Nat→List UInt8→Bool
 | _,[]=>true
 | 0,_::_=>true
 | f+1,k::t=>if t.length<k.toNat then false else sT f (t.drop k.toNat)
theorem qL:∀ (f:Nat) (l:List UInt8),l.length≤f→sT f l=sT l.length l
 | 0,[],_=>rfl
 | f+1,[],_=>rfl
 | f+1,k::t,h=>by
   simp only [List.length_cons]at h ⊢
   unfold sT
   split
   ·rfl
   ·rw [qL f (t.drop k.toNat) (by simp;omega),qL t.length (t.drop k.toNat) (by simp)]
def sU (l:List UInt8):Bool:=sT l.length l
theorem wV (k:UInt8) (t:List UInt8):sU (k::t)=if t.length<k.toNat then false else sU (t.drop k.toNat):=by
 unfold sU
 simp only [List.length_cons]
 rw [sT]
 split
 ·rfl
 ·rw [qL t.length (t.drop k.toNat) (by simp)]
def EY (l:List UInt8):Bool := !decide (l=[])&&sU l
def numP (r:List UInt8) (i:Nat):Nat→Nat
 | 0=>0
 | k+1=>numP r i k*256+(r.getD (4*i+k) 0).toNat
theorem LX (r:List UInt8) (i:Nat):∀ k,numP r i k<256^k
 | 0=>by simp [numP]
 | k+1=>by
   have h1:=LX r i k
   have h2:(r.getD (4*i+k) 0).toNat<256:=UInt8.toNat_lt _
   rw [numP,Nat.pow_succ]
   omega
def KA (n:Nat):List UInt8:=[UInt8.ofNat (n / 16777216),UInt8.ofNat (n / 65536),UInt8.ofNat (n / 256),UInt8.ofNat n]
structure SoaR where
 main:List UInt8
 mail:List UInt8
 serial:Int
 refresh:Int
 retry:Int
 expire:Int
 minimum:Int
 deriving DecidableEq,Inhabited
def SoaR.cells (s:SoaR):List Value:=[aE s.main,aE s.mail, .int .i64 s.serial, .int .i64 s.refresh, .int .i64 s.retry, .int .i64 s.expire, .int .i64 s.minimum]
def lK (n:Int):Bool:=decide (0≤n)&&decide (n≤2147483647)
def SoaR.ok (s:SoaR):Bool:=(aM s.main).isSome&&(aM s.mail).isSome&&decide (0≤s.serial)&&decide (s.serial≤4294967295)&&lK s.refresh&&lK s.retry&&lK s.expire&&lK s.minimum
def SoaR.data (s:SoaR):List UInt8:=s.main ++ [0]++(s.mail ++ [0])++KA s.serial.toNat++KA s.refresh.toNat++KA s.retry.toNat++KA s.expire.toNat++KA s.minimum.toNat
def gA (d:List UInt8):SoaR :=
 let f:=cH d
 let g:=cH f.2.1
 { main:=f.1,mail:=g.1,serial:=numP g.2.1 0 4,refresh:=numP g.2.1 1 4,retry:=numP g.2.1 2 4,expire:=numP g.2.1 3 4,minimum:=numP g.2.1 4 4 }
def dK (d:List UInt8):Option SoaR :=
 let f:=cH d
 let g:=cH f.2.1
 if f.2.2=true∧g.2.2=true∧g.2.1.length=20∧(gA d).ok=true then some (gA d)else none
def fits (k:Int) (d:List UInt8):Bool :=
 if k=1 then decide (d.length=4)else if k=28 then decide (d.length=16)else if k=16 then EY d else if k=6 then (dK d).isSome else decide ((aQ k d).2≠2)
structure Rec where
 name:List UInt8
 kind:Int
 ttl:Int
 data:List UInt8
 deriving DecidableEq,Inhabited
def bI (r:Rec):Int :=
 if r.kind=41∨r.kind=251∨r.kind=252∨r.kind=255 then 1
 else if r.kind<1∨65535<r.kind∨r.ttl<0∨2147483647<r.ttl∨4000<r.data.length∨fits r.kind r.data=false then 1
 else if (aM r.name).isSome=true then 0 else 1
structure TPO {α:Type} (c:α→α→Int):Prop where
 anti:∀ x y,c y x=- c x y
 tr:∀ x y z,c x y≤0→c y z≤0→c x z≤0
variable {α:Type} {c d:α→α→Int}
theorem TPO.refl (h:TPO c) (x:α):c x x=0:=by have:=h.anti x x;omega
theorem TPO.swo (h:TPO c):Sort.SWO (Go.Proofs.ltOf c) where
 irrefl x:=by simp [Go.Proofs.ltOf,h.refl x]
 trans x y z h1 h2:=by
  simp only [Go.Proofs.ltOf,decide_eq_true_eq]at *
  have h3:=h.tr x y z (by omega) (by omega)
  rcases Int.lt_or_eq_of_le h3 with h4|h4
  ·exact h4
  ·have a1:=h.anti x z
   have a2:=h.anti y z
   have a3:=h.anti x y
   have:=h.tr z x y (by omega) (by omega)
   omega
 ntrans x y z h1 h2:=by
  simp only [Go.Proofs.ltOf,decide_eq_false_iff_not]at *
  have a1:=h.anti x y
  have a2:=h.anti y z
  have a3:=h.anti x z
  have:=h.tr z y x (by omega) (by omega)
  omega
theorem TPO.eqL (h:TPO c) {x y z:α} (e:c x y=0):c x z≤0↔c y z≤0:=by
 have a:=h.anti x y
 exact ⟨fun h1=>h.tr y x z (by omega) h1,fun h1=>h.tr x y z (by omega) h1⟩
def ZB (c d:α→α→Int) (x y:α):Int:=if c x y≠0 then c x y else d x y
theorem TPO.lex (h:TPO c) (k:TPO d):TPO (ZB c d) where
 anti x y:=by
  have a:=h.anti x y
  have b:=k.anti x y
  unfold ZB
  split<;>split<;>omega
 tr x y z:=by
  have a1:=h.anti x y
  have a2:=h.anti y z
  have a3:=h.anti x z
  have t1:=h.tr x y z
  have t2:=h.tr z x y
  have t3:=h.tr y z x
  have t4:=k.tr x y z
  unfold ZB
  intro h1 h2
  split at h1<;>split at h2<;>split<;>omega
theorem TPO.comap {β:Type} (h:TPO c) (f:β→α):TPO (fun x y=>c (f x) (f y)):=⟨fun x y=>h.anti _ _,fun x y z=>h.tr _ _ _⟩
theorem UN:TPO (fun a b:Int=>if a<b then (-1:Int)else if b<a then 1 else 0) where
 anti x y:=by split<;>split<;>(try split)<;>omega
 tr x y z:=by
  intro h1 h2
  split at h1<;>split at h2<;>split<;>(try omega)
  all_goals (split<;>(try omega))
  all_goals (first|(split at h1<;>omega)|(split at h2<;>omega)|(split at h1<;>split at h2<;>omega))
theorem LY {a b:List UInt8}:Op.bytesLess a b=true↔a<b:=by rw [Go.Proofs.bytesLess_eq];simp
theorem oJ (a b:List UInt8):qK a b=if a<b then -1 else if a=b then 0 else 1:=by
 unfold qK
 by_cases h:a<b
 ·simp [LY.2 h,h]
 ·have:Op.bytesLess a b=false:=by
   cases h2:Op.bytesLess a b with
   | false=>rfl
   | true=>exact absurd (LY.1 h2) h
  simp [this,h]
theorem iA:TPO qK where
 anti x y:=by
  rw [oJ,oJ]
  rcases Std.lt_trichotomy x y with h|h|h
  ·have h2:¬ y<x:=fun h9=>Std.lt_irrefl (Std.lt_trans h h9)
   have h3:x≠y:=fun e=>Std.lt_irrefl (e▸h)
   simp [h,h2,h3,Ne.symm h3]
  ·subst h
   simp [Std.lt_irrefl]
  ·have h2:¬ x<y:=fun h9=>Std.lt_irrefl (Std.lt_trans h h9)
   have h3:x≠y:=fun e=>Std.lt_irrefl (e▸h)
   simp [h,h2,h3,Ne.symm h3]
 tr x y z:=by
  rw [oJ,oJ,oJ]
  intro h1 h2
  by_cases hxy:x<y
  ·by_cases hyz:y<z
   ·simp [Std.lt_trans hxy hyz]
   ·by_cases e:y=z
    ·subst e;simp [hxy]
    ·simp [hyz,e]at h2
  ·by_cases e:x=y
   ·subst e;exact h2
   ·simp [hxy,e]at h1
theorem HK:TPO iV where
 anti:=by
  intro x
  induction x with
  | nil=>intro y;cases y<;>rfl
  | cons a x ih =>
   intro y
   cases y with
   | nil=>rfl
   | cons b y =>
    have h1:=iA.anti a b
    have h2:=ih y
    simp only [iV]
    split<;>split<;>omega
 tr:=by
  intro x
  induction x with
  | nil=>intro y z _ _;cases z<;>simp [iV]
  | cons a x ih =>
   intro y z h1 h2
   cases y with
   | nil=>simp [iV]at h1
   | cons b y =>
    cases z with
    | nil=>simp [iV]at h2
    | cons e z =>
     have a1:=iA.anti a b
     have a2:=iA.anti b e
     have a3:=iA.anti a e
     have t1:=iA.tr a b e
     have t2:=iA.tr e a b
     have t3:=iA.tr b e a
     have t4:=ih y z
     simp only [iV]at *
     split at h1<;>split at h2<;>split<;>omega
theorem PX:TPO pF where
 anti x y:=by
  have h1:=iA.anti x y
  unfold pF
  cases hx:dO x<;>cases hy:dO y<;>simp only []<;>first|exact h1|rfl|exact HK.anti _ _
 tr x y z:=by
  have h1:=iA.tr x y z
  unfold pF
  cases hx:dO x<;>cases hy:dO y<;>cases hz:dO z<;>simp only []<;>first|exact h1|exact HK.tr _ _ _|(intros;omega)
def jC (P:Program) (e:TypeId):Nat:=match P.info? e with|some i=>i.bytes|none=>0
section
variable {P:Program} {ops:Array Oper} {Q:Exit→Act→World→Prop} {rest:List Oper} {ts:List Value} {df:List Deferred}
inductive ElemIs (a:Act) (x:Operand) (k:Nat) (ce:List Value):Prop
 | mk {c:Value} (h1:a.eval x=c) (h2:c.cells.toList=ce) (h3:ce.length=k) (h4:∀ u∈ce,u.oneCell'=true):ElemIs a x k ce
theorem Bq (ce:List Value) {B k e t d1 d2 m ty1 ty2:Nat} {ps1 ps2:String} {af1 af2:Array Edge} {x:Operand} {es:List (List Value)} {w0 w:World}
 (hx:Ext w0 w) (ho:Own B k e w (ts.getD m undef) es) (hl:es.length+1≤1000000)
 (hk:∀ s v' w1 w',Ext w w1→Mv (ts.getD m undef).ownBlock w1 w'→Ext w0 w'→Own B k e w' v' (es ++ [ce])→wpList P ops Q rest (Act.mk ((ts.set d1 s).set d2 v').toArray df) w')
 (hc:ElemIs (Act.mk ts.toArray df) x k ce:=by (apply ElemIs.mk;(rfl);(rfl);(rfl);(simp [aE,Value.oneCell'])))
 (ht:mE P t e k (jC P e)=true:=by decide +kernel) (hby:jC P e≤1000000:=by decide +kernel) (hk16:k≤1000:=by decide) (hne:d1≠m:=by decide) (hdl:d1<ts.length:=by first|(simp;done)|(simp;omega))
 (hB:w0.heap.size≤B:=by first|exact Nat.le_refl _|omega) (hBw:B≤w.heap.size:=by first|exact Ext.size (by assumption)|omega) :
 wpList P ops Q (Oper.mk (some d1) (.buildSlice t 1 #[(0,x)]) ty1 ps1 af1 none::Oper.mk (some d2) (.call ⟨.builtin .append,#[.tmp m, .tmp d1],#[t,t]⟩) ty2 ps2 af2 none::rest) (Act.mk ts.toArray df) w:=by
 obtain ⟨hc,hce,hcs,h1⟩:=hc
 rename_i c
 have hcs':c.cells.size=k:=by rw [← Array.length_toList,hce];exact hcs
 refine rO (k:=k) (e:=e) (bytes:=jC P e) (xs:=[c]) (parts:=[(0,x)]) rfl (by simp [hc]) rfl (by simpa using hcs') ht (by simp;omega) ?_
 intro s w1 x1 _ sl _
 have e1:(ts.set d1 s).getD m undef=ts.getD m undef:=by
  simp only [List.getD_eq_getElem?_getD];rw [List.getElem?_set_ne hne]
 have ho1:=ho.ext x1
 rw [← e1]at ho1
 refine gK (x:=s) (B:=B) (k:=k) (e:=e) (bytes:=jC P e) rfl ho1 (by rw [fY];simp [hdl]) sl ht (by simpa [hce]using h1) (Nat.le_trans hBw x1.size) ?_ ?_ ?_
 ·simp only [List.length_map,List.length_cons,List.length_nil]
  calc (es.length+(0+1))*jC P e≤1000000*1000000:=Nat.mul_le_mul (by omega) hby
   _≤_:=by decide
 ·simp only [List.length_map,List.length_cons,List.length_nil];omega
 ·intro v' w' o' m' _
  rw [e1]at m'
  exact hk s v' w1 w' x1 m' ((ho.ext x1).mvx m' (hx.trans x1) hB) (by simpa [hce]using o')
end
section
variable {P:Program} {w:World} {a:Act} {d:Option Nat} {ty:TypeId} {ps:String} {af:Array Edge} {g:Option (Nat×Bool)}
end
section
variable {P:Program} {ops:Array Oper} {Q:Exit→Act→World→Prop} {w:World} {rest:List Oper} {ts:List Value} {df:List Deferred} {ty:TypeId} {ps:String} {af:Array Edge}
end
section
variable {P:Program} {ops:Array Oper} {Q:Exit→Act→World→Prop} {w:World} {rest:List Oper} {ts:List Value} {df:List Deferred} {ty:TypeId} {ps:String} {af:Array Edge}
theorem bV {t e k B d:Nat} {x0 y:Operand} {v0 x:Value} {es fs:List (List Value)} (h0:(Act.mk ts.toArray df).eval x0=v0)
 (h:Own B k e w v0 es) (hy:(Act.mk ts.toArray df).eval y=x) (hx:Sl k w x fs) (h1:∀ f∈fs,∀ u∈f,u.oneCell'=true)
 (hB:B≤w.heap.size) (hm:es.length+fs.length≤1000000)
 (hk:∀ v' w',Own B k e w' v' (es++fs)→Mv v0.ownBlock w w'→(v'.ownBlock=v0.ownBlock∨v'.ownBlock=some w.heap.size)→wpList P ops Q rest (Act.mk (ts.set d v').toArray df) w')
 (ht:mE P t e k (jC P e)=true:=by decide +kernel) (hby:jC P e≤1000000:=by decide +kernel) :
 wpList P ops Q (Oper.mk (some d) (.call ⟨.builtin .append,#[x0,y],#[t,t]⟩) ty ps af none::rest) (Act.mk ts.toArray df) w:=by
 have hb:(es.length+fs.length)*jC P e≤140737488355328 :=
  calc (es.length+fs.length)*jC P e≤1000000*1000000:=Nat.mul_le_mul hm hby
   _≤_:=by decide
 obtain ⟨v',w',hr,ho,hmv,hkin⟩:=wQ (ty:=ty) ht h hx h1 hB hb (by omega)
 refine nC rfl ?_ (hk v' w' ho hmv hkin)
 simp [execOp,resolve,invoke,builtin,h0,hy,hr]
end
section
variable {P:Program} {Q:Exit→Act→World→Prop} {S:World→Prop} {l:List Oper} {fuel:Nat} {listed:List Bool} {w:World}
end
section
variable {P:Program} {w:World} {ts:List Value} {df:List Deferred} {d:Option Nat} {ty:TypeId} {ps:String} {af:Array Edge} {g:Option (Nat×Bool)}
theorem Runs.fieldLitK {s:TypeId} {m n b o:Nat} (k:Nat) (h:ts.getD m undef=.pointer (some ⟨b,o,none⟩)) (hf:mY P s n (n+k)=true) :
 Runs P (Oper.mk d (.fieldAddr s (.tmp m) n) ty ps af g) (Act.mk ts.toArray df) w (aV (ts.getD m undef) (n+k)):=by
 obtain ⟨fs,f,i,ht,hf,ho,hie,hz⟩:=lO hf
 have e1:(Act.mk ts.toArray df).eval (.tmp m)=.pointer (some ⟨b,o,none⟩):=by rw [fY];exact h
 constructor
 rw [h]
 simp [execOp,e1,Instr.fieldAt,Instr.sureAddr,run_underlying ht,hf,fieldPlace,sizeOf,typeInfo,hie,hz,aV,ho]
theorem Runs.isNilN {t u:TypeId} {x y:Operand} {a:Act} (hx:a.eval x=.pointer none) (hy:a.eval y=.pointer none) (ht:P.underlying t=some (.pointer (P.pointee t))) :
 Runs P (Oper.mk d (.binOp .eql t x y u) ty ps af g) a w (.bool true):=by
 constructor
 simp [execOp,hx,hy,eqGuard,run_eql_pointer_nil w t none ht]
theorem Runs.isNilS {t u:TypeId} {x y:Operand} {a:Act} {p:Addr} (hx:a.eval x=.pointer (some p)) (hy:a.eval y=.pointer none) (ht:P.underlying t=some (.pointer (P.pointee t))) :
 Runs P (Oper.mk d (.binOp .eql t x y u) ty ps af g) a w (.bool false):=by
 constructor
 simp [execOp,hx,hy,eqGuard,run_eql_pointer_nil w t (some p) ht]
theorem Runs.notNilN {t u:TypeId} {x y:Operand} {a:Act} (hx:a.eval x=.pointer none) (hy:a.eval y=.pointer none) (ht:P.underlying t=some (.pointer (P.pointee t))) :
 Runs P (Oper.mk d (.binOp .neq t x y u) ty ps af g) a w (.bool false):=by
 constructor
 simp [execOp,hx,hy,eqGuard,run_neq_pointer_nil w t none ht]
theorem Runs.notNilS {t u:TypeId} {x y:Operand} {a:Act} {p:Addr} (hx:a.eval x=.pointer (some p)) (hy:a.eval y=.pointer none) (ht:P.underlying t=some (.pointer (P.pointee t))) :
 Runs P (Oper.mk d (.binOp .neq t x y u) ty ps af g) a w (.bool true):=by
 constructor
 simp [execOp,hx,hy,eqGuard,run_neq_pointer_nil w t (some p) ht]
end
theorem vM {P:Program} {o:Oper} {a:Act} {w:World} {v:Value} (h:Runs P o a w v:=by (first|exact rn|((apply Runs.fieldLitK (k:=1));(rfl);(decide +kernel))|((apply Runs.fieldLitK (k:=6));(rfl);(decide +kernel))|((apply Runs.fieldLitK (k:=4));(rfl);(decide +kernel))|((apply Runs.fieldLitK (k:=3));(rfl);(decide +kernel))|((apply Runs.isNilN);(rfl);(rfl);(kernel_rfl))|((apply Runs.isNilS);(rfl);(rfl);(kernel_rfl))|((apply Runs.notNilN);(rfl);(rfl);(kernel_rfl))|((apply Runs.notNilS);(rfl);(rfl);(kernel_rfl)))):Runs P o a w v:=h
section
variable {P:Program} {ops:Array Oper} {Q:Exit→Act→World→Prop} {rest:List Oper} {o:Oper} {ts ts' t1 t0:List Value} {df:List Deferred} {w:World} {d e j:Nat} {op:Op} {ty:TypeId} {ps:String} {af:Array Edge} {b want:Bool} {v:Value} {p1 p0:Prop} {C:World→Prop} {QQ:Act→Prop} {l:List Oper} {a:Act}
theorem eS (h:wpList P ops Q rest (Act.mk ts'.toArray df) w) (hr:SR P (Oper.mk (some d) op ty ps af none) ts df w d ts':=by (apply SR.mk;(exact vM);(((simp only [List.set_cons_succ,List.set_cons_zero,List.getD_cons_succ,List.getD_cons_zero,List.length_map,if_true,Bool.false_eq_true,if_false,Int.toNat_natCast,Int.toNat_zero,Int.toNat_one,Nat.zero_mul,Bool.not_true,Bool.not_false,decide_true,decide_false]);(with_reducible exact rfl))))) :
 S1 P ops Q rest d op ty ps af ts df w:=by obtain ⟨hr,e⟩:=hr;exact ⟨⟨aG hr (e▸h)⟩⟩
theorem Eh (h:wpQuiet P ops C QQ rest (Act.mk ts'.toArray df)) (hr:SRq P (Oper.mk (some d) op ty ps af none) ts df C d ts':=by (apply SRq.mk;(intro _ _;exact vM);(((simp only [List.set_cons_succ,List.set_cons_zero,List.getD_cons_succ,List.getD_cons_zero,List.length_map,if_true,Bool.false_eq_true,if_false,Int.toNat_natCast,Int.toNat_zero,Int.toNat_one,Nat.zero_mul,Bool.not_true,Bool.not_false,decide_true,decide_false]);(with_reducible exact rfl))))):Q1 P ops C QQ rest d op ty ps af ts df:=by
 obtain ⟨hr,e⟩:=hr;exact ⟨⟨fL hr (e▸h)⟩⟩
theorem dN {G':Prop} (h:G') (e:Hid G'→St P ops Q rest o ts df w:=by (intro hk;(first|(refine gV ?_;refine eS ?_)|(refine lY ?_;first|refine nR ?_|refine GR ?_|refine GW ?_|refine GT ?_));(repeat ((with_reducible refine aS ?_);(first|(refine gV ?_;refine eS ?_)|(refine lY ?_;first|refine nR ?_|refine GR ?_|refine GW ?_|refine GT ?_))));exact hk.out)):St P ops Q rest o ts df w:=e ⟨h⟩
theorem UO {G':Prop} (h:G') (e:Hid G'→wpQuiet P ops C QQ l a:=by (intro hk;(repeat (first|((with_reducible refine Fb ?_);(first|(refine Fc ?_;refine Eh ?_)|(refine Fd ?_;first|refine Fe ?_|refine Ff ?_|refine Fg ?_)))|(with_reducible refine Fh ?_)));exact hk.out)):Qh P ops C QQ l a:=⟨e ⟨h⟩⟩
end
inductive TkI1 (P:Program) (Q:Exit→Act→World→Prop) (k:Nat) (F:World→Prop) (l:List Oper) (ts:List Value) (df:List Deferred) (listed:List Bool) (fuel2 i fuel:Nat) (ts':List Value):Prop
 | mk {d op ty ps af g v} (hi:l[i]? = some (Oper.mk (some d) op ty ps af g)) (hfu:fuel2=fuel+1) (hik:decide (i≠k)=true) (hk:tU .any l.toArray l.length k i=true) (hs:Region.noSelect l.toArray=true) (hf:Region.free .any l.toArray listed.toArray i=true) (hr:(Region.ready .any l.toArray listed.toArray).contains i=true)
   (hw:Region.wanted (Oper.mk (some d) op ty ps af g) (yielded l.toArray ts.toArray)=true) (hy:∀ w',F w'→Runs P (Oper.mk (some d) op ty ps af g) (Act.mk ts.toArray df) w' v) (hQ:∀ c a w,Q (.panic c) (a.put (some d) v) w→Q (.panic c) a w) (e:ts.set d v=ts'):TkI1 P Q k F l ts df listed fuel2 i fuel ts'
theorem bE (i:Nat) {P:Program} {Q:Exit→Act→World→Prop} {k:Nat} {F:World→Prop} {l:List Oper} {ts ts':List Value} {df:List Deferred} {listed:List Bool} {fuel2 fuel:Nat} {w:World} (h:wT P Q k F l fuel (listed.set i true) (Act.mk ts'.toArray df) w)
 (e:TkI1 P Q k F l ts df listed fuel2 i fuel ts':=by refine TkI1.mk (by rfl) (by rfl) (by decide +kernel) (by decide +kernel) (by decide +kernel) (by decide +kernel) (by decide +kernel) (by rfl) (by (intro _ _;exact vM)) (fun _ _ _ h=>h) (by ((simp only [List.set_cons_succ,List.set_cons_zero,List.getD_cons_succ,List.getD_cons_zero,List.length_map,if_true,Bool.false_eq_true,if_false,Int.toNat_natCast,Int.toNat_zero,Int.toNat_one,Nat.zero_mul,Bool.not_true,Bool.not_false,decide_true,decide_false]);(with_reducible exact rfl)))):wT P Q k F l fuel2 listed (Act.mk ts.toArray df) w:=by
 obtain ⟨hi,hfu,hik,hk,hs,hf,hr,hw,hy,hQ,e⟩:=e
 exact bT hi hfu hik hk hs hf hr hw hy hQ (e▸h)
inductive TkP1 (P:Program) (Q:Exit→Act→World→Prop) (k:Nat) (F:World→Prop) (l:List Oper) (ts:List Value) (df:List Deferred) (listed:List Bool) (fuel2 i fuel:Nat) (ts':List Value):Prop
 | mk {d op ty ps af g v} (hi:l[i]? = some (Oper.mk (some d) op ty ps af g)) (hfu:fuel2=fuel+1) (hik:decide (i≠k)=true) (hs:Region.noSelect l.toArray=true) (hf:Region.free .any l.toArray listed.toArray i=true) (hr:(Region.ready .any l.toArray listed.toArray).contains i=true)
   (hw:Region.wanted (Oper.mk (some d) op ty ps af g) (yielded l.toArray ts.toArray)=true) (hy:∀ w',Runs P (Oper.mk (some d) op ty ps af g) (Act.mk ts.toArray df) w' v) (hQ:∀ c a w,Q (.panic c) (a.put (some d) v) w→Q (.panic c) a w) (e:ts.set d v=ts'):TkP1 P Q k F l ts df listed fuel2 i fuel ts'
theorem cZ (i:Nat) {P:Program} {Q:Exit→Act→World→Prop} {k:Nat} {F:World→Prop} {l:List Oper} {ts ts':List Value} {df:List Deferred} {listed:List Bool} {fuel2 fuel:Nat} {w:World} (h:wT P Q k F l fuel (listed.set i true) (Act.mk ts'.toArray df) w)
 (e:TkP1 P Q k F l ts df listed fuel2 i fuel ts':=by refine TkP1.mk (by rfl) (by rfl) (by decide +kernel) (by decide +kernel) (by decide +kernel) (by decide +kernel) (by rfl) (by (intro _;exact vM)) (fun _ _ _ h=>h) (by ((simp only [List.set_cons_succ,List.set_cons_zero,List.getD_cons_succ,List.getD_cons_zero,List.length_map,if_true,Bool.false_eq_true,if_false,Int.toNat_natCast,Int.toNat_zero,Int.toNat_one,Nat.zero_mul,Bool.not_true,Bool.not_false,decide_true,decide_false]);(with_reducible exact rfl)))):wT P Q k F l fuel2 listed (Act.mk ts.toArray df) w:=by
 obtain ⟨hi,hfu,hik,hs,hf,hr,hw,hy,hQ,e⟩:=e
 exact jA hi hfu hik hs hf hr hw hy hQ (e▸h)
section
variable {P:Program} {Q:Exit→Act→World→Prop} {S:World→Prop} {l:List Oper} {ts:List Value} {df:List Deferred} {d:Nat} {ty:TypeId} {ps:String} {af:Array Edge} {g:Option (Nat×Bool)} {w:World} {fuel:Nat} {listed:List Bool}
theorem dM (i:Nat) {fuel2:Nat} {op:Op} {v:Value} (h:wpAnyH P .any l.toArray Q S fuel (listed.set i true).toArray (Act.mk (ts.set d v).toArray df) w)
 (hi:l[i]? = some (Oper.mk (some d) op ty ps af g):=by rfl) (hfu:fuel2=fuel+1:=by rfl) (hs:Region.noSelect l.toArray=true:=by decide +kernel) (hf:Region.free .any l.toArray listed.toArray i=true:=by decide +kernel) (hr:(Region.ready .any l.toArray listed.toArray).contains i=true:=by decide +kernel)
 (hw:Region.wanted (Oper.mk (some d) op ty ps af g) (yielded l.toArray ts.toArray)=true:=by rfl) (hS:S w:=by (repeat (first|(with_reducible assumption)|exact Ext.refl _|(refine Ext.trans ?_ (by with_reducible assumption)))))
 (hy:∀ w',S w'→Runs P (Oper.mk (some d) op ty ps af g) (Act.mk ts.toArray df) w' v:=by (intro _ _;exact vM)) (hQ:∀ c a w,Q (.panic c) (a.put (some d) v) w→Q (.panic c) a w:=by exact fun _ _ _ h=>h):wpAnyH P .any l.toArray Q S fuel2 listed.toArray (Act.mk ts.toArray df) w :=
 dJ hi hfu hs hf hr hw hS hy hQ h
end
end Go.Proofs.X
