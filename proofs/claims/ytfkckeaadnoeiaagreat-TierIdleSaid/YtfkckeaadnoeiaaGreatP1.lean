/- Laws and walks that the proof of the statement is made of (part 1). -/
import Derived.Test.YtfkckeaadnoeiaaGreatP0
set_option linter.unusedSimpArgs false
set_option linter.unusedVariables false
set_option maxRecDepth 100000
namespace Go.Proofs.X
open Go.RowKit
section
variable {P:Program} {w:World} {ts:List Value} {df:List Deferred} {d:Option Nat} {ty:TypeId} {ps:String} {af:Array Edge} {g:Option (Nat × Bool)}
theorem Runs.nilP {x:Nat} {a:Addr} (h:ts.getD x undef=.pointer (some a)):Runs P (Oper.mk d (.nilCheck (.tmp x)) ty ps af g) (Act.mk ts.toArray df) w (ts.getD x undef):=by
 constructor
 simp only [execOp,fW,h]
 rfl
theorem Runs.nilPts {x:Nat} {vs:List Value} (h:Pts w (ts.getD x undef) vs):Runs P (Oper.mk d (.nilCheck (.tmp x)) ty ps af g) (Act.mk ts.toArray df) w (ts.getD x undef):=by
 obtain ⟨b,o,h1,_⟩:=h
 exact Runs.nilP h1
theorem Runs.minI {t u:TypeId} {x y:Operand} {m n:Int} (hx:(Act.mk ts.toArray df).eval x=.int .i64 m) (hy:(Act.mk ts.toArray df).eval y=.int .i64 n) :
 Runs P (Oper.mk d (.call ⟨.builtin .min,#[x,y],#[t,u]⟩) ty ps af g) (Act.mk ts.toArray df) w (.int .i64 (min m n)):=by
 constructor
 have e:(if n < m then n else m)=min m n:=by rw [Int.min_def];split <;> split <;> omega
 simp [execOp,resolve,invoke,builtin,hx,hy,run_min_int2,e]
end
section
variable {P:Program} {ops:Array Oper} {Q:Exit→Act→World→Prop} {w w':World} {rest:List Oper} {ts:List Value} {df:List Deferred} {d:Nat} {op:Op} {ty:TypeId} {ps:String} {af:Array Edge} {g:Option (Nat × Bool)}
theorem mU {v:Value} (hw:Region.wanted (Oper.mk (some d) op ty ps af g) (yielded ops ts.toArray)=true) (hr:(execOp (Act.mk ts.toArray df).eval (Oper.mk (some d) op ty ps af g)).run P w=.ok (.value v) w')
 (h:wpList P ops Q rest (Act.mk (ts.set d v).toArray df) w'):wpList P ops Q (Oper.mk (some d) op ty ps af g :: rest) (Act.mk ts.toArray df) w:=by
 unfold wpList
 rw [if_pos hw]
 refine .inl ?_
 unfold Oper.wp
 rw [hr]
 simpa [Oper.upon,Act.put] using h
end
section
variable {P:Program} {ops:Array Oper} {Q:Exit→Act→World→Prop} {w:World} {rest:List Oper} {ts:List Value} {df:List Deferred} {d:Nat} {op:Op} {ty:TypeId} {ps:String} {af:Array Edge} {j e:Nat} {want b:Bool}
theorem sF (h1:(ops[j]?).bind (·.dst)=some e) (h2:ts.getD e undef=.bool b):yielded ops ts.toArray j=some b:=by
 unfold yielded
 rw [h1]
 have:ts[e]? = some (.bool b):=by
  rw [List.getD_eq_getElem?_getD] at h2
  cases h:ts[e]? with
  | none=>rw [h] at h2;cases h2
  | some v=>rw [h] at h2;exact congrArg some h2
 simp [this]
theorem yJ {o:Option Nat} (h1:(ops[j]?).bind (·.dst)=some e) (h2:ts.getD e undef=.bool b) (h3:b=want):Region.wanted (Oper.mk o op ty ps af (some (j,want))) (yielded ops ts.toArray)=true:=by
 simp [Region.wanted,sF h1 h2,h3]
theorem BR {o:Option Nat} (h1:(ops[j]?).bind (·.dst)=some e) (h2:ts.getD e undef=.bool b) (h3:b = !want):Region.wanted (Oper.mk o op ty ps af (some (j,want))) (yielded ops ts.toArray)=false:=by
 simp [Region.wanted,sF h1 h2,h3]
theorem aG {v:Value} (hr:Runs P (Oper.mk (some d) op ty ps af none) (Act.mk ts.toArray df) w v)
 (h:wpList P ops Q rest (Act.mk (ts.set d v).toArray df) w):wpList P ops Q (Oper.mk (some d) op ty ps af none :: rest) (Act.mk ts.toArray df) w:=cE rfl hr h
theorem MH (h1:(ops[j]?).bind (·.dst)=some e) (h2:ts.getD e undef=.bool b) (h3:b = !want)
 (h:wpList P ops Q rest (Act.mk (ts.set d undef).toArray df) w):wpList P ops Q (Oper.mk (some d) op ty ps af (some (j,want)) :: rest) (Act.mk ts.toArray df) w:=FQ (BR h1 h2 h3) h
theorem sG {o:Option Nat} (h1:(ops[j]?).bind (·.dst)=some e) (h2:ts.getD e undef=.bool b)
 (h3:b=want→wpList P ops Q (Oper.mk o op ty ps af none :: rest) (Act.mk ts.toArray df) w) (h4:b = !want→wpList P ops Q rest ((Act.mk ts.toArray df).put o undef) w) :
 wpList P ops Q (Oper.mk o op ty ps af (some (j,want)) :: rest) (Act.mk ts.toArray df) w:=BP (sF h1 h2) h3 h4
inductive GV (ops:Array Oper) (ts:List Value) (j:Nat) (K:Bool→Prop):Prop
 | mk {e:Nat} {b:Bool} (h1:(ops[j]?).bind (·.dst)=some e) (h2:ts.getD e undef=.bool b) (h3:K b):GV ops ts j K
inductive GU (ops:Array Oper) (ts:List Value) (j:Nat):Prop
 | mk {e:Nat} (h1:(ops[j]?).bind (·.dst)=some e) (h2:ts.getD e undef=undef):GU ops ts j
theorem BS {o:Option Nat} (h:GU ops ts j):Region.wanted (Oper.mk o op ty ps af (some (j,want))) (yielded ops ts.toArray)=false:=by
 obtain ⟨h1,h2⟩:=h
 rename_i e
 have:yielded ops ts.toArray j=none:=by
  unfold yielded
  rw [h1]
  cases h:ts[e]? with
  | none=>simp [h]
  | some v =>
   rw [List.getD_eq_getElem?_getD,h] at h2
   have:v=undef:=h2
   subst this
   simp [h,undef]
 simp [Region.wanted,this]
theorem YC (h:GU ops ts j) (h2:wpList P ops Q rest (Act.mk (ts.set d undef).toArray df) w):wpList P ops Q (Oper.mk (some d) op ty ps af (some (j,want)) :: rest) (Act.mk ts.toArray df) w :=
 FQ (BS h) h2
theorem YD (h:GV ops ts j fun b=>(b=want→wpList P ops Q (Oper.mk (some d) op ty ps af none :: rest) (Act.mk ts.toArray df) w)∧(b = !want→wpList P ops Q rest (Act.mk (ts.set d undef).toArray df) w)) :
 wpList P ops Q (Oper.mk (some d) op ty ps af (some (j,want)) :: rest) (Act.mk ts.toArray df) w:=by
 obtain ⟨g1,g2,g3,g4⟩:=h
 exact sG g1 g2 g3 (fun h=>by simpa [Act.put] using g4 h)
theorem OW (h:GV ops ts j fun b=>(b=want→wpList P ops Q (Oper.mk none op ty ps af none :: rest) (Act.mk ts.toArray df) w)∧(b = !want→wpList P ops Q rest (Act.mk ts.toArray df) w)) :
 wpList P ops Q (Oper.mk none op ty ps af (some (j,want)) :: rest) (Act.mk ts.toArray df) w:=by
 obtain ⟨g1,g2,g3,g4⟩:=h
 exact sG g1 g2 g3 (fun h=>by simpa [Act.put] using g4 h)
theorem fL {C:World→Prop} {QQ:Act→Prop} {v:Value} (hr:∀ w,C w→Runs P (Oper.mk (some d) op ty ps af none) (Act.mk ts.toArray df) w v)
 (h:wpQuiet P ops C QQ rest (Act.mk (ts.set d v).toArray df)):wpQuiet P ops C QQ (Oper.mk (some d) op ty ps af none :: rest) (Act.mk ts.toArray df):=DS rfl hr h
theorem OX {C:World→Prop} {QQ:Act→Prop} {v:Value} (h1:(ops[j]?).bind (·.dst)=some e) (h2:ts.getD e undef=.bool b) (h3:b=want) (hr:∀ w,C w→Runs P (Oper.mk (some d) op ty ps af (some (j,want))) (Act.mk ts.toArray df) w v)
 (h:wpQuiet P ops C QQ rest (Act.mk (ts.set d v).toArray df)):wpQuiet P ops C QQ (Oper.mk (some d) op ty ps af (some (j,want)) :: rest) (Act.mk ts.toArray df):=DS (yJ h1 h2 h3) hr h
theorem BT {C:World→Prop} {QQ:Act→Prop} (h1:(ops[j]?).bind (·.dst)=some e) (h2:ts.getD e undef=.bool b) (h3:b = !want)
 (h:wpQuiet P ops C QQ rest (Act.mk (ts.set d undef).toArray df)):wpQuiet P ops C QQ (Oper.mk (some d) op ty ps af (some (j,want)) :: rest) (Act.mk ts.toArray df):=FS (BR h1 h2 h3) h
end
def oS (Q:Exit→Act→World→Prop) (K:Act→World→Prop):Exit→Act→World→Prop
 | .normal=>K
 | e=>Q e
section
variable {P:Program} {Q:Exit→Act→World→Prop} {S:World→Prop} {l:List Oper} {ts:List Value} {df:List Deferred} {d:Nat} {ty:TypeId} {ps:String} {af:Array Edge} {g:Option (Nat × Bool)} {w:World} {fuel:Nat} {listed:List Bool} {id:Nat}
theorem dI {ops:Array Oper} {i:Nat} {o:Oper} {K:Act→World→Prop} {a:Act} (hi:ops[i]? = some o) (h:wpList P ops (oS Q K) [o] a w):wpOp P ops Q i K a w:=by
 unfold wpOp
 rw [hi]
 unfold wpList at h
 by_cases hw:Region.wanted o (yielded ops a.tmps)=true
 ·rw [if_pos hw] at h
  show (if Region.wanted o (yielded ops a.tmps)=true then o.wp P a w K Q∨(o.asks P a w∧LetsOut Q) else K (a.put o.dst undef) w)
  rw [if_pos hw]
  rcases h with h | h
  ·left
   unfold Oper.wp at *
   generalize (execOp a.eval o).run P w=r at *
   cases r with
   | ok n w' =>
    cases n <;> first | exact h | skip
    all_goals simp only [Oper.upon,wpList,oS] at h ⊢
    all_goals first | exact h | exact h.elim | (refine Calls.mono h ?_;intro e w'' he;cases e <;> exact he) | skip
   | halt x w'=>cases x <;> exact h
  ·exact .inr h
 ·rw [if_neg hw] at h
  show (if Region.wanted o (yielded ops a.tmps)=true then o.wp P a w K Q∨(o.asks P a w∧LetsOut Q) else K (a.put o.dst undef) w)
  rw [if_neg hw]
  exact h
theorem dA {a:Act} (S:World→Prop) (hm:P.follows .mixedOrders=true)
 (h:∀ w1,Ext w w1→w1.heap=w.heap→wpAnyH P .any l.toArray Q S l.length (List.replicate l.length false).toArray a w1):(Code.region id l.toArray true).wp P Q a w:=by
 refine wp_region_held (S:=S) hm ?_
 have:=h { w with drawn:=w.drawn + 1 } (Ext.drew w) rfl
 simpa using this
theorem dJ {fuel2:Nat} {i:Nat} {op:Op} {v:Value} (hi:l[i]? = some (Oper.mk (some d) op ty ps af g)) (hfu:fuel2=fuel + 1) (hs:Region.noSelect l.toArray=true) (hf:Region.free .any l.toArray listed.toArray i=true) (hr:(Region.ready .any l.toArray listed.toArray).contains i=true)
 (hw:Region.wanted (Oper.mk (some d) op ty ps af g) (yielded l.toArray ts.toArray)=true) (hS:S w)
 (hy:∀ w',S w'→Runs P (Oper.mk (some d) op ty ps af g) (Act.mk ts.toArray df) w' v) (hQ:∀ c a w,Q (.panic c) (a.put (some d) v) w→Q (.panic c) a w)
 (h:wpAnyH P .any l.toArray Q S fuel (listed.set i true).toArray (Act.mk (ts.set d v).toArray df) w):wpAnyH P .any l.toArray Q S fuel2 listed.toArray (Act.mk ts.toArray df) w:=by
 subst hfu
 refine wpAnyH_take (i:=i) (oi:=Oper.mk (some d) op ty ps af g) (v:=v) (by simpa using hi) hs hf hr hQ (.inl ⟨hw,fun w' hw'=>(hy w' hw').run⟩) hS ?_
 simpa [Act.put] using h
theorem OY {fuel2:Nat} {i:Nat} {op:Op} (hi:l[i]? = some (Oper.mk (some d) op ty ps af g)) (hfu:fuel2=fuel + 1) (hs:Region.noSelect l.toArray=true) (hf:Region.free .any l.toArray listed.toArray i=true) (hr:(Region.ready .any l.toArray listed.toArray).contains i=true)
 (hQ:∀ c a w,Q (.panic c) (a.put (some d) undef) w→Q (.panic c) a w) (hw:Region.wanted (Oper.mk (some d) op ty ps af g) (yielded l.toArray ts.toArray)=false) (hS:S w)
 (h:wpAnyH P .any l.toArray Q S fuel (listed.set i true).toArray (Act.mk (ts.set d undef).toArray df) w):wpAnyH P .any l.toArray Q S fuel2 listed.toArray (Act.mk ts.toArray df) w:=by
 subst hfu
 refine wpAnyH_take (i:=i) (oi:=Oper.mk (some d) op ty ps af g) (v:=undef) (by simpa using hi) hs hf hr hQ (.inr ⟨hw,rfl⟩) hS ?_
 simpa [Act.put] using h
theorem cK {fuel2:Nat} {i:Nat} {o:Oper} {a:Act} (hr:Region.ready .any l.toArray listed.toArray=[i]) (hi:l[i]? = some o) (hfu:fuel2=fuel + 1)
 (h:wpList P l.toArray (oS Q fun a' w'=>S w'∧wpAnyH P .any l.toArray Q S fuel (listed.set i true).toArray a' w') [o] a w):wpAnyH P .any l.toArray Q S fuel2 listed.toArray a w:=by
 subst hfu
 refine wpAnyH_all hr (by simp) fun j hj => ?_
 have:j=i:=by simpa using hj
 subst this
 refine dI (o:=o) (by simpa using hi) ?_
 simpa using h
theorem tI {fuel2:Nat} {i j:Nat} {o o':Oper} {a:Act} (hr:Region.ready .any l.toArray listed.toArray=[i,j]) (hi:l[i]? = some o) (hj:l[j]? = some o') (hfu:fuel2=fuel + 1)
 (h1:wpList P l.toArray (oS Q fun a' w'=>S w'∧wpAnyH P .any l.toArray Q S fuel (listed.set i true).toArray a' w') [o] a w)
 (h2:wpList P l.toArray (oS Q fun a' w'=>S w'∧wpAnyH P .any l.toArray Q S fuel (listed.set j true).toArray a' w') [o'] a w):wpAnyH P .any l.toArray Q S fuel2 listed.toArray a w:=by
 subst hfu
 refine wpAnyH_all hr (by simp) fun k hk => ?_
 have:k=i∨k=j:=by simpa using hk
 rcases this with rfl | rfl
 ·refine dI (o:=o) (by simpa using hi) ?_
  simpa using h1
 ·refine dI (o:=o') (by simpa using hj) ?_
  simpa using h2
theorem aD {ops:Array Oper} {K:Act→World→Prop} {a:Act} (h:K a w):wpList P ops (oS Q K) [] a w:=h
theorem cP {a:Act} (hr:Region.ready .any l.toArray listed.toArray=[]) (h:Q .normal a w):wpAnyH P .any l.toArray Q S fuel listed.toArray a w:=wpAnyH_done hr h _
end
section
variable {P:Program} {w:World} {ts:List Value} {df:List Deferred} {d:Option Nat} {ty:TypeId} {ps:String} {af:Array Edge} {g:Option (Nat × Bool)}
def vX:Value→Bool | .slice a _ _=>a.isNone | _=>false
theorem Runs.nilS {x:Nat} {t u:TypeId} {k:Nat} {es:List (List Value)} (h:Sl k w (ts.getD x undef) es) (ht:fA P t k=true) :
 Runs P (Oper.mk d (.binOp .eql t (.tmp x) (.const (.slice none 0 0)) u) ty ps af g) (Act.mk ts.toArray df) w (.bool (vX (ts.getD x undef))):=by
 obtain ⟨a,cap,h1,_⟩:=h
 obtain ⟨e,i,ht,_⟩:=eK ht
 constructor
 have e1:(Act.mk ts.toArray df).eval (.tmp x)=.slice a es.length cap:=by rw [fW];exact h1
 have e2:(Act.mk ts.toArray df).eval (.const (.slice none 0 0))=.slice none 0 0:=rfl
 simp only [execOp,e1,e2,eqGuard,h1,vX]
 have:=run_equal_slice_nil (P:=P) (w:=w) t e a es.length cap ht
 simp [binOp,this]
end
theorem Sl.isNil {k:Nat} {w:World} {v:Value} {es:List (List Value)} (h:Sl k w v es) (hn:X.vX v=true):es=[]:=by
 obtain ⟨a,cap,rfl,h2,h3,h4,h5,_⟩:=h
 cases a with
 | none=>exact List.eq_nil_of_length_eq_zero (by have:=h5 rfl;omega)
 | some a=>simp [X.vX] at hn
theorem jY {P:Program} {ops:Array Oper} {Q:Exit→Act→World→Prop} {w:World} {rest:List Oper} {ts:List Value} {df:List Deferred} {ty:TypeId} {ps:String} {af:Array Edge} {g:Option (Nat × Bool)} {t e k d bytes:Nat} (ht:lY P t e k bytes=true)
 (hw:Region.wanted (Oper.mk (some d) (.buildSlice t 0 #[]) ty ps af g) (yielded ops ts.toArray)=true)
 (h:∀ v' w',Ext w w'→w'.heap.size=w.heap.size + 1→Own w.heap.size k e w' v' []→wpList P ops Q rest (Act.mk (ts.set d v').toArray df) w') :
 wpList P ops Q (Oper.mk (some d) (.buildSlice t 0 #[]) ty ps af g :: rest) (Act.mk ts.toArray df) w :=
 rG (k:=k) (e:=e) (bytes:=bytes) (xs:=[]) (parts:=[]) hw rfl rfl (by simp) ht (by simp) fun v' w' x s _ o=>h v' w' x s o
theorem Sl.one {k:Nat} {w:World} {v:Value} {es:List (List Value)} (h:Sl k w v es):v.oneCell'=true:=by
 obtain ⟨a,cap,rfl,_⟩:=h
 rfl
theorem gB {a b c d:Value} (h1:a.oneCell'=true) (h2:b.oneCell'=true) (h3:c.oneCell'=true) (h4:d.oneCell'=true):(Value.agg #[a,b,c,d]).cells.all (·.oneCell')=true:=by simp [Value.cells,h1,h2,h3,h4]
theorem Sl.nil (k:Nat) (w:World):Sl k w (.slice none 0 0) []:=⟨none,0,rfl,Nat.le_refl _,by omega,by simp,fun _=>rfl,fun h=>absurd rfl h⟩
theorem IX {α:Type} (cs:List α) (n:Nat) (v:α) (h:n < cs.length):cs.set n v=cs.take n ++ [v] ++ cs.drop (n + 1):=by
 rw [List.set_eq_take_append_cons_drop,if_pos h];simp
section
variable {P:Program} {ops:Array Oper} {Q:Exit→Act→World→Prop} {w:World} {rest:List Oper} {ts:List Value} {df:List Deferred} {ty:TypeId} {ps:String} {af:Array Edge} {g:Option (Nat × Bool)}
theorem yK {t ty:TypeId} {b n:Nat} {cs:List Value} {v:Value} (hb:w.heap[b]? = some (.cells cs.toArray t (0,0))) (hn:n < cs.length) (hs:dG P ty 1=true) (h1:v.oneCell'=true) :
 ∃ w',(storeVar ty ⟨b,n,none⟩ v).run P w=.ok () w'∧Put w w' b (.cells (cs.set n v).toArray t (0,0)):=by
 have hc:v.cells=#[v]:=by cases v <;> first | rfl | cases h1
 obtain ⟨i,hq,hsz⟩:=rF (iM hs)
 have hr:=eB P b n t (0,0) [v] 0 cs.toArray w hb (.inl (Nat.le_refl _)) (by simp;omega) (by simpa using h1)
 simp only [Nat.add_zero,List.length_cons,List.length_nil,Nat.zero_add] at hr
 rw [← IX cs n v hn] at hr
 refine ⟨w.setRow b (cs.set n v).toArray,?_,rfl,rfl,rfl,by simp,setRow_heap w b _ _ t _ hb,fun k hk=>setRow_other w b k _ hk,rfl⟩
 simp [storeVar,sizeOf,typeInfo,hq,hsz,hc,hr]
theorem iG {t ty:TypeId} {x y:Operand} {b n:Nat} {cs:List Value} {v:Value} {ty2:TypeId} (hb:w.heap[b]? = some (.cells cs.toArray t (0,0))) (hw:Region.wanted (Oper.mk none (.store ty x y) ty2 ps af g) (yielded ops ts.toArray)=true)
 (hx:(Act.mk ts.toArray df).eval x=aT (.pointer (some ⟨b,0,none⟩)) n) (hy:(Act.mk ts.toArray df).eval y=v) (hn:n < cs.length) (hs:dG P ty 1=true) (h1:v.oneCell'=true)
 (h:∀ w',Put w w' b (.cells (cs.set n v).toArray t (0,0))→wpList P ops Q rest (Act.mk ts.toArray df) w'):wpList P ops Q (Oper.mk none (.store ty x y) ty2 ps af g :: rest) (Act.mk ts.toArray df) w:=by
 obtain ⟨w',hr,hp⟩:=yK (P:=P) hb hn hs h1
 refine iN hw (w':=w') ?_ (h w' hp)
 have e:aT (.pointer (some ⟨b,0,none⟩)) n=.pointer (some ⟨b,n,none⟩):=by simp [aT,cX]
 simp [execOp,hx,hy,e,Instr.storeAt,Instr.sureAddr,hr]
theorem Runs.build0 {t:TypeId} {d:Option Nat} {cells:Array Value} (h:P.built t []=some cells) :
 Runs P (Oper.mk d (.build t #[]) ty ps af g) (Act.mk ts.toArray df) w (.agg cells):=Runs.build (parts:=[]) (vals:=[]) rfl h
end
structure MapAt (P:Program) (kt:TypeId) (w:World) (m:Nat) (ents:List (Value × Value)):Prop where
 out:∃ es clock,w.heap[m]? = some (.map es clock)∧es.toList.map (fun e=>(e.key,e.val))=ents∧∀ e ∈ es.toList,∃ l,keyOf P kt e.key=some l
theorem MapAt.at {P:Program} {kt:TypeId} {w w':World} {m:Nat} {ents:List (Value × Value)} (h:MapAt P kt w m ents) (hm:∀ o,w.heap[m]? = some o→w'.heap[m]? = some o):MapAt P kt w' m ents:=by
 obtain ⟨es,c,h1,h2,h3⟩:=h
 exact ⟨es,c,hm _ h1,h2,h3⟩
theorem MapAt.lt {P:Program} {kt:TypeId} {w:World} {m:Nat} {ents:List (Value × Value)} (h:MapAt P kt w m ents):m < w.heap.size:=by
 obtain ⟨es,c,h1,_⟩:=h
 exact (Array.getElem?_eq_some_iff.1 h1).1
def eG (P:Program) (t kt et:TypeId):Bool:=match P.underlying t with | some (.map k e)=>k == kt && e == et | _=>false
theorem gK {P:Program} {t kt et:Nat} (h:eG P t kt et=true):P.underlying t=some (.map kt et):=by
 unfold eG at h
 split at h
 ·rename_i k e he
  simp only [Bool.and_eq_true,beq_iff_eq] at h
  rw [he,h.1,h.2]
 ·cases h
section
variable {P:Program} {ops:Array Oper} {Q:Exit→Act→World→Prop} {w:World} {rest:List Oper} {ts:List Value} {df:List Deferred} {ty:TypeId} {ps:String} {af:Array Edge} {g:Option (Nat × Bool)} {d:Nat} {kt et t:TypeId} {m:Nat} {ents:List (Value × Value)}
theorem FY (law:WideMaps.KeyLaw P kt) {es:Array MapEntry} {x:Value} {lx:Lit} (hx:keyOf P kt x=some lx) (h2:es.toList.map (fun e=>(e.key,e.val))=ents) (h3:∀ e ∈ es.toList,∃ l,keyOf P kt e.key=some l) :
 (∃ (i:Nat) (v:Value),ents[i]? = some (x,v)∧(Instr.findKey kt x es.toList).run P w=.ok (some (i,v)) w)∨((∀ (i:Nat) (e:Value × Value),ents[i]? = some e→e.1≠x)∧(Instr.findKey kt x es.toList).run P w=.ok none w):=by
 rcases law.find w hx es.toList h3 with ⟨h4,h5⟩ | ⟨j,e,h4,h5,h6⟩
 ·refine .inr ⟨fun i e hi => ?_,h4⟩
  subst h2
  rw [List.getElem?_map] at hi
  cases he:es.toList[i]? with
  | none=>rw [he] at hi;cases hi
  | some e' =>
   rw [he] at hi
   cases hi
   exact h5 e' (List.mem_of_getElem? he)
 ·refine .inl ⟨j,e.val,?_,h4⟩
  subst h2
  rw [List.getElem?_map,h5,Option.map_some,h6]
theorem gL (law:WideMaps.KeyLaw P kt) (ht:eG P t kt et=true) {z:Value} (hz:∀ w,(zeroValue et).run P w=.ok z w) (hm:MapAt P kt w m ents) {x:Value} {lx:Lit} (hx:keyOf P kt x=some lx) (ok:Bool) :
 ∃ v b,(Instr.lookup t (.map (some m)) x ok).run P w=.ok (if ok then .tuple #[v, .bool b] else v) w∧((∃ i:Nat,ents[i]? = some (x,v)∧b=true)∨((∀ (i:Nat) (e:Value × Value),ents[i]? = some e→e.1≠x)∧v=z∧b=false)):=by
 obtain ⟨es,c,h1,h2,h3⟩:=hm
 have hc:=law.check w es.isEmpty hx
 have hu:=gK ht
 have hgo:(getObj m).run P w=.ok (.map es c) w:=by simp [getObj,Sem.run,h1]
 rcases FY (w:=w) law hx h2 h3 with ⟨i,v,hi,hf⟩ | ⟨hn,hf⟩
 ·refine ⟨v,true,?_, .inl ⟨i,hi,rfl⟩⟩
  simp only [Instr.lookup,Sem.run_bind,run_underlying hu,Result.andThen_ok,hgo,Sem.run_pure,hc,hf]
 ·refine ⟨z,false,?_, .inr ⟨hn,rfl,rfl⟩⟩
  simp only [Instr.lookup,Sem.run_bind,run_underlying hu,Result.andThen_ok,hgo,Sem.run_pure,hc,hf,hz w]
theorem Runs.lookup {o:Option Nat} {a x:Operand} {v r:Value} {ok:Bool} (ha:(Act.mk ts.toArray df).eval a=.map (some m)) (hx:(Act.mk ts.toArray df).eval x=v) (h:(Instr.lookup t (.map (some m)) v ok).run P w=.ok r w) :
 Runs P (Oper.mk o (.lookup t a x ok) ty ps af g) (Act.mk ts.toArray df) w r:=by
 constructor
 simp [execOp,ha,hx,h]
theorem jA (law:WideMaps.KeyLaw P kt) (ht:eG P t kt et=true) (hm:MapAt P kt w m ents) {x v:Value} {lx:Lit} (hx:keyOf P kt x=some lx) (hn:∀ (i:Nat) (e:Value × Value),ents[i]? = some e→e.1≠x) :
 ∃ w' o,(Instr.mapUpdate t (.map (some m)) x v).run P w=.ok () w'∧Put w w' m o∧MapAt P kt w' m (ents ++ [(x,v)]):=by
 obtain ⟨es,c,h1,h2,h3⟩:=hm
 have hc:=law.check w false hx
 have hu:=gK ht
 have hgo:(getObj m).run P w=.ok (.map es c) w:=by simp [getObj,Sem.run,h1]
 have hlt:=(Array.getElem?_eq_some_iff.1 h1).1
 rcases FY (w:=w) law hx h2 h3 with ⟨i,v',hi,hf⟩ | ⟨_,hf⟩
 ·exact absurd rfl (hn i _ hi)
 ·have hso:(setObj m (.map (es.push { key:=x,val:=v,born:=c }) (c + 1))).run P w=.ok () (w.putObj m (.map (es.push { key:=x,val:=v,born:=c }) (c + 1))):=by
   simp [setObj,Sem.run,h1,World.putObj]
  have hp:=fK (o':=.map (es.push { key:=x,val:=v,born:=c }) (c + 1)) h1
  refine ⟨_,_,?_,hp,⟨_,_,hp.this,by simp [h2],?_⟩⟩
  ·simp only [Instr.mapUpdate,Sem.run_bind,run_underlying hu,Result.andThen_ok,hgo,hc,hf,hso]
  ·intro e he
   simp only [Array.toList_push,List.mem_append,List.mem_singleton] at he
   rcases he with he | rfl
   ·exact h3 e he
   ·exact ⟨lx,hx⟩
theorem eO {a x y:Operand} {ty2:TypeId} {v u:Value} {w':World} (hw:Region.wanted (Oper.mk none (.mapUpdate t a x y) ty2 ps af g) (yielded ops ts.toArray)=true)
 (ha:(Act.mk ts.toArray df).eval a=.map (some m)) (hx:(Act.mk ts.toArray df).eval x=v) (hy:(Act.mk ts.toArray df).eval y=u) (hr:(Instr.mapUpdate t (.map (some m)) v u).run P w=.ok () w')
 (h:wpList P ops Q rest (Act.mk ts.toArray df) w'):wpList P ops Q (Oper.mk none (.mapUpdate t a x y) ty2 ps af g :: rest) (Act.mk ts.toArray df) w:=by
 refine iN hw (w':=w') ?_ h
 simp [execOp,ha,hx,hy,hr]
theorem mV (hw:Region.wanted (Oper.mk (some d) (.makeMap t none) ty ps af g) (yielded ops ts.toArray)=true)
 (h:∀ w',Ext w w'→w'.heap.size=w.heap.size + 1→MapAt P kt w' w.heap.size []→wpList P ops Q rest (Act.mk (ts.set d (.map (some w.heap.size))).toArray df) w') :
 wpList P ops Q (Oper.mk (some d) (.makeMap t none) ty ps af g :: rest) (Act.mk ts.toArray df) w:=by
 refine mU hw (v:=.map (some w.heap.size)) (w':=w.alloc (.map #[] 0)) ?_ (h _ (Ext.alloc _ _) (by simp) ⟨#[],0,heap_alloc_new w _,rfl,by simp⟩)
 simp [execOp,Instr.makeMap,newObj,Sem.run]
end
theorem Runs.fieldLit {P:Program} {w:World} {ts:List Value} {df:List Deferred} {d:Option Nat} {ty:TypeId} {ps:String} {af:Array Edge} {g:Option (Nat × Bool)} {s:TypeId} {m n b o:Nat} (h:ts.getD m undef=.pointer (some ⟨b,o,none⟩)) (hf:mR P s n n=true) :
 Runs P (Oper.mk d (.fieldAddr s (.tmp m) n) ty ps af g) (Act.mk ts.toArray df) w (aT (ts.getD m undef) n):=by
 obtain ⟨fs,f,i,ht,hf,ho,hie,hz⟩:=lK hf
 have e1:(Act.mk ts.toArray df).eval (.tmp m)=.pointer (some ⟨b,o,none⟩):=by rw [fW];exact h
 constructor
 rw [h]
 simp [execOp,e1,Instr.fieldAt,Instr.sureAddr,run_underlying ht,hf,fieldPlace,sizeOf,typeInfo,hie,hz,aT,ho]
section
variable {P:Program} {ops:Array Oper} {Q:Exit→Act→World→Prop} {md:Region.Mode} {S:Array Bool→World→Prop}
def Closed (md:Region.Mode) (ops:Array Oper) (listed:Array Bool):Prop:=∀ (j:Nat) oj,ops[j]? = some oj→listed.getD j false=true→∀ e ∈ oj.after,Region.binds md e=true→listed.getD e.on false=true
theorem Closed.start (n:Nat):Closed md ops (Array.replicate n false):=fun j oj _ h=>by rw [getD_replicate_false] at h;cases h
theorem Closed.set {i:Nat} {listed:Array Bool} (inv:Closed md ops listed) (hi:i ∈ Region.ready md ops listed):Closed md ops (listed.setIfInBounds i true):=by
 obtain ⟨_,oi,hoi,hall⟩:=mem_ready.1 hi
 intro j oj hj hl e he hb
 by_cases hij:i=j
 ·subst hij
  have:oj=oi:=Option.some.inj (hj.symm.trans hoi)
  subst this
  exact getD_set_true (hall e he hb)
 ·rw [getD_set_ne false hij] at hl
  exact getD_set_true (inv j oj hj hl e he hb)
def tJ (md:Region.Mode) (ops:Array Oper):Nat→Nat→Nat→Bool
 | 0,k,i=>k == i
 | f + 1,k,i=>k == i || (match ops[k]? with | some o=>o.after.toList.any fun e=>Region.binds md e && tJ md ops f e.on i | none=>false)
theorem Closed.reaches {listed:Array Bool} (inv:Closed md ops listed):∀ (f k i:Nat),X.tJ md ops f k i=true→listed.getD k false=true→listed.getD i false=true
 | 0,k,i,h,hk=>by have:k=i:=by simpa [X.tJ] using h
                  subst this;exact hk
 | f + 1,k,i,h,hk=>by
   simp only [X.tJ,Bool.or_eq_true,beq_iff_eq] at h
   rcases h with h | h
   ·subst h;exact hk
   ·cases ho:ops[k]? with
    | none=>rw [ho] at h;cases h
    | some o =>
     rw [ho] at h
     obtain ⟨e,he,hb⟩:=List.any_eq_true.1 h
     simp only [Bool.and_eq_true] at hb
     exact inv.reaches f e.on i hb.2 (inv k o ho hk e (by simpa using he) hb.1)
def Dn (md:Region.Mode) (ops:Array Oper) (S:Array Bool→World→Prop) (i:Nat) (w:World):Prop:=∃ listed,Closed md ops listed∧listed.getD i true=false∧S listed w
def yL (P:Program) (md:Region.Mode) (ops:Array Oper) (Q:Exit→Act→World→Prop) (S:Array Bool→World→Prop):Nat→Array Bool→Act→World→Prop
 | 0,listed,a,w=>Region.ready md ops listed=[]∧Q .normal a w
 | fuel + 1,listed,a,w =>
  (Region.ready md ops listed=[]→Q .normal a w) ∧
  ∀ i ∈ Region.ready md ops listed,wpOp P ops Q i (fun a' w'=>S (listed.setIfInBounds i true) w'∧yL P md ops Q S fuel (listed.setIfInBounds i true) a' w') a w
theorem yM:∀ (fuel:Nat) (listed:Array Bool) (a:Act) (w:World),yL P md ops Q S fuel listed a w→wpAny P md ops Q fuel listed a w
 | 0,_,_,_,h=>h
 | fuel + 1,_,_,_,h=>⟨h.1,fun i hi=>wpOp_mono (fun a' w' h'=>yM fuel _ a' w' h'.2) (h.2 i hi)⟩
def Till (k:Nat) (F:World→Prop) (listed:Array Bool) (w:World):Prop:=listed.getD k false=false→F w
theorem Till.set {k i:Nat} {F:World→Prop} {listed:Array Bool} {w:World} (hik:i≠k):Till k F (listed.setIfInBounds i true) w↔Till k F listed w:=by
 unfold Till;rw [getD_set_ne false hik]
theorem tK {k i:Nat} {F:World→Prop} {oi:Oper} {v:Value} (hi:ops[i]? = some oi) (hik:i≠k) (hsel:∀ (j:Nat) (o:Oper) cs b,ops[j]? = some o→o.op≠.select cs b)
 (hQ:∀ c a w,Q (.panic c) (a.put oi.dst v) w→Q (.panic c) a w) :
 ∀ (fuel:Nat) (listed:Array Bool) (a:Act) (w:World),
   Closed md ops listed→(∀ j oj,ops[j]? = some oj→j≠i→listed.getD j true=false→(∀ e ∈ oj.after,Region.binds md e=true→e.on≠i)→oi.apart ops oj=true) →
   i ∈ Region.ready md ops listed→YieldsIf P ops (Dn md ops (Till k F) i) oi v a→Till k F listed w →
   yL P md ops Q (Till k F) fuel (listed.setIfInBounds i true) (a.put oi.dst v) w→yL P md ops Q (Till k F) (fuel + 1) listed a w:=by
 intro fuel
 induction fuel with
 | zero =>
  intro listed a w hcl _ hr hy hS H
  have hun:=(mem_ready.1 hr).1
  refine ⟨fun h=>(by rw [h] at hr;cases hr),fun j hj => ?_⟩
  by_cases hji:j=i
  ·subst hji;exact hy.wpOp hi ⟨listed,hcl,hun,hS⟩ ⟨(Till.set hik).2 hS,H⟩
  ·have:=ready_mono hj hji
   rw [H.1] at this
   cases this
 | succ fuel ih =>
  intro listed a w hcl hfree hr hy hS H
  have hun:=(mem_ready.1 hr).1
  refine ⟨fun h=>(by rw [h] at hr;cases hr),fun j hj => ?_⟩
  by_cases hji:j=i
  ·subst hji;exact hy.wpOp hi ⟨listed,hcl,hun,hS⟩ ⟨(Till.set hik).2 hS,H⟩
  ·have h1:=H.2 j (ready_mono hj hji)
   obtain ⟨hjun,oj,hoj,hall⟩:=mem_ready.1 hj
   have hnot:∀ e ∈ oj.after,Region.binds md e=true→e.on≠i:=fun e he hb heq=>by
    have h1:=hall e he hb
    rw [heq,getD_both hun] at h1
    cases h1
   have h2:=wpOp_putIf hoj (hfree j oj hoj hji hjun hnot) (fun cs b=>hsel i oi cs b hi) (fun cs b=>hsel j oj cs b hoj) hQ hy h1
   have hfree':∀ k ok,ops[k]? = some ok→k≠i→(listed.setIfInBounds j true).getD k true=false →
    (∀ e ∈ ok.after,Region.binds md e=true→e.on≠i)→oi.apart ops ok=true:=fun k ok hk hki hun hno=>by
    refine hfree k ok hk hki ?_ hno
    by_cases hjk:j=k
    ·subst hjk;exact hjun
    ·rw [getD_set_ne true hjk] at hun;exact hun
   refine wpOp_mono (fun a' w' h3 => ?_) h2
   have hS2:Till k F (listed.setIfInBounds j true) w':=by
    have:=h3.2.1
    rw [Array.setIfInBounds_comm _ _ (Ne.symm hji)] at this
    exact (Till.set hik).1 this
   refine ⟨hS2,ih (listed.setIfInBounds j true) a' w' (hcl.set hj) hfree' (ready_mono hr (Ne.symm hji)) h3.1 hS2 ?_⟩
   rw [Array.setIfInBounds_comm _ _ hji]
   exact h3.2.2
end
section
variable {P:Program} {Q:Exit→Act→World→Prop} {k:Nat} {F:World→Prop} {l:List Oper} {ts:List Value} {df:List Deferred} {d:Nat} {ty:TypeId} {ps:String} {af:Array Edge} {g:Option (Nat × Bool)} {w:World} {fuel fuel2:Nat} {listed:List Bool} {id:Nat}
def vY (P:Program) (Q:Exit→Act→World→Prop) (k:Nat) (F:World→Prop) (l:List Oper) (fuel:Nat) (listed:List Bool) (a:Act) (w:World):Prop:=Closed .any l.toArray listed.toArray∧Till k F listed.toArray w→yL P .any l.toArray Q (Till k F) fuel listed.toArray a w
theorem aP {a:Act} (k:Nat) (F:World→Prop) (hm:P.follows .mixedOrders=true)
 (h:∀ w1,Ext w w1→w1.heap=w.heap→F w1∧vY P Q k F l l.length (List.replicate l.length false) a w1):(Code.region id l.toArray true).wp P Q a w:=by
 refine wp_region_any hm (yM (S:=Till k F) _ _ _ _ ?_)
 obtain ⟨h1,h2⟩:=h { w with drawn:=w.drawn + 1 } (Ext.drew w) rfl
 have:=h2 ⟨by simpa using Closed.start _,fun _=>h1⟩
 simpa using this
theorem bQ {i:Nat} {op:Op} {v:Value} (hi:l[i]? = some (Oper.mk (some d) op ty ps af g)) (hfu:fuel2=fuel + 1) (hik:decide (i≠k)=true) (hk:tJ .any l.toArray l.length k i=true) (hs:Region.noSelect l.toArray=true) (hf:Region.free .any l.toArray listed.toArray i=true) (hr:(Region.ready .any l.toArray listed.toArray).contains i=true)
 (hw:Region.wanted (Oper.mk (some d) op ty ps af g) (yielded l.toArray ts.toArray)=true)
 (hy:∀ w',F w'→Runs P (Oper.mk (some d) op ty ps af g) (Act.mk ts.toArray df) w' v) (hQ:∀ c a w,Q (.panic c) (a.put (some d) v) w→Q (.panic c) a w)
 (h:vY P Q k F l fuel (listed.set i true) (Act.mk (ts.set d v).toArray df) w):vY P Q k F l fuel2 listed (Act.mk ts.toArray df) w:=by
 subst hfu
 rintro ⟨hcl,hS⟩
 have hik':i≠k:=by simpa using hik
 have hr':i ∈ Region.ready .any l.toArray listed.toArray:=by simpa using hr
 refine tK (oi:=Oper.mk (some d) op ty ps af g) (v:=v) (by simpa using hi) hik' (Region.noSelect_spec hs) hQ fuel listed.toArray _ w hcl (Region.free_spec (by simpa using hi) hf) hr' (.inl ⟨hw,fun w' ⟨l',hcl',hun',hS'⟩=>(hy w' (hS' ?_)).run⟩) hS ?_
 ·cases hkl:l'.getD k false with
  | false=>rfl
  | true =>
   have:=hcl'.reaches _ k i hk hkl
   rw [getD_both hun'] at this
   cases this
 ·have:=h ⟨by simpa using hcl.set hr',by simpa using (Till.set hik').2 hS⟩
  simpa [Act.put] using this
theorem jB {i:Nat} {op:Op} {v:Value} (hi:l[i]? = some (Oper.mk (some d) op ty ps af g)) (hfu:fuel2=fuel + 1) (hik:decide (i≠k)=true) (hs:Region.noSelect l.toArray=true) (hf:Region.free .any l.toArray listed.toArray i=true) (hr:(Region.ready .any l.toArray listed.toArray).contains i=true)
 (hw:Region.wanted (Oper.mk (some d) op ty ps af g) (yielded l.toArray ts.toArray)=true)
 (hy:∀ w',Runs P (Oper.mk (some d) op ty ps af g) (Act.mk ts.toArray df) w' v) (hQ:∀ c a w,Q (.panic c) (a.put (some d) v) w→Q (.panic c) a w)
 (h:vY P Q k F l fuel (listed.set i true) (Act.mk (ts.set d v).toArray df) w):vY P Q k F l fuel2 listed (Act.mk ts.toArray df) w:=by
 subst hfu
 rintro ⟨hcl,hS⟩
 have hik':i≠k:=by simpa using hik
 have hr':i ∈ Region.ready .any l.toArray listed.toArray:=by simpa using hr
 refine tK (oi:=Oper.mk (some d) op ty ps af g) (v:=v) (by simpa using hi) hik' (Region.noSelect_spec hs) hQ fuel listed.toArray _ w hcl (Region.free_spec (by simpa using hi) hf) hr' (.inl ⟨hw,fun w' _=>(hy w').run⟩) hS ?_
 have:=h ⟨by simpa using hcl.set hr',by simpa using (Till.set hik').2 hS⟩
 simpa [Act.put] using this
theorem YE {i:Nat} {o:Oper} {a:Act} (hr:Region.ready .any l.toArray listed.toArray=[i]) (hi:l[i]? = some o) (hfu:fuel2=fuel + 1)
 (h:wpList P l.toArray (oS Q fun a' w'=>Till k F (listed.set i true).toArray w'∧vY P Q k F l fuel (listed.set i true) a' w') [o] a w):vY P Q k F l fuel2 listed a w:=by
 subst hfu
 rintro ⟨hcl,hS⟩
 refine ⟨fun h0=>(by rw [hr] at h0;cases h0),fun j hj => ?_⟩
 have hj':=hj
 rw [hr] at hj
 have:j=i:=by simpa using hj
 subst this
 refine wpOp_mono (fun a' w' h3 => ?_) (dI (o:=o) (by simpa using hi) h)
 have hcl2:Closed .any l.toArray (listed.set j true).toArray:=by simpa using hcl.set hj'
 refine ⟨by simpa using h3.1,?_⟩
 have:=h3.2 ⟨hcl2,h3.1⟩
 simpa using this
theorem DU {i j:Nat} {o o':Oper} {a:Act} (hr:Region.ready .any l.toArray listed.toArray=[i,j]) (hi:l[i]? = some o) (hj:l[j]? = some o') (hfu:fuel2=fuel + 1)
 (h1:wpList P l.toArray (oS Q fun a' w'=>Till k F (listed.set i true).toArray w'∧vY P Q k F l fuel (listed.set i true) a' w') [o] a w)
 (h2:wpList P l.toArray (oS Q fun a' w'=>Till k F (listed.set j true).toArray w'∧vY P Q k F l fuel (listed.set j true) a' w') [o'] a w):vY P Q k F l fuel2 listed a w:=by
 subst hfu
 rintro ⟨hcl,hS⟩
 refine ⟨fun h0=>(by rw [hr] at h0;cases h0),fun n hn => ?_⟩
 have hn':=hn
 rw [hr] at hn
 have:n=i∨n=j:=by simpa using hn
 rcases this with rfl | rfl
 ·refine wpOp_mono (fun a' w' h3 => ?_) (dI (o:=o) (by simpa using hi) h1)
  have hcl2:Closed .any l.toArray (listed.set n true).toArray:=by simpa using hcl.set hn'
  refine ⟨by simpa using h3.1,?_⟩
  have:=h3.2 ⟨hcl2,h3.1⟩
  simpa using this
 ·refine wpOp_mono (fun a' w' h3 => ?_) (dI (o:=o') (by simpa using hj) h2)
  have hcl2:Closed .any l.toArray (listed.set n true).toArray:=by simpa using hcl.set hn'
  refine ⟨by simpa using h3.1,?_⟩
  have:=h3.2 ⟨hcl2,h3.1⟩
  simpa using this
theorem OZ {a:Act} (hr:Region.ready .any l.toArray listed.toArray=[]) (h:Q .normal a w):vY P Q k F l fuel listed a w:=by
 intro _
 cases fuel with
 | zero=>exact ⟨hr,h⟩
 | succ n=>exact ⟨fun _=>h,by rw [hr];simp⟩
theorem aS {listed:List Bool} (h:F w):Till k F listed.toArray w:=fun _=>h
theorem aN {listed:List Bool} (h:listed.toArray.getD k false=true):Till k F listed.toArray w:=fun h'=>by rw [h] at h';cases h'
theorem KR {α:Type} {F:α→World→Prop} {G:α→World→Prop} {goal:Prop} (h1:(∀ x w',F x w'→G x w')→goal) (h2:∀ x w',F x w'→G x w'):goal:=h1 h2
end
open Go.Deep
section
variable {H:Type} {enc:TypeId × Value→H} {P:Program} {w:World} {base:Nat} {spare:Nat→Bool} {held:Bool}
theorem PA {t:TypeId} {fuel:Nat} {c:Value} {x:DataW H × List MemPlace} (ht:P.underlying t=some .string) (h:DataW.trod enc P w base spare held fuel t [c]=some x):∃ s:List UInt8,c=aE s∧s.length≤maxLen:=by
 obtain ⟨s,h1,_,h3⟩:=DataW.trod_string ht h
 refine ⟨s.data.toList,?_,by rw [Array.length_toList];exact h3⟩
 simp only [List.cons.injEq,and_true] at h1
 rw [h1,aE,Array.toArray_toList]
theorem yN {t:TypeId} {k:IntKind} {fuel:Nat} {c:Value} {x:DataW H × List MemPlace} (ht:P.underlying t=some (.int k)) (h:DataW.trod enc P w base spare held fuel t [c]=some x):∃ n:Int,c=.int k n∧(Lit.int k n).wf=true:=by
 obtain ⟨n,h1,_,h3⟩:=DataW.trod_int ht h
 exact ⟨n,by simpa using h1,h3⟩
theorem MI {t e:TypeId} {k fuel:Nat} {v:Value} {x:DataW H × List MemPlace} (ht:P.underlying t=some (.slice e)) (hc:P.cellsOf e=k) (hk:0 < k) (h:DataW.trod enc P w base spare held fuel t [v]=some x) :
 ∃ es:List (List Value),Sl k w v es∧∀ c ∈ es,∃ n y,DataW.trod enc P w base spare held n e c=some y:=by
 rcases open_slice ht h with ⟨h0,_⟩ | ⟨a,len,cap,m,n,D,Pl,h0,hb,hl,hm,hmm,_,hx⟩
 ·simp only [List.cons.injEq,and_true] at h0
  subst h0
  exact ⟨[],Sl.nil _ _,by simp⟩
 ·simp only [List.cons.injEq,and_true] at h0
  subst h0
  have hlm:len≤m:=by rw [hmm];split <;> omega
  obtain ⟨f,hf⟩:=choose_lt (α:=List Value) (p:=fun i cs=>w.cells? base (a.add (i * P.cellsOf e)) (P.cellsOf e)=some cs∧DataW.trod enc P w base spare held n e cs=some (D i,Pl i)) (n:=len) (fun i hi=>hx i (by omega))
  have hfl:∀ i,i < len→(f i).length=k:=fun i hi=>by
   obtain ⟨_,h2,_⟩:=World.cells?_some (hf i hi).1
   rw [h2,hc]
  have hcell:∀ i,i < len→∀ j u,(f i)[j]? = some u→w.cell? ((a.add (i * k)).add j)=some u:=fun i hi j u hu=>by
   obtain ⟨_,h2,h3⟩:=World.cells?_some (hf i hi).1
   have hj:=(List.getElem?_eq_some_iff.1 hu).1
   have:=h3 j (by rw [← h2];exact hj)
   rw [hc] at this
   rw [this,hu]
  refine ⟨(List.range len).map f,⟨some a,cap,by simp,by simpa using hl,by simpa [maxLen] using hm,?_,(fun h=>by cases h),?_⟩,?_⟩
  ·intro x hx
   obtain ⟨i,hi,rfl⟩:=List.mem_map.1 hx
   exact hfl i (List.mem_range.1 hi)
  ·intro hne
   have hlen:0 < len:=by
    rcases Nat.eq_zero_or_pos len with h | h
    ·subst h;simp at hne
    ·exact h
   obtain ⟨b,o,sp⟩:=a
   have h0:=hcell 0 hlen 0 ((f 0)[0]'(by rw [hfl 0 hlen];exact hk)) (List.getElem?_eq_getElem _)
   have hsp:sp=none:=by
    have:=World.cell?_spot h0
    simpa [Addr.add] using this
   subst hsp
   refine ⟨b,o,rfl,fun i e j x hi hj => ?_⟩
   rw [List.getElem?_map] at hi
   have hil:i < len:=by
    rcases Nat.lt_or_ge i len with h | h
    ·exact h
    ·rw [List.getElem?_eq_none (by simpa using h)] at hi;cases hi
   rw [List.getElem?_range hil] at hi
   cases hi
   have:=hcell i hil j x hj
   rw [cX,cX] at this
   exact this
  ·intro c hc
   obtain ⟨i,hi,rfl⟩:=List.mem_map.1 hc
   exact ⟨n,_,(hf i (List.mem_range.1 hi)).2⟩
theorem KS {α β:Type} {f:α→β}:∀ {l:List β},(∀ x ∈ l,∃ y,x=f y)→∃ m:List α,l=m.map f
 | [],_=>⟨[],rfl⟩
 | x :: l,h=>by
   obtain ⟨y,rfl⟩:=h x (by simp)
   obtain ⟨m,rfl⟩:=KS (l:=l) (fun z hz=>h z (by simp [hz]))
   exact ⟨y :: m,rfl⟩
end
theorem aB {G G':Prop} (h:G') (e:G=G':=by ((simp only [List.set_cons_succ,List.set_cons_zero,List.getD_cons_succ,List.getD_cons_zero,List.length_map,if_true,Bool.false_eq_true,if_false,Int.toNat_natCast,Int.toNat_zero,Int.toNat_one,Nat.zero_mul,Bool.not_true,Bool.not_false,decide_true,decide_false]);(with_reducible exact rfl))):G:=e.mpr h
theorem gU {w w':World} (h:Ext w w':=by (repeat (first | (with_reducible assumption) | exact Ext.refl _ | (refine Ext.trans ?_ (by with_reducible assumption))))):Ext w w':=h
theorem rn {P:Program} {o:Oper} {a:Act} {w:World} {v:Value} (h:Runs P o a w v:=by (first | exact Runs.moveT _ | exact Runs.assignT _ | exact Runs.moveC _ | exact Runs.assignC _ | ((apply Runs.pickTC);(rfl)) | ((apply Runs.pickCT);(rfl)) | ((apply Runs.pickT);(rfl)) | ((apply Runs.len);((first | assumption | (apply Sl.ext;(assumption);(repeat (first | (with_reducible assumption) | exact Ext.refl _ | (refine Ext.trans ?_ (by with_reducible assumption)))))));(decide +kernel)) | ((apply Runs.lenS);(rfl);(decide +kernel)) | ((apply Runs.idxT);(rfl);((first | assumption | (apply Sl.ext;(assumption);(repeat (first | (with_reducible assumption) | exact Ext.refl _ | (refine Ext.trans ?_ (by with_reducible assumption)))))));((first | assumption | omega | (simp only [List.length_map,List.length_cons,Int.toNat_natCast,Int.toNat_zero,Int.toNat_one];omega)));(decide +kernel)) | ((apply Runs.fieldLit);(rfl);(decide +kernel)) | ((apply Runs.fieldTn);((first | assumption | (apply Pts.ext;(assumption);(repeat (first | (with_reducible assumption) | exact Ext.refl _ | (refine Ext.trans ?_ (by with_reducible assumption)))))));(decide +kernel)) | ((apply Runs.loadP);((first | rfl | (simp only [List.getD_cons_succ,List.getD_cons_zero];with_reducible rfl)));((first | assumption | (apply Pts.ext;(assumption);(repeat (first | (with_reducible assumption) | exact Ext.refl _ | (refine Ext.trans ?_ (by with_reducible assumption)))))));(rfl);(decide +kernel)) | ((apply Runs.load);((first | assumption | (apply Pts.ext;(assumption);(repeat (first | (with_reducible assumption) | exact Ext.refl _ | (refine Ext.trans ?_ (by with_reducible assumption)))))));(decide +kernel)) | ((apply Runs.loadN);((first | assumption | (apply Pts.ext;(assumption);(repeat (first | (with_reducible assumption) | exact Ext.refl _ | (refine Ext.trans ?_ (by with_reducible assumption)))))));((first | (simp only [List.length_cons,List.length_nil,Nat.zero_add,Nat.reduceAdd];done) | (simp only [List.length_cons,List.length_nil,Nat.zero_add,Nat.reduceAdd];rfl)));(decide +kernel)) | ((apply Runs.extract);(rfl);(rfl)) | ((apply Runs.not);(rfl)) | ((apply Runs.lss);(rfl);(rfl)) | ((apply Runs.leq);(rfl);(rfl)) | ((apply Runs.gtr);(rfl);(rfl)) | ((apply Runs.geq);(rfl);(rfl)) | ((apply Runs.eql);(rfl);(rfl)) | ((apply Runs.neq);(rfl);(rfl)) | ((apply Runs.inc);(rfl);(rfl);((first | assumption | omega | (simp only [List.length_map,List.length_cons,Int.toNat_natCast,Int.toNat_zero,Int.toNat_one];omega)))) | ((apply Runs.add);(rfl);(rfl);((first | assumption | omega | (simp only [List.length_map,List.length_cons,Int.toNat_natCast,Int.toNat_zero,Int.toNat_one];omega)))) | ((apply Runs.sub);(rfl);(rfl);((first | assumption | omega | (simp only [List.length_map,List.length_cons,Int.toNat_natCast,Int.toNat_zero,Int.toNat_one];omega)))) | ((apply Runs.addU);(rfl);(rfl)) | ((apply Runs.subU);(rfl);(rfl)) | ((apply Runs.eqlS);(rfl);(rfl)) | ((apply Runs.neqS);(rfl);(rfl)) | ((apply Runs.lssS);(rfl);(rfl)) | ((apply Runs.geqS);(rfl);(rfl)) | ((apply Runs.gtrS);(rfl);(rfl)) | ((apply Runs.idxS);(rfl);(rfl);((first | assumption | omega | (simp only [List.length_map,List.length_cons,Int.toNat_natCast,Int.toNat_zero,Int.toNat_one];omega)));(decide +kernel)) | ((apply Runs.idxTI);(rfl);((first | assumption | (apply Sl.ext;(assumption);(repeat (first | (with_reducible assumption) | exact Ext.refl _ | (refine Ext.trans ?_ (by with_reducible assumption)))))));((first | assumption | omega | (simp only [List.length_map,List.length_cons,Int.toNat_natCast,Int.toNat_zero,Int.toNat_one];omega)));((first | assumption | omega | (simp only [List.length_map,List.length_cons,Int.toNat_natCast,Int.toNat_zero,Int.toNat_one];omega)));(decide +kernel)) | ((apply Runs.idxSI);(rfl);(rfl);((first | assumption | omega | (simp only [List.length_map,List.length_cons,Int.toNat_natCast,Int.toNat_zero,Int.toNat_one];omega)));((first | assumption | omega | (simp only [List.length_map,List.length_cons,Int.toNat_natCast,Int.toNat_zero,Int.toNat_one];omega)));(decide +kernel)) | ((apply Runs.convB);(rfl);(decide +kernel);(decide +kernel)) | ((apply Runs.cutSI);(rfl);(rfl);(rfl);((first | assumption | omega | (simp only [List.length_map,List.length_cons,Int.toNat_natCast,Int.toNat_zero,Int.toNat_one];omega)));((first | assumption | omega | (simp only [List.length_map,List.length_cons,Int.toNat_natCast,Int.toNat_zero,Int.toNat_one];omega)));((first | assumption | omega | (simp only [List.length_map,List.length_cons,Int.toNat_natCast,Int.toNat_zero,Int.toNat_one];omega)));(decide +kernel)) | ((apply Runs.dropSI);(rfl);(rfl);((first | assumption | omega | (simp only [List.length_map,List.length_cons,Int.toNat_natCast,Int.toNat_zero,Int.toNat_one];omega)));((first | assumption | omega | (simp only [List.length_map,List.length_cons,Int.toNat_natCast,Int.toNat_zero,Int.toNat_one];omega)));(decide +kernel)) | ((apply Runs.takeSI);(rfl);(rfl);((first | assumption | omega | (simp only [List.length_map,List.length_cons,Int.toNat_natCast,Int.toNat_zero,Int.toNat_one];omega)));((first | assumption | omega | (simp only [List.length_map,List.length_cons,Int.toNat_natCast,Int.toNat_zero,Int.toNat_one];omega)));(decide +kernel)) | ((apply Runs.cutTI);(rfl);(rfl);((first | assumption | (apply Sl.ext;(assumption);(repeat (first | (with_reducible assumption) | exact Ext.refl _ | (refine Ext.trans ?_ (by with_reducible assumption)))))));((first | assumption | omega | (simp only [List.length_map,List.length_cons,Int.toNat_natCast,Int.toNat_zero,Int.toNat_one];omega)));((first | assumption | omega | (simp only [List.length_map,List.length_cons,Int.toNat_natCast,Int.toNat_zero,Int.toNat_one];omega)));((first | assumption | omega | (simp only [List.length_map,List.length_cons,Int.toNat_natCast,Int.toNat_zero,Int.toNat_one];omega)));(decide +kernel)) | ((apply Runs.dropTI);(rfl);((first | assumption | (apply Sl.ext;(assumption);(repeat (first | (with_reducible assumption) | exact Ext.refl _ | (refine Ext.trans ?_ (by with_reducible assumption)))))));((first | assumption | omega | (simp only [List.length_map,List.length_cons,Int.toNat_natCast,Int.toNat_zero,Int.toNat_one];omega)));((first | assumption | omega | (simp only [List.length_map,List.length_cons,Int.toNat_natCast,Int.toNat_zero,Int.toNat_one];omega)));(decide +kernel)) | ((apply Runs.takeTI);(rfl);((first | assumption | (apply Sl.ext;(assumption);(repeat (first | (with_reducible assumption) | exact Ext.refl _ | (refine Ext.trans ?_ (by with_reducible assumption)))))));((first | assumption | omega | (simp only [List.length_map,List.length_cons,Int.toNat_natCast,Int.toNat_zero,Int.toNat_one];omega)));((first | assumption | omega | (simp only [List.length_map,List.length_cons,Int.toNat_natCast,Int.toNat_zero,Int.toNat_one];omega)));(decide +kernel)) | ((apply Runs.shr);(rfl);(rfl);(decide +kernel);(decide +kernel)) | ((apply Runs.shl8);(rfl);(rfl);((first | assumption | omega | (simp only [List.length_map,List.length_cons,Int.toNat_natCast,Int.toNat_zero,Int.toNat_one];omega)))) | ((apply Runs.or8);(rfl);(rfl);((first | assumption | omega | (simp only [List.length_map,List.length_cons,Int.toNat_natCast,Int.toNat_zero,Int.toNat_one];omega)));((first | assumption | omega | (simp only [List.length_map,List.length_cons,Int.toNat_natCast,Int.toNat_zero,Int.toNat_one];omega)))) | ((apply Runs.mul);(rfl);(rfl);((first | assumption | omega | (simp only [List.length_map,List.length_cons,Int.toNat_natCast,Int.toNat_zero,Int.toNat_one];omega)))) | exact Runs.func1 | exact Runs.func0 | exact Runs.func2 | exact Runs.func3 | ((apply Runs.nilS);((first | assumption | (apply Sl.ext;(assumption);(repeat (first | (with_reducible assumption) | exact Ext.refl _ | (refine Ext.trans ?_ (by with_reducible assumption)))))));(decide +kernel)) | ((apply Runs.nilP);(rfl)) | ((apply Runs.nilPts);((first | assumption | (apply Pts.ext;(assumption);(repeat (first | (with_reducible assumption) | exact Ext.refl _ | (refine Ext.trans ?_ (by with_reducible assumption)))))))) | ((apply Runs.minI);(rfl);(rfl)) | ((apply Runs.strOf (e:=5));((first | assumption | (apply Sl.ext;(assumption);(repeat (first | (with_reducible assumption) | exact Ext.refl _ | (refine Ext.trans ?_ (by with_reducible assumption)))))));(decide +kernel);(decide +kernel)) | ((apply Runs.addS);(rfl);(rfl);((first | omega | (simp only [List.length_append,List.length_cons,List.length_nil];omega)))) | ((apply Runs.convU);(rfl);(decide +kernel);(decide +kernel)) | ((apply Runs.convS);(rfl);(decide +kernel);(decide +kernel)))):Runs P o a w v:=h
structure St (P:Program) (ops:Array Oper) (Q:Exit→Act→World→Prop) (rest:List Oper) (o:Oper) (ts:List Value) (df:List Deferred) (w:World):Prop where
 out:wpList P ops Q (o :: rest) (Act.mk ts.toArray df) w
section
variable {P:Program} {ops:Array Oper} {Q:Exit→Act→World→Prop} {rest:List Oper} {o:Oper} {ts ts' t1 t0:List Value} {df:List Deferred} {w:World} {d e j:Nat} {op:Op} {ty:TypeId} {ps:String} {af:Array Edge} {b want:Bool} {v:Value} {p1 p0:Prop}
theorem aV (h:St P ops Q rest o ts df w):wpList P ops Q (o :: rest) (Act.mk ts.toArray df) w:=h.out
inductive SR (P:Program) (o:Oper) (ts:List Value) (df:List Deferred) (w:World) (d:Nat) (ts':List Value):Prop
 | mk {v:Value} (h1:Runs P o (Act.mk ts.toArray df) w v) (h2:ts.set d v=ts'):SR P o ts df w d ts'
structure S1 (P:Program) (ops:Array Oper) (Q:Exit→Act→World→Prop) (rest:List Oper) (d:Nat) (op:Op) (ty:TypeId) (ps:String) (af:Array Edge) (ts:List Value) (df:List Deferred) (w:World):Prop where
 out:St P ops Q rest (Oper.mk (some d) op ty ps af none) ts df w
structure G1 (P:Program) (ops:Array Oper) (Q:Exit→Act→World→Prop) (rest:List Oper) (dd:Option Nat) (op:Op) (ty:TypeId) (ps:String) (af:Array Edge) (j:Nat) (want:Bool) (ts:List Value) (df:List Deferred) (w:World):Prop where
 out:St P ops Q rest (Oper.mk dd op ty ps af (some (j,want))) ts df w
theorem gW (h:S1 P ops Q rest d op ty ps af ts df w):St P ops Q rest (Oper.mk (some d) op ty ps af none) ts df w:=h.out
theorem mA {dd:Option Nat} (h:G1 P ops Q rest dd op ty ps af j want ts df w):St P ops Q rest (Oper.mk dd op ty ps af (some (j,want))) ts df w:=h.out
theorem IY (h:wpList P ops Q rest (Act.mk ts'.toArray df) w) (hr:SR P (Oper.mk (some d) op ty ps af none) ts df w d ts':=by (apply SR.mk;(exact rn);(((simp only [List.set_cons_succ,List.set_cons_zero,List.getD_cons_succ,List.getD_cons_zero,List.length_map,if_true,Bool.false_eq_true,if_false,Int.toNat_natCast,Int.toNat_zero,Int.toNat_one,Nat.zero_mul,Bool.not_true,Bool.not_false,decide_true,decide_false]);(with_reducible exact rfl))))) :
 S1 P ops Q rest d op ty ps af ts df w:=by obtain ⟨hr,e⟩:=hr;exact ⟨⟨aG hr (e ▸ h)⟩⟩
theorem nQ {dd:Option Nat} (h:wpList P ops Q (Oper.mk dd op ty ps af none :: rest) (Act.mk ts.toArray df) w) (h1:(ops[j]?).bind (·.dst)=some e:=by rfl) (h2:ts.getD e undef=.bool b:=by rfl) (h3:b=want:=by (with_reducible rfl)) :
 G1 P ops Q rest dd op ty ps af j want ts df w:=⟨⟨sG h1 h2 (fun _=>h) (fun h'=>(by rw [h3] at h';cases want <;> cases h'))⟩⟩
theorem FL (h:wpList P ops Q rest (Act.mk ts'.toArray df) w) (h1:(ops[j]?).bind (·.dst)=some e:=by rfl) (h2:ts.getD e undef=.bool b:=by rfl) (h3:b = !want:=by (first | (with_reducible exact (rfl:true = !false)) | (with_reducible exact (rfl:false = !true)) | (exact Bool.not_false.symm) | (exact Bool.not_true.symm))) (e:ts.set d undef=ts':=by ((simp only [List.set_cons_succ,List.set_cons_zero,List.getD_cons_succ,List.getD_cons_zero,List.length_map,if_true,Bool.false_eq_true,if_false,Int.toNat_natCast,Int.toNat_zero,Int.toNat_one,Nat.zero_mul,Bool.not_true,Bool.not_false,decide_true,decide_false]);(with_reducible exact rfl))) :
 G1 P ops Q rest (some d) op ty ps af j want ts df w:=⟨⟨MH h1 h2 h3 (e ▸ h)⟩⟩
theorem FM (h:wpList P ops Q rest (Act.mk ts'.toArray df) w) (h1:(ops[j]?).bind (·.dst)=some e:=by rfl) (h2:ts.getD e undef=undef:=by rfl) (e:ts.set d undef=ts':=by ((simp only [List.set_cons_succ,List.set_cons_zero,List.getD_cons_succ,List.getD_cons_zero,List.length_map,if_true,Bool.false_eq_true,if_false,Int.toNat_natCast,Int.toNat_zero,Int.toNat_one,Nat.zero_mul,Bool.not_true,Bool.not_false,decide_true,decide_false]);(with_reducible exact rfl))) :
 G1 P ops Q rest (some d) op ty ps af j want ts df w:=⟨⟨YC ⟨h1,h2⟩ (e ▸ h)⟩⟩
theorem FN (h:wpList P ops Q rest (Act.mk ts.toArray df) w) (h1:(ops[j]?).bind (·.dst)=some e:=by rfl) (h2:ts.getD e undef=.bool b:=by rfl) (h3:b = !want:=by (first | (with_reducible exact (rfl:true = !false)) | (with_reducible exact (rfl:false = !true)) | (exact Bool.not_false.symm) | (exact Bool.not_true.symm))) :
 G1 P ops Q rest none op ty ps af j want ts df w:=⟨⟨OW (GV.mk h1 h2 ⟨fun h'=>(by rw [h3] at h';cases want <;> cases h'),fun _=>h⟩)⟩⟩
theorem DV (k1:p1→wpList P ops Q (Oper.mk (some d) op ty ps af none :: rest) (Act.mk t1.toArray df) w) (k0:p0→wpList P ops Q rest (Act.mk t0.toArray df) w)
 (h1:(ops[j]?).bind (·.dst)=some e:=by rfl) (h2:ts.getD e undef=.bool b:=by rfl) (hp1:(b=want)=p1:=by ((first | (simp only [decide_eq_true_eq,decide_eq_false_iff_not,Bool.not_true,Bool.not_false];(with_reducible exact rfl)) | (with_reducible exact rfl)))) (hp0:(b = !want)=p0:=by ((first | (simp only [decide_eq_true_eq,decide_eq_false_iff_not,Bool.not_true,Bool.not_false];(with_reducible exact rfl)) | (with_reducible exact rfl))))
 (e1:b=want→ts=t1:=by (intro hcW;(try simp only [hcW,Bool.not_true,Bool.not_false]);(try simp only [List.set_cons_succ,List.set_cons_zero,List.getD_cons_succ,List.getD_cons_zero,List.length_map,if_true,Bool.false_eq_true,if_false,Int.toNat_natCast,Int.toNat_zero,Int.toNat_one,Nat.zero_mul,Bool.not_true,Bool.not_false,decide_true,decide_false]);(with_reducible exact rfl))) (e0:b = !want→ts.set d undef=t0:=by (intro hcW;(try simp only [hcW,Bool.not_true,Bool.not_false]);(try simp only [List.set_cons_succ,List.set_cons_zero,List.getD_cons_succ,List.getD_cons_zero,List.length_map,if_true,Bool.false_eq_true,if_false,Int.toNat_natCast,Int.toNat_zero,Int.toNat_one,Nat.zero_mul,Bool.not_true,Bool.not_false,decide_true,decide_false]);(with_reducible exact rfl))):G1 P ops Q rest (some d) op ty ps af j want ts df w :=
 ⟨⟨YD ⟨h1,h2,fun h=>e1 h ▸ k1 (hp1 ▸ h),fun h=>e0 h ▸ k0 (hp0 ▸ h)⟩⟩⟩
theorem DW (k1:p1→wpList P ops Q (Oper.mk none op ty ps af none :: rest) (Act.mk t1.toArray df) w) (k0:p0→wpList P ops Q rest (Act.mk t0.toArray df) w)
 (h1:(ops[j]?).bind (·.dst)=some e:=by rfl) (h2:ts.getD e undef=.bool b:=by rfl) (hp1:(b=want)=p1:=by ((first | (simp only [decide_eq_true_eq,decide_eq_false_iff_not,Bool.not_true,Bool.not_false];(with_reducible exact rfl)) | (with_reducible exact rfl)))) (hp0:(b = !want)=p0:=by ((first | (simp only [decide_eq_true_eq,decide_eq_false_iff_not,Bool.not_true,Bool.not_false];(with_reducible exact rfl)) | (with_reducible exact rfl))))
 (e1:b=want→ts=t1:=by (intro hcW;(try simp only [hcW,Bool.not_true,Bool.not_false]);(try simp only [List.set_cons_succ,List.set_cons_zero,List.getD_cons_succ,List.getD_cons_zero,List.length_map,if_true,Bool.false_eq_true,if_false,Int.toNat_natCast,Int.toNat_zero,Int.toNat_one,Nat.zero_mul,Bool.not_true,Bool.not_false,decide_true,decide_false]);(with_reducible exact rfl))) (e0:b = !want→ts=t0:=by (intro hcW;(try simp only [hcW,Bool.not_true,Bool.not_false]);(try simp only [List.set_cons_succ,List.set_cons_zero,List.getD_cons_succ,List.getD_cons_zero,List.length_map,if_true,Bool.false_eq_true,if_false,Int.toNat_natCast,Int.toNat_zero,Int.toNat_one,Nat.zero_mul,Bool.not_true,Bool.not_false,decide_true,decide_false]);(with_reducible exact rfl))):G1 P ops Q rest none op ty ps af j want ts df w :=
 ⟨⟨OW ⟨h1,h2,fun h=>e1 h ▸ k1 (hp1 ▸ h),fun h=>e0 h ▸ k0 (hp0 ▸ h)⟩⟩⟩
structure Sq (P:Program) (ops:Array Oper) (C:World→Prop) (QQ:Act→Prop) (rest:List Oper) (o:Oper) (ts:List Value) (df:List Deferred):Prop where
 out:wpQuiet P ops C QQ (o :: rest) (Act.mk ts.toArray df)
structure Q1 (P:Program) (ops:Array Oper) (C:World→Prop) (QQ:Act→Prop) (rest:List Oper) (d:Nat) (op:Op) (ty:TypeId) (ps:String) (af:Array Edge) (ts:List Value) (df:List Deferred):Prop where
 out:Sq P ops C QQ rest (Oper.mk (some d) op ty ps af none) ts df
structure QG (P:Program) (ops:Array Oper) (C:World→Prop) (QQ:Act→Prop) (rest:List Oper) (d:Nat) (op:Op) (ty:TypeId) (ps:String) (af:Array Edge) (j:Nat) (want:Bool) (ts:List Value) (df:List Deferred):Prop where
 out:Sq P ops C QQ rest (Oper.mk (some d) op ty ps af (some (j,want))) ts df
inductive SRq (P:Program) (o:Oper) (ts:List Value) (df:List Deferred) (C:World→Prop) (d:Nat) (ts':List Value):Prop
 | mk {v:Value} (h1:∀ w,C w→Runs P o (Act.mk ts.toArray df) w v) (h2:ts.set d v=ts'):SRq P o ts df C d ts'
variable {C:World→Prop} {QQ:Act→Prop}
theorem Eg (h:Sq P ops C QQ rest o ts df):wpQuiet P ops C QQ (o :: rest) (Act.mk ts.toArray df):=h.out
theorem Eh (h:Q1 P ops C QQ rest d op ty ps af ts df):Sq P ops C QQ rest (Oper.mk (some d) op ty ps af none) ts df:=h.out
theorem Ei (h:QG P ops C QQ rest d op ty ps af j want ts df):Sq P ops C QQ rest (Oper.mk (some d) op ty ps af (some (j,want))) ts df:=h.out
theorem Ex (h:wpQuiet P ops C QQ rest (Act.mk ts'.toArray df)) (hr:SRq P (Oper.mk (some d) op ty ps af none) ts df C d ts':=by (apply SRq.mk;(intro _ _;exact rn);(((simp only [List.set_cons_succ,List.set_cons_zero,List.getD_cons_succ,List.getD_cons_zero,List.length_map,if_true,Bool.false_eq_true,if_false,Int.toNat_natCast,Int.toNat_zero,Int.toNat_one,Nat.zero_mul,Bool.not_true,Bool.not_false,decide_true,decide_false]);(with_reducible exact rfl))))):Q1 P ops C QQ rest d op ty ps af ts df:=by
 obtain ⟨hr,e⟩:=hr;exact ⟨⟨fL hr (e ▸ h)⟩⟩
theorem Ej (h:wpQuiet P ops C QQ (Oper.mk (some d) op ty ps af none :: rest) (Act.mk ts.toArray df)) (h1:(ops[j]?).bind (·.dst)=some e:=by rfl) (h2:ts.getD e undef=.bool b:=by rfl) (h3:b=want:=by (with_reducible rfl)):QG P ops C QQ rest d op ty ps af j want ts df:=by
 refine ⟨⟨?_⟩⟩
 have hw:=yJ (op:=op) (ty:=ty) (ps:=ps) (af:=af) (o:=some d) h1 h2 h3
 unfold wpQuiet at h ⊢
 rw [if_pos hw]
 rw [if_pos (by simp [Region.wanted])] at h
 exact h
theorem Ek (h:wpQuiet P ops C QQ rest (Act.mk ts'.toArray df)) (h1:(ops[j]?).bind (·.dst)=some e:=by rfl) (h2:ts.getD e undef=.bool b:=by rfl) (h3:b = !want:=by (first | (with_reducible exact (rfl:true = !false)) | (with_reducible exact (rfl:false = !true)) | (exact Bool.not_false.symm) | (exact Bool.not_true.symm))) (e:ts.set d undef=ts':=by ((simp only [List.set_cons_succ,List.set_cons_zero,List.getD_cons_succ,List.getD_cons_zero,List.length_map,if_true,Bool.false_eq_true,if_false,Int.toNat_natCast,Int.toNat_zero,Int.toNat_one,Nat.zero_mul,Bool.not_true,Bool.not_false,decide_true,decide_false]);(with_reducible exact rfl))):QG P ops C QQ rest d op ty ps af j want ts df :=
 ⟨⟨BT h1 h2 h3 (e ▸ h)⟩⟩
theorem El (h:wpQuiet P ops C QQ rest (Act.mk ts'.toArray df)) (h1:(ops[j]?).bind (·.dst)=some e:=by rfl) (h2:ts.getD e undef=undef:=by rfl) (e:ts.set d undef=ts':=by ((simp only [List.set_cons_succ,List.set_cons_zero,List.getD_cons_succ,List.getD_cons_zero,List.length_map,if_true,Bool.false_eq_true,if_false,Int.toNat_natCast,Int.toNat_zero,Int.toNat_one,Nat.zero_mul,Bool.not_true,Bool.not_false,decide_true,decide_false]);(with_reducible exact rfl))):QG P ops C QQ rest d op ty ps af j want ts df :=
 ⟨⟨FS (BS ⟨h1,h2⟩) (e ▸ h)⟩⟩
theorem Em {a:Act} (h:QQ a):wpQuiet P ops C QQ [] a:=KP h
end
section
variable {P:Program} {Q:Exit→Act→World→Prop} {S:World→Prop} {l:List Oper} {ts:List Value} {df:List Deferred} {d:Nat} {ty:TypeId} {ps:String} {af:Array Edge} {g:Option (Nat × Bool)} {w:World} {fuel:Nat} {listed:List Bool}
theorem tk (i:Nat) {fuel2:Nat} {op:Op} {v:Value} (h:wpAnyH P .any l.toArray Q S fuel (listed.set i true).toArray (Act.mk (ts.set d v).toArray df) w)
 (hi:l[i]? = some (Oper.mk (some d) op ty ps af g):=by rfl) (hfu:fuel2=fuel + 1:=by rfl) (hs:Region.noSelect l.toArray=true:=by decide +kernel) (hf:Region.free .any l.toArray listed.toArray i=true:=by decide +kernel) (hr:(Region.ready .any l.toArray listed.toArray).contains i=true:=by decide +kernel)
 (hw:Region.wanted (Oper.mk (some d) op ty ps af g) (yielded l.toArray ts.toArray)=true:=by rfl) (hS:S w:=by (repeat (first | (with_reducible assumption) | exact Ext.refl _ | (refine Ext.trans ?_ (by with_reducible assumption)))))
 (hy:∀ w',S w'→Runs P (Oper.mk (some d) op ty ps af g) (Act.mk ts.toArray df) w' v:=by (intro _ _;exact rn)) (hQ:∀ c a w,Q (.panic c) (a.put (some d) v) w→Q (.panic c) a w:=by exact fun _ _ _ h=>h):wpAnyH P .any l.toArray Q S fuel2 listed.toArray (Act.mk ts.toArray df) w :=
 dJ hi hfu hs hf hr hw hS hy hQ h
theorem tsk (i:Nat) {fuel2:Nat} {op:Op} (h:wpAnyH P .any l.toArray Q S fuel (listed.set i true).toArray (Act.mk (ts.set d undef).toArray df) w)
 (hi:l[i]? = some (Oper.mk (some d) op ty ps af g):=by rfl) (hfu:fuel2=fuel + 1:=by rfl) (hs:Region.noSelect l.toArray=true:=by decide +kernel) (hf:Region.free .any l.toArray listed.toArray i=true:=by decide +kernel) (hr:(Region.ready .any l.toArray listed.toArray).contains i=true:=by decide +kernel)
 (hQ:∀ c a w,Q (.panic c) (a.put (some d) undef) w→Q (.panic c) a w:=by exact fun _ _ _ h=>h) (hw:Region.wanted (Oper.mk (some d) op ty ps af g) (yielded l.toArray ts.toArray)=false:=by rfl) (hS:S w:=by (repeat (first | (with_reducible assumption) | exact Ext.refl _ | (refine Ext.trans ?_ (by with_reducible assumption))))):wpAnyH P .any l.toArray Q S fuel2 listed.toArray (Act.mk ts.toArray df) w :=
 OY hi hfu hs hf hr hQ hw hS h
end
structure Hid (G:Prop):Prop where
 out:G
section
variable {P:Program} {ops:Array Oper} {Q:Exit→Act→World→Prop} {rest:List Oper} {o:Oper} {ts:List Value} {df:List Deferred} {w:World} {C:World→Prop} {QQ:Act→Prop} {l:List Oper} {a:Act}
theorem fD {G':Prop} (h:G') (e:Hid G'→St P ops Q rest o ts df w:=by (intro hk;(first | (refine gW ?_;refine IY ?_) | (refine mA ?_;first | refine nQ ?_ | refine FL ?_ | refine FN ?_ | refine FM ?_));(repeat ((with_reducible refine aV ?_);(first | (refine gW ?_;refine IY ?_) | (refine mA ?_;first | refine nQ ?_ | refine FL ?_ | refine FN ?_ | refine FM ?_))));exact hk.out)):St P ops Q rest o ts df w:=e ⟨h⟩
structure Qh (P:Program) (ops:Array Oper) (C:World→Prop) (QQ:Act→Prop) (l:List Oper) (a:Act):Prop where
 out:wpQuiet P ops C QQ l a
theorem DX (h:Qh P ops C QQ l a):wpQuiet P ops C QQ l a:=h.out
theorem TM {G':Prop} (h:G') (e:Hid G'→wpQuiet P ops C QQ l a:=by (intro hk;(repeat (first | ((with_reducible refine Eg ?_);(first | (refine Eh ?_;refine Ex ?_) | (refine Ei ?_;first | refine Ej ?_ | refine Ek ?_ | refine El ?_))) | (with_reducible refine Em ?_)));exact hk.out)):Qh P ops C QQ l a:=⟨e ⟨h⟩⟩
theorem bO {G1 G0 p1 p0:Prop} (h1:p1→G1) (h0:p0→G0) (e:(p1→G1)→(p0→G0)→St P ops Q rest o ts df w:=by (intro hk1 hk0;refine mA ?_;first | exact DV hk1 hk0 | exact DW hk1 hk0)):St P ops Q rest o ts df w:=e h1 h0
structure NoOp (G G':Prop):Prop where
 out:G=G'
theorem PB:NoOp (wpList P ops Q (o :: rest) (Act.mk ts.toArray df) w) (wpList P ops Q (o :: rest) (Act.mk ts.toArray df) w):=⟨rfl⟩
end
inductive TkI (P:Program) (Q:Exit→Act→World→Prop) (k:Nat) (F:World→Prop) (l:List Oper) (ts:List Value) (df:List Deferred) (listed:List Bool) (fuel2 i fuel:Nat) (ts':List Value):Prop
 | mk {d op ty ps af g v} (hi:l[i]? = some (Oper.mk (some d) op ty ps af g)) (hfu:fuel2=fuel + 1) (hik:decide (i≠k)=true) (hk:tJ .any l.toArray l.length k i=true) (hs:Region.noSelect l.toArray=true) (hf:Region.free .any l.toArray listed.toArray i=true) (hr:(Region.ready .any l.toArray listed.toArray).contains i=true)
   (hw:Region.wanted (Oper.mk (some d) op ty ps af g) (yielded l.toArray ts.toArray)=true) (hy:∀ w',F w'→Runs P (Oper.mk (some d) op ty ps af g) (Act.mk ts.toArray df) w' v) (hQ:∀ c a w,Q (.panic c) (a.put (some d) v) w→Q (.panic c) a w) (e:ts.set d v=ts'):TkI P Q k F l ts df listed fuel2 i fuel ts'
theorem yO (i:Nat) {P:Program} {Q:Exit→Act→World→Prop} {k:Nat} {F:World→Prop} {l:List Oper} {ts ts':List Value} {df:List Deferred} {listed:List Bool} {fuel2 fuel:Nat} {w:World} (h:vY P Q k F l fuel (listed.set i true) (Act.mk ts'.toArray df) w)
 (e:TkI P Q k F l ts df listed fuel2 i fuel ts':=by refine TkI.mk (by rfl) (by rfl) (by decide +kernel) (by decide +kernel) (by decide +kernel) (by decide +kernel) (by decide +kernel) (by rfl) (by (intro _ _;exact rn)) (fun _ _ _ h=>h) (by ((simp only [List.set_cons_succ,List.set_cons_zero,List.getD_cons_succ,List.getD_cons_zero,List.length_map,if_true,Bool.false_eq_true,if_false,Int.toNat_natCast,Int.toNat_zero,Int.toNat_one,Nat.zero_mul,Bool.not_true,Bool.not_false,decide_true,decide_false]);(with_reducible exact rfl)))):vY P Q k F l fuel2 listed (Act.mk ts.toArray df) w:=by
 obtain ⟨hi,hfu,hik,hk,hs,hf,hr,hw,hy,hQ,e⟩:=e
 exact bQ hi hfu hik hk hs hf hr hw hy hQ (e ▸ h)
inductive TkP (P:Program) (Q:Exit→Act→World→Prop) (k:Nat) (F:World→Prop) (l:List Oper) (ts:List Value) (df:List Deferred) (listed:List Bool) (fuel2 i fuel:Nat) (ts':List Value):Prop
 | mk {d op ty ps af g v} (hi:l[i]? = some (Oper.mk (some d) op ty ps af g)) (hfu:fuel2=fuel + 1) (hik:decide (i≠k)=true) (hs:Region.noSelect l.toArray=true) (hf:Region.free .any l.toArray listed.toArray i=true) (hr:(Region.ready .any l.toArray listed.toArray).contains i=true)
   (hw:Region.wanted (Oper.mk (some d) op ty ps af g) (yielded l.toArray ts.toArray)=true) (hy:∀ w',Runs P (Oper.mk (some d) op ty ps af g) (Act.mk ts.toArray df) w' v) (hQ:∀ c a w,Q (.panic c) (a.put (some d) v) w→Q (.panic c) a w) (e:ts.set d v=ts'):TkP P Q k F l ts df listed fuel2 i fuel ts'
theorem YF (i:Nat) {P:Program} {Q:Exit→Act→World→Prop} {k:Nat} {F:World→Prop} {l:List Oper} {ts ts':List Value} {df:List Deferred} {listed:List Bool} {fuel2 fuel:Nat} {w:World} (h:vY P Q k F l fuel (listed.set i true) (Act.mk ts'.toArray df) w)
 (e:TkP P Q k F l ts df listed fuel2 i fuel ts':=by refine TkP.mk (by rfl) (by rfl) (by decide +kernel) (by decide +kernel) (by decide +kernel) (by decide +kernel) (by rfl) (by (intro _;exact rn)) (fun _ _ _ h=>h) (by ((simp only [List.set_cons_succ,List.set_cons_zero,List.getD_cons_succ,List.getD_cons_zero,List.length_map,if_true,Bool.false_eq_true,if_false,Int.toNat_natCast,Int.toNat_zero,Int.toNat_one,Nat.zero_mul,Bool.not_true,Bool.not_false,decide_true,decide_false]);(with_reducible exact rfl)))):vY P Q k F l fuel2 listed (Act.mk ts.toArray df) w:=by
 obtain ⟨hi,hfu,hik,hs,hf,hr,hw,hy,hQ,e⟩:=e
 exact jB hi hfu hik hs hf hr hw hy hQ (e ▸ h)
theorem bH {G G':Prop} (h:G') (e:NoOp G G':=by ((fail_if_success (with_reducible exact PB));exact ⟨rfl⟩)):G:=e.out.mpr h
section
variable {P:Program} {w:World} {ts:List Value} {df:List Deferred} {d:Option Nat} {ty:TypeId} {ps:String} {af:Array Edge} {g:Option (Nat × Bool)}
theorem Runs.fieldLitK {s:TypeId} {m n b o:Nat} (k:Nat) (h:ts.getD m undef=.pointer (some ⟨b,o,none⟩)) (hf:mR P s n (n + k)=true) :
 Runs P (Oper.mk d (.fieldAddr s (.tmp m) n) ty ps af g) (Act.mk ts.toArray df) w (aT (ts.getD m undef) (n + k)):=by
 obtain ⟨fs,f,i,ht,hf,ho,hie,hz⟩:=lK hf
 have e1:(Act.mk ts.toArray df).eval (.tmp m)=.pointer (some ⟨b,o,none⟩):=by rw [fW];exact h
 constructor
 rw [h]
 simp [execOp,e1,Instr.fieldAt,Instr.sureAddr,run_underlying ht,hf,fieldPlace,sizeOf,typeInfo,hie,hz,aT,ho]
theorem Runs.isNilN {t u:TypeId} {x y:Operand} {a:Act} (hx:a.eval x=.pointer none) (hy:a.eval y=.pointer none) (ht:P.underlying t=some (.pointer (P.pointee t))) :
 Runs P (Oper.mk d (.binOp .eql t x y u) ty ps af g) a w (.bool true):=by
 constructor
 simp [execOp,hx,hy,eqGuard,run_eql_pointer_nil w t none ht]
theorem Runs.isNilS {t u:TypeId} {x y:Operand} {a:Act} {p:Addr} (hx:a.eval x=.pointer (some p)) (hy:a.eval y=.pointer none) (ht:P.underlying t=some (.pointer (P.pointee t))) :
 Runs P (Oper.mk d (.binOp .eql t x y u) ty ps af g) a w (.bool false):=by
 constructor
 simp [execOp,hx,hy,eqGuard,run_eql_pointer_nil w t (some p) ht]
theorem Runs.notNilN {t u:TypeId} {x y:Operand} {a:Act} (hx:a.eval x=.pointer none) (hy:a.eval y=.pointer none) (ht:P.underlying t=some (.pointer (P.pointee t))) :
 Runs P (Oper.mk d (.binOp .neq t x y u) ty ps af g) a w (.bool false):=by
 constructor
 simp [execOp,hx,hy,eqGuard,run_neq_pointer_nil w t none ht]
theorem Runs.notNilS {t u:TypeId} {x y:Operand} {a:Act} {p:Addr} (hx:a.eval x=.pointer (some p)) (hy:a.eval y=.pointer none) (ht:P.underlying t=some (.pointer (P.pointee t))) :
 Runs P (Oper.mk d (.binOp .neq t x y u) ty ps af g) a w (.bool true):=by
 constructor
 simp [execOp,hx,hy,eqGuard,run_neq_pointer_nil w t (some p) ht]
end
theorem BU {P:Program} {o:Oper} {a:Act} {w:World} {v:Value} (h:Runs P o a w v:=by (first | exact rn | ((apply Runs.fieldLitK (k:=1));(rfl);(decide +kernel)) | ((apply Runs.fieldLitK (k:=6));(rfl);(decide +kernel)) | ((apply Runs.fieldLitK (k:=4));(rfl);(decide +kernel)) | ((apply Runs.fieldLitK (k:=3));(rfl);(decide +kernel)) | ((apply Runs.isNilN);(rfl);(rfl);(kernel_rfl)) | ((apply Runs.isNilS);(rfl);(rfl);(kernel_rfl)) | ((apply Runs.notNilN);(rfl);(rfl);(kernel_rfl)) | ((apply Runs.notNilS);(rfl);(rfl);(kernel_rfl)))):Runs P o a w v:=h
section
variable {P:Program} {ops:Array Oper} {Q:Exit→Act→World→Prop} {rest:List Oper} {o:Oper} {ts ts' t1 t0:List Value} {df:List Deferred} {w:World} {d e j:Nat} {op:Op} {ty:TypeId} {ps:String} {af:Array Edge} {b want:Bool} {v:Value} {p1 p0:Prop} {C:World→Prop} {QQ:Act→Prop} {l:List Oper} {a:Act}
theorem eW (h:wpList P ops Q rest (Act.mk ts'.toArray df) w) (hr:SR P (Oper.mk (some d) op ty ps af none) ts df w d ts':=by (apply SR.mk;(exact BU);(((simp only [List.set_cons_succ,List.set_cons_zero,List.getD_cons_succ,List.getD_cons_zero,List.length_map,if_true,Bool.false_eq_true,if_false,Int.toNat_natCast,Int.toNat_zero,Int.toNat_one,Nat.zero_mul,Bool.not_true,Bool.not_false,decide_true,decide_false]);(with_reducible exact rfl))))) :
 S1 P ops Q rest d op ty ps af ts df w:=by obtain ⟨hr,e⟩:=hr;exact ⟨⟨aG hr (e ▸ h)⟩⟩
theorem Do (h:wpQuiet P ops C QQ rest (Act.mk ts'.toArray df)) (hr:SRq P (Oper.mk (some d) op ty ps af none) ts df C d ts':=by (apply SRq.mk;(intro _ _;exact BU);(((simp only [List.set_cons_succ,List.set_cons_zero,List.getD_cons_succ,List.getD_cons_zero,List.length_map,if_true,Bool.false_eq_true,if_false,Int.toNat_natCast,Int.toNat_zero,Int.toNat_one,Nat.zero_mul,Bool.not_true,Bool.not_false,decide_true,decide_false]);(with_reducible exact rfl))))):Q1 P ops C QQ rest d op ty ps af ts df:=by
 obtain ⟨hr,e⟩:=hr;exact ⟨⟨fL hr (e ▸ h)⟩⟩
theorem dR {G':Prop} (h:G') (e:Hid G'→St P ops Q rest o ts df w:=by (intro hk;(first | (refine gW ?_;refine eW ?_) | (refine mA ?_;first | refine nQ ?_ | refine FL ?_ | refine FN ?_ | refine FM ?_));(repeat ((with_reducible refine aV ?_);(first | (refine gW ?_;refine eW ?_) | (refine mA ?_;first | refine nQ ?_ | refine FL ?_ | refine FN ?_ | refine FM ?_))));exact hk.out)):St P ops Q rest o ts df w:=e ⟨h⟩
theorem TR {G':Prop} (h:G') (e:Hid G'→wpQuiet P ops C QQ l a:=by (intro hk;(repeat (first | ((with_reducible refine Eg ?_);(first | (refine Eh ?_;refine Do ?_) | (refine Ei ?_;first | refine Ej ?_ | refine Ek ?_ | refine El ?_))) | (with_reducible refine Em ?_)));exact hk.out)):Qh P ops C QQ l a:=⟨e ⟨h⟩⟩
end
inductive TkI1 (P:Program) (Q:Exit→Act→World→Prop) (k:Nat) (F:World→Prop) (l:List Oper) (ts:List Value) (df:List Deferred) (listed:List Bool) (fuel2 i fuel:Nat) (ts':List Value):Prop
 | mk {d op ty ps af g v} (hi:l[i]? = some (Oper.mk (some d) op ty ps af g)) (hfu:fuel2=fuel + 1) (hik:decide (i≠k)=true) (hk:tJ .any l.toArray l.length k i=true) (hs:Region.noSelect l.toArray=true) (hf:Region.free .any l.toArray listed.toArray i=true) (hr:(Region.ready .any l.toArray listed.toArray).contains i=true)
   (hw:Region.wanted (Oper.mk (some d) op ty ps af g) (yielded l.toArray ts.toArray)=true) (hy:∀ w',F w'→Runs P (Oper.mk (some d) op ty ps af g) (Act.mk ts.toArray df) w' v) (hQ:∀ c a w,Q (.panic c) (a.put (some d) v) w→Q (.panic c) a w) (e:ts.set d v=ts'):TkI1 P Q k F l ts df listed fuel2 i fuel ts'
theorem bE (i:Nat) {P:Program} {Q:Exit→Act→World→Prop} {k:Nat} {F:World→Prop} {l:List Oper} {ts ts':List Value} {df:List Deferred} {listed:List Bool} {fuel2 fuel:Nat} {w:World} (h:vY P Q k F l fuel (listed.set i true) (Act.mk ts'.toArray df) w)
 (e:TkI1 P Q k F l ts df listed fuel2 i fuel ts':=by refine TkI1.mk (by rfl) (by rfl) (by decide +kernel) (by decide +kernel) (by decide +kernel) (by decide +kernel) (by decide +kernel) (by rfl) (by (intro _ _;exact BU)) (fun _ _ _ h=>h) (by ((simp only [List.set_cons_succ,List.set_cons_zero,List.getD_cons_succ,List.getD_cons_zero,List.length_map,if_true,Bool.false_eq_true,if_false,Int.toNat_natCast,Int.toNat_zero,Int.toNat_one,Nat.zero_mul,Bool.not_true,Bool.not_false,decide_true,decide_false]);(with_reducible exact rfl)))):vY P Q k F l fuel2 listed (Act.mk ts.toArray df) w:=by
 obtain ⟨hi,hfu,hik,hk,hs,hf,hr,hw,hy,hQ,e⟩:=e
 exact bQ hi hfu hik hk hs hf hr hw hy hQ (e ▸ h)
inductive TkP1 (P:Program) (Q:Exit→Act→World→Prop) (k:Nat) (F:World→Prop) (l:List Oper) (ts:List Value) (df:List Deferred) (listed:List Bool) (fuel2 i fuel:Nat) (ts':List Value):Prop
 | mk {d op ty ps af g v} (hi:l[i]? = some (Oper.mk (some d) op ty ps af g)) (hfu:fuel2=fuel + 1) (hik:decide (i≠k)=true) (hs:Region.noSelect l.toArray=true) (hf:Region.free .any l.toArray listed.toArray i=true) (hr:(Region.ready .any l.toArray listed.toArray).contains i=true)
   (hw:Region.wanted (Oper.mk (some d) op ty ps af g) (yielded l.toArray ts.toArray)=true) (hy:∀ w',Runs P (Oper.mk (some d) op ty ps af g) (Act.mk ts.toArray df) w' v) (hQ:∀ c a w,Q (.panic c) (a.put (some d) v) w→Q (.panic c) a w) (e:ts.set d v=ts'):TkP1 P Q k F l ts df listed fuel2 i fuel ts'
theorem dC (i:Nat) {P:Program} {Q:Exit→Act→World→Prop} {k:Nat} {F:World→Prop} {l:List Oper} {ts ts':List Value} {df:List Deferred} {listed:List Bool} {fuel2 fuel:Nat} {w:World} (h:vY P Q k F l fuel (listed.set i true) (Act.mk ts'.toArray df) w)
 (e:TkP1 P Q k F l ts df listed fuel2 i fuel ts':=by refine TkP1.mk (by rfl) (by rfl) (by decide +kernel) (by decide +kernel) (by decide +kernel) (by decide +kernel) (by rfl) (by (intro _;exact BU)) (fun _ _ _ h=>h) (by ((simp only [List.set_cons_succ,List.set_cons_zero,List.getD_cons_succ,List.getD_cons_zero,List.length_map,if_true,Bool.false_eq_true,if_false,Int.toNat_natCast,Int.toNat_zero,Int.toNat_one,Nat.zero_mul,Bool.not_true,Bool.not_false,decide_true,decide_false]);(with_reducible exact rfl)))):vY P Q k F l fuel2 listed (Act.mk ts.toArray df) w:=by
 obtain ⟨hi,hfu,hik,hs,hf,hr,hw,hy,hQ,e⟩:=e
 exact jB hi hfu hik hs hf hr hw hy hQ (e ▸ h)
section
variable {P:Program} {Q:Exit→Act→World→Prop} {S:World→Prop} {l:List Oper} {ts:List Value} {df:List Deferred} {d:Nat} {ty:TypeId} {ps:String} {af:Array Edge} {g:Option (Nat × Bool)} {w:World} {fuel:Nat} {listed:List Bool}
theorem dL (i:Nat) {fuel2:Nat} {op:Op} {v:Value} (h:wpAnyH P .any l.toArray Q S fuel (listed.set i true).toArray (Act.mk (ts.set d v).toArray df) w)
 (hi:l[i]? = some (Oper.mk (some d) op ty ps af g):=by rfl) (hfu:fuel2=fuel + 1:=by rfl) (hs:Region.noSelect l.toArray=true:=by decide +kernel) (hf:Region.free .any l.toArray listed.toArray i=true:=by decide +kernel) (hr:(Region.ready .any l.toArray listed.toArray).contains i=true:=by decide +kernel)
 (hw:Region.wanted (Oper.mk (some d) op ty ps af g) (yielded l.toArray ts.toArray)=true:=by rfl) (hS:S w:=by (repeat (first | (with_reducible assumption) | exact Ext.refl _ | (refine Ext.trans ?_ (by with_reducible assumption)))))
 (hy:∀ w',S w'→Runs P (Oper.mk (some d) op ty ps af g) (Act.mk ts.toArray df) w' v:=by (intro _ _;exact BU)) (hQ:∀ c a w,Q (.panic c) (a.put (some d) v) w→Q (.panic c) a w:=by exact fun _ _ _ h=>h):wpAnyH P .any l.toArray Q S fuel2 listed.toArray (Act.mk ts.toArray df) w :=
 dJ hi hfu hs hf hr hw hS hy hQ h
end
def gY (b:Bool):Nat:=if b=true then 0 else 1
section
variable {P:Program} {Q:Exit→Act→World→Prop} {S:World→Prop} {l:List Oper} {ts:List Value} {df:List Deferred} {w:World} {fuel:Nat} {listed:List Bool}
theorem tL {ops:Array Oper} {Inv:Nat→List Bool→Act→World→Prop}
 (hs:∀ m L a w,Inv (m + 1) L a w→0 < (Region.ready .any ops L.toArray).length∧∀ i ∈ Region.ready .any ops L.toArray,wpOp P ops Q i (fun a' w'=>S w'∧Inv m (L.set i true) a' w') a w)
 (he:∀ L a w,Inv 0 L a w→wpAnyH P .any ops Q S fuel L.toArray a w):∀ m L a w,Inv m L a w→wpAnyH P .any ops Q S (fuel + m) L.toArray a w:=by
 intro m
 induction m with
 | zero=>exact he
 | succ m ih =>
  intro L a w h
  obtain ⟨h1,h2⟩:=hs m L a w h
  refine ⟨fun e=>by rw [e] at h1;simp at h1,fun i hi=>wpOp_mono (fun a' w' hh=>⟨hh.1,?_⟩) (h2 i hi)⟩
  have:=ih _ _ _ hh.2
  simpa using this
theorem cG {b:Bool} (h:gY b=0):b=true:=by
 cases b with
 | true=>rfl
 | false=>simp [gY] at h
theorem Az (i1 i2 i3:Nat) (d1 d2 d3:Nat) (c q1 q2 q3:Bool→Bool→Bool→Bool) (F:Bool→Bool→Bool→Value→Value→Value→World→Prop)
 {fuel2:Nat} {o1 o2 o3:Oper}
 (hF:F false false false (List.getD ts d1 undef) (List.getD ts d2 undef) (List.getD ts d3 undef) w)
 (h1:∀ b1 b2 b3:Bool,∀ v1 v2 v3:Value,∀ w1:World,(q1 false b2 b3 && c false b2 b3)=true→F false b2 b3 v1 v2 v3 w1→wpList P l.toArray (oS Q fun a w2=>S w2∧∃ u,a=Act.mk (List.set (List.set (List.set ts d1 u) d2 v2) d3 v3).toArray df∧F true b2 b3 u v2 v3 w2) [o1] (Act.mk (List.set (List.set (List.set ts d1 v1) d2 v2) d3 v3).toArray df) w1)
 (h2:∀ b1 b2 b3:Bool,∀ v1 v2 v3:Value,∀ w1:World,(q2 b1 false b3 && c b1 false b3)=true→F b1 false b3 v1 v2 v3 w1→wpList P l.toArray (oS Q fun a w2=>S w2∧∃ u,a=Act.mk (List.set (List.set (List.set ts d1 v1) d2 u) d3 v3).toArray df∧F b1 true b3 v1 u v3 w2) [o2] (Act.mk (List.set (List.set (List.set ts d1 v1) d2 v2) d3 v3).toArray df) w1)
 (h3:∀ b1 b2 b3:Bool,∀ v1 v2 v3:Value,∀ w1:World,(q3 b1 b2 false && c b1 b2 false)=true→F b1 b2 false v1 v2 v3 w1→wpList P l.toArray (oS Q fun a w2=>S w2∧∃ u,a=Act.mk (List.set (List.set (List.set ts d1 v1) d2 v2) d3 u).toArray df∧F b1 b2 true v1 v2 u w2) [o3] (Act.mk (List.set (List.set (List.set ts d1 v1) d2 v2) d3 v3).toArray df) w1)
 (hG:∀ v1 v2 v3:Value,∀ w1:World,F true true true v1 v2 v3 w1→wpAnyH P .any l.toArray Q S fuel (List.set (List.set (List.set listed i1 true) i2 true) i3 true).toArray (Act.mk (List.set (List.set (List.set ts d1 v1) d2 v2) d3 v3).toArray df) w1)
 (hi:l[i1]? = some o1∧l[i2]? = some o2∧l[i3]? = some o3:=by refine ⟨rfl,rfl,rfl⟩)
 (hr:(∀ b1 b2 b3:Bool,c b1 b2 b3=true→(b1 && b2 && b3)=false→(decide (0 < (Region.ready .any l.toArray (List.set (List.set (List.set listed i1 b1) i2 b2) i3 b3).toArray).length) && (Region.ready .any l.toArray (List.set (List.set (List.set listed i1 b1) i2 b2) i3 b3).toArray).all fun i=>(i == i1 && (!b1 && ((q1 false b2 b3 && c false b2 b3) && c true b2 b3))) || (i == i2 && (!b2 && ((q2 b1 false b3 && c b1 false b3) && c b1 true b3))) || (i == i3 && (!b3 && ((q3 b1 b2 false && c b1 b2 false) && c b1 b2 true))))=true):=by decide +kernel) (hc0:c false false false=true:=by rfl)
 (hf:fuel2=fuel + 3:=by rfl) (hn:i1≠i2∧i1≠i3∧i2≠i3:=by decide) (hl0:(List.set (List.set (List.set listed i1 false) i2 false) i3 false)=listed:=by rfl) (ht0:(List.set (List.set (List.set ts d1 (List.getD ts d1 undef)) d2 (List.getD ts d2 undef)) d3 (List.getD ts d3 undef))=ts:=by rfl)
 : wpAnyH P .any l.toArray Q S fuel2 listed.toArray (Act.mk ts.toArray df) w:=by
 obtain ⟨e1,e2,e3⟩:=hi
 obtain ⟨n1_2,n1_3,n2_3⟩:=hn
 rw [hf]
 refine tL (Inv:=fun m L a w=>∃ b1 b2 b3:Bool,∃ v1 v2 v3:Value,c b1 b2 b3=true∧m=gY b1 + gY b2 + gY b3∧L=(List.set (List.set (List.set listed i1 b1) i2 b2) i3 b3)∧a=Act.mk (List.set (List.set (List.set ts d1 v1) d2 v2) d3 v3).toArray df∧F b1 b2 b3 v1 v2 v3 w) ?_ ?_ 3 listed _ w ⟨false,false,false,(List.getD ts d1 undef),(List.getD ts d2 undef),(List.getD ts d3 undef),hc0,by rfl,hl0.symm,by rw [ht0],hF⟩
 ·rintro m L a w ⟨b1,b2,b3,v1,v2,v3,hcc,hm,rfl,rfl,hf⟩
  have hb:(b1 && b2 && b3)=false:=by
   cases hq:(b1 && b2 && b3) with
   | false=>rfl
   | true =>
    exfalso
    simp only [Bool.and_eq_true] at hq
    obtain ⟨⟨p1,p2⟩,p3⟩:=hq
    subst p1 p2 p3
    simp [gY] at hm
  have hr:=hr b1 b2 b3 hcc hb
  simp only [Bool.and_eq_true,decide_eq_true_eq,List.all_eq_true,Bool.or_eq_true,beq_iff_eq,Bool.not_eq_true'] at hr
  refine ⟨hr.1,fun i hi => ?_⟩
  rcases hr.2 i hi with ((⟨rfl,rfl,c1,cc1⟩ | ⟨rfl,rfl,c2,cc2⟩) | ⟨rfl,rfl,c3,cc3⟩)
  ·refine wpOp_mono ?_ (dI (by simpa using e1) (h1 true b2 b3 v1 v2 v3 w (Bool.and_eq_true_iff.2 c1) hf))
   rintro a w2 ⟨hS,u,rfl,hf2⟩
   refine ⟨hS,true,b2,b3,u,v2,v3,cc1,?_,?_,rfl,hf2⟩
   ·simp only [gY,Bool.false_eq_true,if_true,if_false] at hm ⊢;omega
   ·rw [List.set_comm _ _ n1_3.symm,List.set_comm _ _ n1_2.symm,List.set_set]
  ·refine wpOp_mono ?_ (dI (by simpa using e2) (h2 b1 true b3 v1 v2 v3 w (Bool.and_eq_true_iff.2 c2) hf))
   rintro a w2 ⟨hS,u,rfl,hf2⟩
   refine ⟨hS,b1,true,b3,v1,u,v3,cc2,?_,?_,rfl,hf2⟩
   ·simp only [gY,Bool.false_eq_true,if_true,if_false] at hm ⊢;omega
   ·rw [List.set_comm _ _ n2_3.symm,List.set_set]
  ·refine wpOp_mono ?_ (dI (by simpa using e3) (h3 b1 b2 true v1 v2 v3 w (Bool.and_eq_true_iff.2 c3) hf))
   rintro a w2 ⟨hS,u,rfl,hf2⟩
   refine ⟨hS,b1,b2,true,v1,v2,u,cc3,?_,?_,rfl,hf2⟩
   ·simp only [gY,Bool.false_eq_true,if_true,if_false] at hm ⊢;omega
   ·rw [List.set_set]
 ·rintro L a w ⟨b1,b2,b3,v1,v2,v3,hcc,hm,rfl,rfl,hf⟩
  have p1:b1=true:=cG (by omega)
  have p2:b2=true:=cG (by omega)
  have p3:b3=true:=cG (by omega)
  subst p1 p2 p3
  exact hG v1 v2 v3 w hf
theorem TS (i1 i2 i3 i4:Nat) (d1 d2 d3:Nat) (c q1 q2 q3 q4:Bool→Bool→Bool→Bool→Bool) (F:Bool→Bool→Bool→Bool→Value→Value→Value→World→Prop)
 {fuel2:Nat} {o1 o2 o3 o4:Oper}
 (hF:F false false false false (List.getD ts d1 undef) (List.getD ts d2 undef) (List.getD ts d3 undef) w)
 (h1:∀ b1 b2 b3 b4:Bool,∀ v1 v2 v3:Value,∀ w1:World,(q1 false b2 b3 b4 && c false b2 b3 b4)=true→F false b2 b3 b4 v1 v2 v3 w1→wpList P l.toArray (oS Q fun a w2=>S w2∧∃ u,a=Act.mk (List.set (List.set (List.set ts d1 u) d2 v2) d3 v3).toArray df∧F true b2 b3 b4 u v2 v3 w2) [o1] (Act.mk (List.set (List.set (List.set ts d1 v1) d2 v2) d3 v3).toArray df) w1)
 (h2:∀ b1 b2 b3 b4:Bool,∀ v1 v2 v3:Value,∀ w1:World,(q2 b1 false b3 b4 && c b1 false b3 b4)=true→F b1 false b3 b4 v1 v2 v3 w1→wpList P l.toArray (oS Q fun a w2=>S w2∧∃ u,a=Act.mk (List.set (List.set (List.set ts d1 v1) d2 u) d3 v3).toArray df∧F b1 true b3 b4 v1 u v3 w2) [o2] (Act.mk (List.set (List.set (List.set ts d1 v1) d2 v2) d3 v3).toArray df) w1)
 (h3:∀ b1 b2 b3 b4:Bool,∀ v1 v2 v3:Value,∀ w1:World,(q3 b1 b2 false b4 && c b1 b2 false b4)=true→F b1 b2 false b4 v1 v2 v3 w1→wpList P l.toArray (oS Q fun a w2=>S w2∧∃ u,a=Act.mk (List.set (List.set (List.set ts d1 v1) d2 v2) d3 u).toArray df∧F b1 b2 true b4 v1 v2 u w2) [o3] (Act.mk (List.set (List.set (List.set ts d1 v1) d2 v2) d3 v3).toArray df) w1)
 (h4:∀ b1 b2 b3 b4:Bool,∀ v1 v2 v3:Value,∀ w1:World,(q4 b1 b2 b3 false && c b1 b2 b3 false)=true→F b1 b2 b3 false v1 v2 v3 w1→wpList P l.toArray (oS Q fun a w2=>S w2∧a=Act.mk (List.set (List.set (List.set ts d1 v1) d2 v2) d3 v3).toArray df∧F b1 b2 b3 true v1 v2 v3 w2) [o4] (Act.mk (List.set (List.set (List.set ts d1 v1) d2 v2) d3 v3).toArray df) w1)
 (hG:∀ v1 v2 v3:Value,∀ w1:World,F true true true true v1 v2 v3 w1→wpAnyH P .any l.toArray Q S fuel (List.set (List.set (List.set (List.set listed i1 true) i2 true) i3 true) i4 true).toArray (Act.mk (List.set (List.set (List.set ts d1 v1) d2 v2) d3 v3).toArray df) w1)
 (hi:l[i1]? = some o1∧l[i2]? = some o2∧l[i3]? = some o3∧l[i4]? = some o4:=by refine ⟨rfl,rfl,rfl,rfl⟩)
 (hr:(∀ b1 b2 b3 b4:Bool,c b1 b2 b3 b4=true→(b1 && b2 && b3 && b4)=false→(decide (0 < (Region.ready .any l.toArray (List.set (List.set (List.set (List.set listed i1 b1) i2 b2) i3 b3) i4 b4).toArray).length) && (Region.ready .any l.toArray (List.set (List.set (List.set (List.set listed i1 b1) i2 b2) i3 b3) i4 b4).toArray).all fun i=>(i == i1 && (!b1 && ((q1 false b2 b3 b4 && c false b2 b3 b4) && c true b2 b3 b4))) || (i == i2 && (!b2 && ((q2 b1 false b3 b4 && c b1 false b3 b4) && c b1 true b3 b4))) || (i == i3 && (!b3 && ((q3 b1 b2 false b4 && c b1 b2 false b4) && c b1 b2 true b4))) || (i == i4 && (!b4 && ((q4 b1 b2 b3 false && c b1 b2 b3 false) && c b1 b2 b3 true))))=true):=by decide +kernel) (hc0:c false false false false=true:=by rfl)
 (hf:fuel2=fuel + 4:=by rfl) (hn:i1≠i2∧i1≠i3∧i1≠i4∧i2≠i3∧i2≠i4∧i3≠i4:=by decide) (hl0:(List.set (List.set (List.set (List.set listed i1 false) i2 false) i3 false) i4 false)=listed:=by rfl) (ht0:(List.set (List.set (List.set ts d1 (List.getD ts d1 undef)) d2 (List.getD ts d2 undef)) d3 (List.getD ts d3 undef))=ts:=by rfl)
 : wpAnyH P .any l.toArray Q S fuel2 listed.toArray (Act.mk ts.toArray df) w:=by
 obtain ⟨e1,e2,e3,e4⟩:=hi
 obtain ⟨n1_2,n1_3,n1_4,n2_3,n2_4,n3_4⟩:=hn
 rw [hf]
 refine tL (Inv:=fun m L a w=>∃ b1 b2 b3 b4:Bool,∃ v1 v2 v3:Value,c b1 b2 b3 b4=true∧m=gY b1 + gY b2 + gY b3 + gY b4∧L=(List.set (List.set (List.set (List.set listed i1 b1) i2 b2) i3 b3) i4 b4)∧a=Act.mk (List.set (List.set (List.set ts d1 v1) d2 v2) d3 v3).toArray df∧F b1 b2 b3 b4 v1 v2 v3 w) ?_ ?_ 4 listed _ w ⟨false,false,false,false,(List.getD ts d1 undef),(List.getD ts d2 undef),(List.getD ts d3 undef),hc0,by rfl,hl0.symm,by rw [ht0],hF⟩
 ·rintro m L a w ⟨b1,b2,b3,b4,v1,v2,v3,hcc,hm,rfl,rfl,hf⟩
  have hb:(b1 && b2 && b3 && b4)=false:=by
   cases hq:(b1 && b2 && b3 && b4) with
   | false=>rfl
   | true =>
    exfalso
    simp only [Bool.and_eq_true] at hq
    obtain ⟨⟨⟨p1,p2⟩,p3⟩,p4⟩:=hq
    subst p1 p2 p3 p4
    simp [gY] at hm
  have hr:=hr b1 b2 b3 b4 hcc hb
  simp only [Bool.and_eq_true,decide_eq_true_eq,List.all_eq_true,Bool.or_eq_true,beq_iff_eq,Bool.not_eq_true'] at hr
  refine ⟨hr.1,fun i hi => ?_⟩
  rcases hr.2 i hi with (((⟨rfl,rfl,c1,cc1⟩ | ⟨rfl,rfl,c2,cc2⟩) | ⟨rfl,rfl,c3,cc3⟩) | ⟨rfl,rfl,c4,cc4⟩)
  ·refine wpOp_mono ?_ (dI (by simpa using e1) (h1 true b2 b3 b4 v1 v2 v3 w (Bool.and_eq_true_iff.2 c1) hf))
   rintro a w2 ⟨hS,u,rfl,hf2⟩
   refine ⟨hS,true,b2,b3,b4,u,v2,v3,cc1,?_,?_,rfl,hf2⟩
   ·simp only [gY,Bool.false_eq_true,if_true,if_false] at hm ⊢;omega
   ·rw [List.set_comm _ _ n1_4.symm,List.set_comm _ _ n1_3.symm,List.set_comm _ _ n1_2.symm,List.set_set]
  ·refine wpOp_mono ?_ (dI (by simpa using e2) (h2 b1 true b3 b4 v1 v2 v3 w (Bool.and_eq_true_iff.2 c2) hf))
   rintro a w2 ⟨hS,u,rfl,hf2⟩
   refine ⟨hS,b1,true,b3,b4,v1,u,v3,cc2,?_,?_,rfl,hf2⟩
   ·simp only [gY,Bool.false_eq_true,if_true,if_false] at hm ⊢;omega
   ·rw [List.set_comm _ _ n2_4.symm,List.set_comm _ _ n2_3.symm,List.set_set]
  ·refine wpOp_mono ?_ (dI (by simpa using e3) (h3 b1 b2 true b4 v1 v2 v3 w (Bool.and_eq_true_iff.2 c3) hf))
   rintro a w2 ⟨hS,u,rfl,hf2⟩
   refine ⟨hS,b1,b2,true,b4,v1,v2,u,cc3,?_,?_,rfl,hf2⟩
   ·simp only [gY,Bool.false_eq_true,if_true,if_false] at hm ⊢;omega
   ·rw [List.set_comm _ _ n3_4.symm,List.set_set]
  ·refine wpOp_mono ?_ (dI (by simpa using e4) (h4 b1 b2 b3 true v1 v2 v3 w (Bool.and_eq_true_iff.2 c4) hf))
   rintro a w2 ⟨hS,rfl,hf2⟩
   refine ⟨hS,b1,b2,b3,true,v1,v2,v3,cc4,?_,?_,rfl,hf2⟩
   ·simp only [gY,Bool.false_eq_true,if_true,if_false] at hm ⊢;omega
   ·rw [List.set_set]
 ·rintro L a w ⟨b1,b2,b3,b4,v1,v2,v3,hcc,hm,rfl,rfl,hf⟩
  have p1:b1=true:=cG (by omega)
  have p2:b2=true:=cG (by omega)
  have p3:b3=true:=cG (by omega)
  have p4:b4=true:=cG (by omega)
  subst p1 p2 p3 p4
  exact hG v1 v2 v3 w hf
theorem TT (i1 i2 i3 i4 i5:Nat) (d1 d2 d3 d4:Nat) (c q1 q2 q3 q4 q5:Bool→Bool→Bool→Bool→Bool→Bool) (F:Bool→Bool→Bool→Bool→Bool→Value→Value→Value→Value→World→Prop)
 {fuel2:Nat} {o1 o2 o3 o4 o5:Oper}
 (hF:F false false false false false (List.getD ts d1 undef) (List.getD ts d2 undef) (List.getD ts d3 undef) (List.getD ts d4 undef) w)
 (h1:∀ b1 b2 b3 b4 b5:Bool,∀ v1 v2 v3 v4:Value,∀ w1:World,(q1 false b2 b3 b4 b5 && c false b2 b3 b4 b5)=true→F false b2 b3 b4 b5 v1 v2 v3 v4 w1→wpList P l.toArray (oS Q fun a w2=>S w2∧∃ u,a=Act.mk (List.set (List.set (List.set (List.set ts d1 u) d2 v2) d3 v3) d4 v4).toArray df∧F true b2 b3 b4 b5 u v2 v3 v4 w2) [o1] (Act.mk (List.set (List.set (List.set (List.set ts d1 v1) d2 v2) d3 v3) d4 v4).toArray df) w1)
 (h2:∀ b1 b2 b3 b4 b5:Bool,∀ v1 v2 v3 v4:Value,∀ w1:World,(q2 b1 false b3 b4 b5 && c b1 false b3 b4 b5)=true→F b1 false b3 b4 b5 v1 v2 v3 v4 w1→wpList P l.toArray (oS Q fun a w2=>S w2∧∃ u,a=Act.mk (List.set (List.set (List.set (List.set ts d1 v1) d2 u) d3 v3) d4 v4).toArray df∧F b1 true b3 b4 b5 v1 u v3 v4 w2) [o2] (Act.mk (List.set (List.set (List.set (List.set ts d1 v1) d2 v2) d3 v3) d4 v4).toArray df) w1)
 (h3:∀ b1 b2 b3 b4 b5:Bool,∀ v1 v2 v3 v4:Value,∀ w1:World,(q3 b1 b2 false b4 b5 && c b1 b2 false b4 b5)=true→F b1 b2 false b4 b5 v1 v2 v3 v4 w1→wpList P l.toArray (oS Q fun a w2=>S w2∧∃ u,a=Act.mk (List.set (List.set (List.set (List.set ts d1 v1) d2 v2) d3 u) d4 v4).toArray df∧F b1 b2 true b4 b5 v1 v2 u v4 w2) [o3] (Act.mk (List.set (List.set (List.set (List.set ts d1 v1) d2 v2) d3 v3) d4 v4).toArray df) w1)
 (h4:∀ b1 b2 b3 b4 b5:Bool,∀ v1 v2 v3 v4:Value,∀ w1:World,(q4 b1 b2 b3 false b5 && c b1 b2 b3 false b5)=true→F b1 b2 b3 false b5 v1 v2 v3 v4 w1→wpList P l.toArray (oS Q fun a w2=>S w2∧∃ u,a=Act.mk (List.set (List.set (List.set (List.set ts d1 v1) d2 v2) d3 v3) d4 u).toArray df∧F b1 b2 b3 true b5 v1 v2 v3 u w2) [o4] (Act.mk (List.set (List.set (List.set (List.set ts d1 v1) d2 v2) d3 v3) d4 v4).toArray df) w1)
 (h5:∀ b1 b2 b3 b4 b5:Bool,∀ v1 v2 v3 v4:Value,∀ w1:World,(q5 b1 b2 b3 b4 false && c b1 b2 b3 b4 false)=true→F b1 b2 b3 b4 false v1 v2 v3 v4 w1→wpList P l.toArray (oS Q fun a w2=>S w2∧a=Act.mk (List.set (List.set (List.set (List.set ts d1 v1) d2 v2) d3 v3) d4 v4).toArray df∧F b1 b2 b3 b4 true v1 v2 v3 v4 w2) [o5] (Act.mk (List.set (List.set (List.set (List.set ts d1 v1) d2 v2) d3 v3) d4 v4).toArray df) w1)
 (hG:∀ v1 v2 v3 v4:Value,∀ w1:World,F true true true true true v1 v2 v3 v4 w1→wpAnyH P .any l.toArray Q S fuel (List.set (List.set (List.set (List.set (List.set listed i1 true) i2 true) i3 true) i4 true) i5 true).toArray (Act.mk (List.set (List.set (List.set (List.set ts d1 v1) d2 v2) d3 v3) d4 v4).toArray df) w1)
 (hi:l[i1]? = some o1∧l[i2]? = some o2∧l[i3]? = some o3∧l[i4]? = some o4∧l[i5]? = some o5:=by refine ⟨rfl,rfl,rfl,rfl,rfl⟩)
 (hr:(∀ b1 b2 b3 b4 b5:Bool,c b1 b2 b3 b4 b5=true→(b1 && b2 && b3 && b4 && b5)=false→(decide (0 < (Region.ready .any l.toArray (List.set (List.set (List.set (List.set (List.set listed i1 b1) i2 b2) i3 b3) i4 b4) i5 b5).toArray).length) && (Region.ready .any l.toArray (List.set (List.set (List.set (List.set (List.set listed i1 b1) i2 b2) i3 b3) i4 b4) i5 b5).toArray).all fun i=>(i == i1 && (!b1 && ((q1 false b2 b3 b4 b5 && c false b2 b3 b4 b5) && c true b2 b3 b4 b5))) || (i == i2 && (!b2 && ((q2 b1 false b3 b4 b5 && c b1 false b3 b4 b5) && c b1 true b3 b4 b5))) || (i == i3 && (!b3 && ((q3 b1 b2 false b4 b5 && c b1 b2 false b4 b5) && c b1 b2 true b4 b5))) || (i == i4 && (!b4 && ((q4 b1 b2 b3 false b5 && c b1 b2 b3 false b5) && c b1 b2 b3 true b5))) || (i == i5 && (!b5 && ((q5 b1 b2 b3 b4 false && c b1 b2 b3 b4 false) && c b1 b2 b3 b4 true))))=true):=by decide +kernel) (hc0:c false false false false false=true:=by rfl)
 (hf:fuel2=fuel + 5:=by rfl) (hn:i1≠i2∧i1≠i3∧i1≠i4∧i1≠i5∧i2≠i3∧i2≠i4∧i2≠i5∧i3≠i4∧i3≠i5∧i4≠i5:=by decide) (hl0:(List.set (List.set (List.set (List.set (List.set listed i1 false) i2 false) i3 false) i4 false) i5 false)=listed:=by rfl) (ht0:(List.set (List.set (List.set (List.set ts d1 (List.getD ts d1 undef)) d2 (List.getD ts d2 undef)) d3 (List.getD ts d3 undef)) d4 (List.getD ts d4 undef))=ts:=by rfl)
 : wpAnyH P .any l.toArray Q S fuel2 listed.toArray (Act.mk ts.toArray df) w:=by
 obtain ⟨e1,e2,e3,e4,e5⟩:=hi
 obtain ⟨n1_2,n1_3,n1_4,n1_5,n2_3,n2_4,n2_5,n3_4,n3_5,n4_5⟩:=hn
 rw [hf]
 refine tL (Inv:=fun m L a w=>∃ b1 b2 b3 b4 b5:Bool,∃ v1 v2 v3 v4:Value,c b1 b2 b3 b4 b5=true∧m=gY b1 + gY b2 + gY b3 + gY b4 + gY b5∧L=(List.set (List.set (List.set (List.set (List.set listed i1 b1) i2 b2) i3 b3) i4 b4) i5 b5)∧a=Act.mk (List.set (List.set (List.set (List.set ts d1 v1) d2 v2) d3 v3) d4 v4).toArray df∧F b1 b2 b3 b4 b5 v1 v2 v3 v4 w) ?_ ?_ 5 listed _ w ⟨false,false,false,false,false,(List.getD ts d1 undef),(List.getD ts d2 undef),(List.getD ts d3 undef),(List.getD ts d4 undef),hc0,by rfl,hl0.symm,by rw [ht0],hF⟩
 ·rintro m L a w ⟨b1,b2,b3,b4,b5,v1,v2,v3,v4,hcc,hm,rfl,rfl,hf⟩
  have hb:(b1 && b2 && b3 && b4 && b5)=false:=by
   cases hq:(b1 && b2 && b3 && b4 && b5) with
   | false=>rfl
   | true =>
    exfalso
    simp only [Bool.and_eq_true] at hq
    obtain ⟨⟨⟨⟨p1,p2⟩,p3⟩,p4⟩,p5⟩:=hq
    subst p1 p2 p3 p4 p5
    simp [gY] at hm
  have hr:=hr b1 b2 b3 b4 b5 hcc hb
  simp only [Bool.and_eq_true,decide_eq_true_eq,List.all_eq_true,Bool.or_eq_true,beq_iff_eq,Bool.not_eq_true'] at hr
  refine ⟨hr.1,fun i hi => ?_⟩
  rcases hr.2 i hi with ((((⟨rfl,rfl,c1,cc1⟩ | ⟨rfl,rfl,c2,cc2⟩) | ⟨rfl,rfl,c3,cc3⟩) | ⟨rfl,rfl,c4,cc4⟩) | ⟨rfl,rfl,c5,cc5⟩)
  ·refine wpOp_mono ?_ (dI (by simpa using e1) (h1 true b2 b3 b4 b5 v1 v2 v3 v4 w (Bool.and_eq_true_iff.2 c1) hf))
   rintro a w2 ⟨hS,u,rfl,hf2⟩
   refine ⟨hS,true,b2,b3,b4,b5,u,v2,v3,v4,cc1,?_,?_,rfl,hf2⟩
   ·simp only [gY,Bool.false_eq_true,if_true,if_false] at hm ⊢;omega
   ·rw [List.set_comm _ _ n1_5.symm,List.set_comm _ _ n1_4.symm,List.set_comm _ _ n1_3.symm,List.set_comm _ _ n1_2.symm,List.set_set]
  ·refine wpOp_mono ?_ (dI (by simpa using e2) (h2 b1 true b3 b4 b5 v1 v2 v3 v4 w (Bool.and_eq_true_iff.2 c2) hf))
   rintro a w2 ⟨hS,u,rfl,hf2⟩
   refine ⟨hS,b1,true,b3,b4,b5,v1,u,v3,v4,cc2,?_,?_,rfl,hf2⟩
   ·simp only [gY,Bool.false_eq_true,if_true,if_false] at hm ⊢;omega
   ·rw [List.set_comm _ _ n2_5.symm,List.set_comm _ _ n2_4.symm,List.set_comm _ _ n2_3.symm,List.set_set]
  ·refine wpOp_mono ?_ (dI (by simpa using e3) (h3 b1 b2 true b4 b5 v1 v2 v3 v4 w (Bool.and_eq_true_iff.2 c3) hf))
   rintro a w2 ⟨hS,u,rfl,hf2⟩
   refine ⟨hS,b1,b2,true,b4,b5,v1,v2,u,v4,cc3,?_,?_,rfl,hf2⟩
   ·simp only [gY,Bool.false_eq_true,if_true,if_false] at hm ⊢;omega
   ·rw [List.set_comm _ _ n3_5.symm,List.set_comm _ _ n3_4.symm,List.set_set]
  ·refine wpOp_mono ?_ (dI (by simpa using e4) (h4 b1 b2 b3 true b5 v1 v2 v3 v4 w (Bool.and_eq_true_iff.2 c4) hf))
   rintro a w2 ⟨hS,u,rfl,hf2⟩
   refine ⟨hS,b1,b2,b3,true,b5,v1,v2,v3,u,cc4,?_,?_,rfl,hf2⟩
   ·simp only [gY,Bool.false_eq_true,if_true,if_false] at hm ⊢;omega
   ·rw [List.set_comm _ _ n4_5.symm,List.set_set]
  ·refine wpOp_mono ?_ (dI (by simpa using e5) (h5 b1 b2 b3 b4 true v1 v2 v3 v4 w (Bool.and_eq_true_iff.2 c5) hf))
   rintro a w2 ⟨hS,rfl,hf2⟩
   refine ⟨hS,b1,b2,b3,b4,true,v1,v2,v3,v4,cc5,?_,?_,rfl,hf2⟩
   ·simp only [gY,Bool.false_eq_true,if_true,if_false] at hm ⊢;omega
   ·rw [List.set_set]
 ·rintro L a w ⟨b1,b2,b3,b4,b5,v1,v2,v3,v4,hcc,hm,rfl,rfl,hf⟩
  have p1:b1=true:=cG (by omega)
  have p2:b2=true:=cG (by omega)
  have p3:b3=true:=cG (by omega)
  have p4:b4=true:=cG (by omega)
  have p5:b5=true:=cG (by omega)
  subst p1 p2 p3 p4 p5
  exact hG v1 v2 v3 v4 w hf
theorem TU (i1 i2 i3 i4 i5 i6:Nat) (d1 d2 d3 d4 d5:Nat) (c q1 q2 q3 q4 q5 q6:Bool→Bool→Bool→Bool→Bool→Bool→Bool) (F:Bool→Bool→Bool→Bool→Bool→Bool→Value→Value→Value→Value→Value→World→Prop)
 {fuel2:Nat} {o1 o2 o3 o4 o5 o6:Oper}
 (hF:F false false false false false false (List.getD ts d1 undef) (List.getD ts d2 undef) (List.getD ts d3 undef) (List.getD ts d4 undef) (List.getD ts d5 undef) w)
 (h1:∀ b1 b2 b3 b4 b5 b6:Bool,∀ v1 v2 v3 v4 v5:Value,∀ w1:World,(q1 false b2 b3 b4 b5 b6 && c false b2 b3 b4 b5 b6)=true→F false b2 b3 b4 b5 b6 v1 v2 v3 v4 v5 w1→wpList P l.toArray (oS Q fun a w2=>S w2∧∃ u,a=Act.mk (List.set (List.set (List.set (List.set (List.set ts d1 u) d2 v2) d3 v3) d4 v4) d5 v5).toArray df∧F true b2 b3 b4 b5 b6 u v2 v3 v4 v5 w2) [o1] (Act.mk (List.set (List.set (List.set (List.set (List.set ts d1 v1) d2 v2) d3 v3) d4 v4) d5 v5).toArray df) w1)
 (h2:∀ b1 b2 b3 b4 b5 b6:Bool,∀ v1 v2 v3 v4 v5:Value,∀ w1:World,(q2 b1 false b3 b4 b5 b6 && c b1 false b3 b4 b5 b6)=true→F b1 false b3 b4 b5 b6 v1 v2 v3 v4 v5 w1→wpList P l.toArray (oS Q fun a w2=>S w2∧∃ u,a=Act.mk (List.set (List.set (List.set (List.set (List.set ts d1 v1) d2 u) d3 v3) d4 v4) d5 v5).toArray df∧F b1 true b3 b4 b5 b6 v1 u v3 v4 v5 w2) [o2] (Act.mk (List.set (List.set (List.set (List.set (List.set ts d1 v1) d2 v2) d3 v3) d4 v4) d5 v5).toArray df) w1)
 (h3:∀ b1 b2 b3 b4 b5 b6:Bool,∀ v1 v2 v3 v4 v5:Value,∀ w1:World,(q3 b1 b2 false b4 b5 b6 && c b1 b2 false b4 b5 b6)=true→F b1 b2 false b4 b5 b6 v1 v2 v3 v4 v5 w1→wpList P l.toArray (oS Q fun a w2=>S w2∧∃ u,a=Act.mk (List.set (List.set (List.set (List.set (List.set ts d1 v1) d2 v2) d3 u) d4 v4) d5 v5).toArray df∧F b1 b2 true b4 b5 b6 v1 v2 u v4 v5 w2) [o3] (Act.mk (List.set (List.set (List.set (List.set (List.set ts d1 v1) d2 v2) d3 v3) d4 v4) d5 v5).toArray df) w1)
 (h4:∀ b1 b2 b3 b4 b5 b6:Bool,∀ v1 v2 v3 v4 v5:Value,∀ w1:World,(q4 b1 b2 b3 false b5 b6 && c b1 b2 b3 false b5 b6)=true→F b1 b2 b3 false b5 b6 v1 v2 v3 v4 v5 w1→wpList P l.toArray (oS Q fun a w2=>S w2∧∃ u,a=Act.mk (List.set (List.set (List.set (List.set (List.set ts d1 v1) d2 v2) d3 v3) d4 u) d5 v5).toArray df∧F b1 b2 b3 true b5 b6 v1 v2 v3 u v5 w2) [o4] (Act.mk (List.set (List.set (List.set (List.set (List.set ts d1 v1) d2 v2) d3 v3) d4 v4) d5 v5).toArray df) w1)
 (h5:∀ b1 b2 b3 b4 b5 b6:Bool,∀ v1 v2 v3 v4 v5:Value,∀ w1:World,(q5 b1 b2 b3 b4 false b6 && c b1 b2 b3 b4 false b6)=true→F b1 b2 b3 b4 false b6 v1 v2 v3 v4 v5 w1→wpList P l.toArray (oS Q fun a w2=>S w2∧∃ u,a=Act.mk (List.set (List.set (List.set (List.set (List.set ts d1 v1) d2 v2) d3 v3) d4 v4) d5 u).toArray df∧F b1 b2 b3 b4 true b6 v1 v2 v3 v4 u w2) [o5] (Act.mk (List.set (List.set (List.set (List.set (List.set ts d1 v1) d2 v2) d3 v3) d4 v4) d5 v5).toArray df) w1)
 (h6:∀ b1 b2 b3 b4 b5 b6:Bool,∀ v1 v2 v3 v4 v5:Value,∀ w1:World,(q6 b1 b2 b3 b4 b5 false && c b1 b2 b3 b4 b5 false)=true→F b1 b2 b3 b4 b5 false v1 v2 v3 v4 v5 w1→wpList P l.toArray (oS Q fun a w2=>S w2∧a=Act.mk (List.set (List.set (List.set (List.set (List.set ts d1 v1) d2 v2) d3 v3) d4 v4) d5 v5).toArray df∧F b1 b2 b3 b4 b5 true v1 v2 v3 v4 v5 w2) [o6] (Act.mk (List.set (List.set (List.set (List.set (List.set ts d1 v1) d2 v2) d3 v3) d4 v4) d5 v5).toArray df) w1)
 (hG:∀ v1 v2 v3 v4 v5:Value,∀ w1:World,F true true true true true true v1 v2 v3 v4 v5 w1→wpAnyH P .any l.toArray Q S fuel (List.set (List.set (List.set (List.set (List.set (List.set listed i1 true) i2 true) i3 true) i4 true) i5 true) i6 true).toArray (Act.mk (List.set (List.set (List.set (List.set (List.set ts d1 v1) d2 v2) d3 v3) d4 v4) d5 v5).toArray df) w1)
 (hi:l[i1]? = some o1∧l[i2]? = some o2∧l[i3]? = some o3∧l[i4]? = some o4∧l[i5]? = some o5∧l[i6]? = some o6:=by refine ⟨rfl,rfl,rfl,rfl,rfl,rfl⟩)
 (hr:(∀ b1 b2 b3 b4 b5 b6:Bool,c b1 b2 b3 b4 b5 b6=true→(b1 && b2 && b3 && b4 && b5 && b6)=false→(decide (0 < (Region.ready .any l.toArray (List.set (List.set (List.set (List.set (List.set (List.set listed i1 b1) i2 b2) i3 b3) i4 b4) i5 b5) i6 b6).toArray).length) && (Region.ready .any l.toArray (List.set (List.set (List.set (List.set (List.set (List.set listed i1 b1) i2 b2) i3 b3) i4 b4) i5 b5) i6 b6).toArray).all fun i=>(i == i1 && (!b1 && ((q1 false b2 b3 b4 b5 b6 && c false b2 b3 b4 b5 b6) && c true b2 b3 b4 b5 b6))) || (i == i2 && (!b2 && ((q2 b1 false b3 b4 b5 b6 && c b1 false b3 b4 b5 b6) && c b1 true b3 b4 b5 b6))) || (i == i3 && (!b3 && ((q3 b1 b2 false b4 b5 b6 && c b1 b2 false b4 b5 b6) && c b1 b2 true b4 b5 b6))) || (i == i4 && (!b4 && ((q4 b1 b2 b3 false b5 b6 && c b1 b2 b3 false b5 b6) && c b1 b2 b3 true b5 b6))) || (i == i5 && (!b5 && ((q5 b1 b2 b3 b4 false b6 && c b1 b2 b3 b4 false b6) && c b1 b2 b3 b4 true b6))) || (i == i6 && (!b6 && ((q6 b1 b2 b3 b4 b5 false && c b1 b2 b3 b4 b5 false) && c b1 b2 b3 b4 b5 true))))=true):=by decide +kernel) (hc0:c false false false false false false=true:=by rfl)
 (hf:fuel2=fuel + 6:=by rfl) (hn:i1≠i2∧i1≠i3∧i1≠i4∧i1≠i5∧i1≠i6∧i2≠i3∧i2≠i4∧i2≠i5∧i2≠i6∧i3≠i4∧i3≠i5∧i3≠i6∧i4≠i5∧i4≠i6∧i5≠i6:=by decide) (hl0:(List.set (List.set (List.set (List.set (List.set (List.set listed i1 false) i2 false) i3 false) i4 false) i5 false) i6 false)=listed:=by rfl) (ht0:(List.set (List.set (List.set (List.set (List.set ts d1 (List.getD ts d1 undef)) d2 (List.getD ts d2 undef)) d3 (List.getD ts d3 undef)) d4 (List.getD ts d4 undef)) d5 (List.getD ts d5 undef))=ts:=by rfl)
 : wpAnyH P .any l.toArray Q S fuel2 listed.toArray (Act.mk ts.toArray df) w:=by
 obtain ⟨e1,e2,e3,e4,e5,e6⟩:=hi
 obtain ⟨n1_2,n1_3,n1_4,n1_5,n1_6,n2_3,n2_4,n2_5,n2_6,n3_4,n3_5,n3_6,n4_5,n4_6,n5_6⟩:=hn
 rw [hf]
 refine tL (Inv:=fun m L a w=>∃ b1 b2 b3 b4 b5 b6:Bool,∃ v1 v2 v3 v4 v5:Value,c b1 b2 b3 b4 b5 b6=true∧m=gY b1 + gY b2 + gY b3 + gY b4 + gY b5 + gY b6∧L=(List.set (List.set (List.set (List.set (List.set (List.set listed i1 b1) i2 b2) i3 b3) i4 b4) i5 b5) i6 b6)∧a=Act.mk (List.set (List.set (List.set (List.set (List.set ts d1 v1) d2 v2) d3 v3) d4 v4) d5 v5).toArray df∧F b1 b2 b3 b4 b5 b6 v1 v2 v3 v4 v5 w) ?_ ?_ 6 listed _ w ⟨false,false,false,false,false,false,(List.getD ts d1 undef),(List.getD ts d2 undef),(List.getD ts d3 undef),(List.getD ts d4 undef),(List.getD ts d5 undef),hc0,by rfl,hl0.symm,by rw [ht0],hF⟩
 ·rintro m L a w ⟨b1,b2,b3,b4,b5,b6,v1,v2,v3,v4,v5,hcc,hm,rfl,rfl,hf⟩
  have hb:(b1 && b2 && b3 && b4 && b5 && b6)=false:=by
   cases hq:(b1 && b2 && b3 && b4 && b5 && b6) with
   | false=>rfl
   | true =>
    exfalso
    simp only [Bool.and_eq_true] at hq
    obtain ⟨⟨⟨⟨⟨p1,p2⟩,p3⟩,p4⟩,p5⟩,p6⟩:=hq
    subst p1 p2 p3 p4 p5 p6
    simp [gY] at hm
  have hr:=hr b1 b2 b3 b4 b5 b6 hcc hb
  simp only [Bool.and_eq_true,decide_eq_true_eq,List.all_eq_true,Bool.or_eq_true,beq_iff_eq,Bool.not_eq_true'] at hr
  refine ⟨hr.1,fun i hi => ?_⟩
  rcases hr.2 i hi with (((((⟨rfl,rfl,c1,cc1⟩ | ⟨rfl,rfl,c2,cc2⟩) | ⟨rfl,rfl,c3,cc3⟩) | ⟨rfl,rfl,c4,cc4⟩) | ⟨rfl,rfl,c5,cc5⟩) | ⟨rfl,rfl,c6,cc6⟩)
  ·refine wpOp_mono ?_ (dI (by simpa using e1) (h1 true b2 b3 b4 b5 b6 v1 v2 v3 v4 v5 w (Bool.and_eq_true_iff.2 c1) hf))
   rintro a w2 ⟨hS,u,rfl,hf2⟩
   refine ⟨hS,true,b2,b3,b4,b5,b6,u,v2,v3,v4,v5,cc1,?_,?_,rfl,hf2⟩
   ·simp only [gY,Bool.false_eq_true,if_true,if_false] at hm ⊢;omega
   ·rw [List.set_comm _ _ n1_6.symm,List.set_comm _ _ n1_5.symm,List.set_comm _ _ n1_4.symm,List.set_comm _ _ n1_3.symm,List.set_comm _ _ n1_2.symm,List.set_set]
  ·refine wpOp_mono ?_ (dI (by simpa using e2) (h2 b1 true b3 b4 b5 b6 v1 v2 v3 v4 v5 w (Bool.and_eq_true_iff.2 c2) hf))
   rintro a w2 ⟨hS,u,rfl,hf2⟩
   refine ⟨hS,b1,true,b3,b4,b5,b6,v1,u,v3,v4,v5,cc2,?_,?_,rfl,hf2⟩
   ·simp only [gY,Bool.false_eq_true,if_true,if_false] at hm ⊢;omega
   ·rw [List.set_comm _ _ n2_6.symm,List.set_comm _ _ n2_5.symm,List.set_comm _ _ n2_4.symm,List.set_comm _ _ n2_3.symm,List.set_set]
  ·refine wpOp_mono ?_ (dI (by simpa using e3) (h3 b1 b2 true b4 b5 b6 v1 v2 v3 v4 v5 w (Bool.and_eq_true_iff.2 c3) hf))
   rintro a w2 ⟨hS,u,rfl,hf2⟩
   refine ⟨hS,b1,b2,true,b4,b5,b6,v1,v2,u,v4,v5,cc3,?_,?_,rfl,hf2⟩
   ·simp only [gY,Bool.false_eq_true,if_true,if_false] at hm ⊢;omega
   ·rw [List.set_comm _ _ n3_6.symm,List.set_comm _ _ n3_5.symm,List.set_comm _ _ n3_4.symm,List.set_set]
  ·refine wpOp_mono ?_ (dI (by simpa using e4) (h4 b1 b2 b3 true b5 b6 v1 v2 v3 v4 v5 w (Bool.and_eq_true_iff.2 c4) hf))
   rintro a w2 ⟨hS,u,rfl,hf2⟩
   refine ⟨hS,b1,b2,b3,true,b5,b6,v1,v2,v3,u,v5,cc4,?_,?_,rfl,hf2⟩
   ·simp only [gY,Bool.false_eq_true,if_true,if_false] at hm ⊢;omega
   ·rw [List.set_comm _ _ n4_6.symm,List.set_comm _ _ n4_5.symm,List.set_set]
  ·refine wpOp_mono ?_ (dI (by simpa using e5) (h5 b1 b2 b3 b4 true b6 v1 v2 v3 v4 v5 w (Bool.and_eq_true_iff.2 c5) hf))
   rintro a w2 ⟨hS,u,rfl,hf2⟩
   refine ⟨hS,b1,b2,b3,b4,true,b6,v1,v2,v3,v4,u,cc5,?_,?_,rfl,hf2⟩
   ·simp only [gY,Bool.false_eq_true,if_true,if_false] at hm ⊢;omega
   ·rw [List.set_comm _ _ n5_6.symm,List.set_set]
  ·refine wpOp_mono ?_ (dI (by simpa using e6) (h6 b1 b2 b3 b4 b5 true v1 v2 v3 v4 v5 w (Bool.and_eq_true_iff.2 c6) hf))
   rintro a w2 ⟨hS,rfl,hf2⟩
   refine ⟨hS,b1,b2,b3,b4,b5,true,v1,v2,v3,v4,v5,cc6,?_,?_,rfl,hf2⟩
   ·simp only [gY,Bool.false_eq_true,if_true,if_false] at hm ⊢;omega
   ·rw [List.set_set]
 ·rintro L a w ⟨b1,b2,b3,b4,b5,b6,v1,v2,v3,v4,v5,hcc,hm,rfl,rfl,hf⟩
  have p1:b1=true:=cG (by omega)
  have p2:b2=true:=cG (by omega)
  have p3:b3=true:=cG (by omega)
  have p4:b4=true:=cG (by omega)
  have p5:b5=true:=cG (by omega)
  have p6:b6=true:=cG (by omega)
  subst p1 p2 p3 p4 p5 p6
  exact hG v1 v2 v3 v4 v5 w hf
end
theorem zDk {p:Prop} (h:p:=by decide +kernel):p:=h
theorem aC {p:Prop} (h:p:=by omega):p:=h
theorem aX {p:Prop} (h:p:=by simp):p:=h
theorem aJ {p:Prop} (h:p:=by decide):p:=h
section
variable {P:Program} {ops:Array Oper} {Q:Exit→Act→World→Prop} {w:World} {rest:List Oper} {ts:List Value} {df:List Deferred} {d:Nat} {ty:TypeId} {ps:String} {af:Array Edge} {g:Option (Nat × Bool)} {tys:Array TypeId} {f:FuncId} {xs:List Operand} {vs:List Value}
theorem gI {R:Ending→World→Prop} (hc:Calls P f vs.toArray w R) (h:∀ e w',R e w'→∃ v,e=.returned v∧wpList P ops Q rest (Act.mk (ts.set d v).toArray df) w')
 (he:Enters P f:=by exact enters_of rfl rfl rfl) (hw:Region.wanted (Oper.mk (some d) (.call ⟨.value (.func f),xs.toArray,tys⟩) ty ps af g) (yielded ops ts.toArray)=true:=by rfl) (hxs:xs.map (Act.mk ts.toArray df).eval=vs:=by rfl) :
 wpList P ops Q (Oper.mk (some d) (.call ⟨.value (.func f),xs.toArray,tys⟩) ty ps af g :: rest) (Act.mk ts.toArray df) w:=bD he hw hxs hc h
theorem Ba {R:Ending→World→Prop} {v:Value} {A G:World→Prop} (hc:Calls P f vs.toArray w R) (h:∀ w',A w'→G w')
 (he:Enters P f:=by exact enters_of rfl rfl rfl) (hw:Region.wanted (Oper.mk (some d) (.call ⟨.value (.func f),xs.toArray,tys⟩) ty ps af g) (yielded ops ts.toArray)=true:=by rfl) (hxs:xs.map (Act.mk ts.toArray df).eval=vs:=by rfl)
 (hR:(∀ e w',R e w'→e=.returned v∧A w')∧∀ w',wpList P ops Q rest (Act.mk (ts.set d v).toArray df) w'=G w':=by (refine ⟨?_,?_⟩;(rintro _ _ ⟨rfl,h1⟩;exact ⟨rfl,h1⟩);(intro w';(simp only [List.set_cons_succ,List.set_cons_zero,List.getD_cons_succ,List.getD_cons_zero,List.length_map,if_true,Bool.false_eq_true,if_false,Int.toNat_natCast,Int.toNat_zero,Int.toNat_one,Nat.zero_mul,Bool.not_true,Bool.not_false,decide_true,decide_false]);(with_reducible exact rfl)))) :
 wpList P ops Q (Oper.mk (some d) (.call ⟨.value (.func f),xs.toArray,tys⟩) ty ps af g :: rest) (Act.mk ts.toArray df) w :=
 bD he hw hxs hc fun e w' h'=>by
  obtain ⟨h0,h1⟩:=hR.1 e w' h'
  exact ⟨v,h0,(hR.2 w').mpr (h w' h1)⟩
theorem eY {R:Ending→World→Prop} {v:Value} {A B G:World→Prop} (hc:Calls P f vs.toArray w R) (h:∀ w',A w'→B w'→G w')
 (he:Enters P f:=by exact enters_of rfl rfl rfl) (hw:Region.wanted (Oper.mk (some d) (.call ⟨.value (.func f),xs.toArray,tys⟩) ty ps af g) (yielded ops ts.toArray)=true:=by rfl) (hxs:xs.map (Act.mk ts.toArray df).eval=vs:=by rfl)
 (hR:(∀ e w',R e w'→e=.returned v∧A w'∧B w')∧∀ w',wpList P ops Q rest (Act.mk (ts.set d v).toArray df) w'=G w':=by (refine ⟨?_,?_⟩;(rintro _ _ ⟨rfl,h1,h2⟩;exact ⟨rfl,h1,h2⟩);(intro w';(simp only [List.set_cons_succ,List.set_cons_zero,List.getD_cons_succ,List.getD_cons_zero,List.length_map,if_true,Bool.false_eq_true,if_false,Int.toNat_natCast,Int.toNat_zero,Int.toNat_one,Nat.zero_mul,Bool.not_true,Bool.not_false,decide_true,decide_false]);(with_reducible exact rfl)))) :
 wpList P ops Q (Oper.mk (some d) (.call ⟨.value (.func f),xs.toArray,tys⟩) ty ps af g :: rest) (Act.mk ts.toArray df) w :=
 bD he hw hxs hc fun e w' h'=>by
  obtain ⟨h0,h1,h2⟩:=hR.1 e w' h'
  exact ⟨v,h0,(hR.2 w').mpr (h w' h1 h2)⟩
theorem Bb {R:Ending→World→Prop} {v:Value} {A B C G:World→Prop} (hc:Calls P f vs.toArray w R) (h:∀ w',A w'→B w'→C w'→G w')
 (he:Enters P f:=by exact enters_of rfl rfl rfl) (hw:Region.wanted (Oper.mk (some d) (.call ⟨.value (.func f),xs.toArray,tys⟩) ty ps af g) (yielded ops ts.toArray)=true:=by rfl) (hxs:xs.map (Act.mk ts.toArray df).eval=vs:=by rfl)
 (hR:(∀ e w',R e w'→e=.returned v∧A w'∧B w'∧C w')∧∀ w',wpList P ops Q rest (Act.mk (ts.set d v).toArray df) w'=G w':=by (refine ⟨?_,?_⟩;(rintro _ _ ⟨rfl,h1,h2,h3⟩;exact ⟨rfl,h1,h2,h3⟩);(intro w';(simp only [List.set_cons_succ,List.set_cons_zero,List.getD_cons_succ,List.getD_cons_zero,List.length_map,if_true,Bool.false_eq_true,if_false,Int.toNat_natCast,Int.toNat_zero,Int.toNat_one,Nat.zero_mul,Bool.not_true,Bool.not_false,decide_true,decide_false]);(with_reducible exact rfl)))) :
 wpList P ops Q (Oper.mk (some d) (.call ⟨.value (.func f),xs.toArray,tys⟩) ty ps af g :: rest) (Act.mk ts.toArray df) w :=
 bD he hw hxs hc fun e w' h'=>by
  obtain ⟨h0,h1,h2,h3⟩:=hR.1 e w' h'
  exact ⟨v,h0,(hR.2 w').mpr (h w' h1 h2 h3)⟩
theorem vZ {v:Value} (hc:Calls P f vs.toArray w (aY w v)) (h:∀ w',Ext w w'→wpList P ops Q rest (Act.mk (ts.set d v).toArray df) w')
 (he:Enters P f:=by exact enters_of rfl rfl rfl) (hw:Region.wanted (Oper.mk (some d) (.call ⟨.value (.func f),xs.toArray,tys⟩) ty ps af g) (yielded ops ts.toArray)=true:=by rfl) (hxs:xs.map (Act.mk ts.toArray df).eval=vs:=by rfl) :
 wpList P ops Q (Oper.mk (some d) (.call ⟨.value (.func f),xs.toArray,tys⟩) ty ps af g :: rest) (Act.mk ts.toArray df) w:=bT he hw hxs hc h
theorem bZ {v:Value} {G:World→Prop} (hc:Calls P f vs.toArray w (aY w v)) (h:∀ w',Ext w w'→G w')
 (he:Enters P f:=by exact enters_of rfl rfl rfl) (hw:Region.wanted (Oper.mk (some d) (.call ⟨.value (.func f),xs.toArray,tys⟩) ty ps af g) (yielded ops ts.toArray)=true:=by rfl) (hxs:xs.map (Act.mk ts.toArray df).eval=vs:=by rfl)
 (e:∀ w',wpList P ops Q rest (Act.mk (ts.set d v).toArray df) w'=G w':=by (intro w';(simp only [List.set_cons_succ,List.set_cons_zero,List.getD_cons_succ,List.getD_cons_zero,List.length_map,if_true,Bool.false_eq_true,if_false,Int.toNat_natCast,Int.toNat_zero,Int.toNat_one,Nat.zero_mul,Bool.not_true,Bool.not_false,decide_true,decide_false]);(with_reducible exact rfl))) :
 wpList P ops Q (Oper.mk (some d) (.call ⟨.value (.func f),xs.toArray,tys⟩) ty ps af g :: rest) (Act.mk ts.toArray df) w:=bT he hw hxs hc fun w' x=>(e w').mpr (h w' x)
theorem gR {R:Value→World→Prop} (hc:Calls P f vs.toArray w (kX w R)) (h:∀ v w',Ext w w'→R v w'→wpList P ops Q rest (Act.mk (ts.set d v).toArray df) w')
 (he:Enters P f:=by exact enters_of rfl rfl rfl) (hw:Region.wanted (Oper.mk (some d) (.call ⟨.value (.func f),xs.toArray,tys⟩) ty ps af g) (yielded ops ts.toArray)=true:=by rfl) (hxs:xs.map (Act.mk ts.toArray df).eval=vs:=by rfl) :
 wpList P ops Q (Oper.mk (some d) (.call ⟨.value (.func f),xs.toArray,tys⟩) ty ps af g :: rest) (Act.mk ts.toArray df) w:=gE he hw hxs hc h
theorem rP {R:Value→World→Prop} {G:Value→World→Prop} (hc:Calls P f vs.toArray w (kX w R)) (h:∀ v w',Ext w w'→R v w'→G v w')
 (he:Enters P f:=by exact enters_of rfl rfl rfl) (hw:Region.wanted (Oper.mk (some d) (.call ⟨.value (.func f),xs.toArray,tys⟩) ty ps af g) (yielded ops ts.toArray)=true:=by rfl) (hxs:xs.map (Act.mk ts.toArray df).eval=vs:=by rfl)
 (e:∀ v w',wpList P ops Q rest (Act.mk (ts.set d v).toArray df) w'=G v w':=by (intro v w';(simp only [List.set_cons_succ,List.set_cons_zero,List.getD_cons_succ,List.getD_cons_zero,List.length_map,if_true,Bool.false_eq_true,if_false,Int.toNat_natCast,Int.toNat_zero,Int.toNat_one,Nat.zero_mul,Bool.not_true,Bool.not_false,decide_true,decide_false]);(with_reducible exact rfl))) :
 wpList P ops Q (Oper.mk (some d) (.call ⟨.value (.func f),xs.toArray,tys⟩) ty ps af g :: rest) (Act.mk ts.toArray df) w:=gE he hw hxs hc fun v w' x r=>(e v w').mpr (h v w' x r)
theorem dT {t:TypeId} {z:List Value} (h:∀ w',Ext w w'→w'.heap.size=w.heap.size + 1→w'.heap[w.heap.size]? = some (.cells z.toArray t (0,0))→wpList P ops Q rest (Act.mk (ts.set d (.pointer (some ⟨w.heap.size,0,none⟩))).toArray df) w')
 (hw:Region.wanted (Oper.mk (some d) (.alloc t) ty ps af g) (yielded ops ts.toArray)=true:=by rfl) (hz:yB P t z=true:=by decide +kernel) :
 wpList P ops Q (Oper.mk (some d) (.alloc t) ty ps af g :: rest) (Act.mk ts.toArray df) w:=IT hw hz h
theorem mW {t:TypeId} {x:Operand} {vs:List Value} (h:∀ p w',Ext w w'→Pts w' p vs→wpList P ops Q rest (Act.mk (ts.set d p).toArray df) w')
 (hw:Region.wanted (Oper.mk (some d) (.box t x) ty ps af g) (yielded ops ts.toArray)=true:=by rfl) (hx:((Act.mk ts.toArray df).eval x).cells=vs.toArray:=by rfl):wpList P ops Q (Oper.mk (some d) (.box t x) ty ps af g :: rest) (Act.mk ts.toArray df) w:=TP hw hx h
theorem jP {t:TypeId} {x:Operand} {vs:List Value} (h:∀ w',Ext w w'→w'.heap.size=w.heap.size + 1→w'.heap[w.heap.size]? = some (.cells vs.toArray t (0,0))→wpList P ops Q rest (Act.mk (ts.set d (.pointer (some ⟨w.heap.size,0,none⟩))).toArray df) w')
 (hw:Region.wanted (Oper.mk (some d) (.box t x) ty ps af g) (yielded ops ts.toArray)=true:=by rfl) (hx:((Act.mk ts.toArray df).eval x).cells=vs.toArray:=by rfl):wpList P ops Q (Oper.mk (some d) (.box t x) ty ps af g :: rest) (Act.mk ts.toArray df) w:=OT hw hx h
theorem dH {t ty:TypeId} {x y:Operand} {b:Nat} {old:Array Value} {v:Value} {ty2:TypeId} (hb:w.heap[b]? = some (.cells old t (0,0))) (h1:v.cells.all (·.oneCell')=true)
 (h:∀ w',Put w w' b (.cells v.cells t (0,0))→wpList P ops Q rest (Act.mk ts.toArray df) w') (hw:Region.wanted (Oper.mk none (.store ty x y) ty2 ps af g) (yielded ops ts.toArray)=true:=by rfl)
 (hh:(Act.mk ts.toArray df).eval x=.pointer (some ⟨b,0,none⟩)∧(Act.mk ts.toArray df).eval y=v∧old.size=v.cells.size∧dG P ty v.cells.size=true:=by (refine ⟨rfl,rfl,rfl,?_⟩;kernel_rfl)) :
 wpList P ops Q (Oper.mk none (.store ty x y) ty2 ps af g :: rest) (Act.mk ts.toArray df) w:=cZ hw hh.1 hh.2.1 hb hh.2.2.2 hh.2.2.1 h1 h
theorem eZ (n:Nat) {t ty:TypeId} {x y:Operand} {b:Nat} {cs:List Value} (v:Value) {ty2:TypeId} (hb:w.heap[b]? = some (.cells cs.toArray t (0,0))) (h1:v.oneCell'=true)
 (h:∀ w',Put w w' b (.cells (cs.set n v).toArray t (0,0))→wpList P ops Q rest (Act.mk ts.toArray df) w') (hw:Region.wanted (Oper.mk none (.store ty x y) ty2 ps af g) (yielded ops ts.toArray)=true:=by rfl)
 (hh:(Act.mk ts.toArray df).eval x=aT (.pointer (some ⟨b,0,none⟩)) n∧(Act.mk ts.toArray df).eval y=v∧n < cs.length∧dG P ty 1=true:=by (refine ⟨rfl,rfl,of_decide_eq_true rfl,?_⟩;decide +kernel)) :
 wpList P ops Q (Oper.mk none (.store ty x y) ty2 ps af g :: rest) (Act.mk ts.toArray df) w:=iG hb hw hh.1 hh.2.1 hh.2.2.1 hh.2.2.2 h1 h
theorem oN {t e k d n bytes:Nat} {xs:List Value} {parts:List (Nat × Operand)} (hc:∀ x ∈ xs,x.cells.size=k)
 (h:∀ v' w',Ext w w'→w'.heap.size=w.heap.size + 1→Sl k w' v' (xs.map (·.cells.toList))→Own w.heap.size k e w' v' (xs.map (·.cells.toList))→wpList P ops Q rest (Act.mk (ts.set d v').toArray df) w')
 (hw:Region.wanted (Oper.mk (some d) (.buildSlice t n parts.toArray) ty ps af g) (yielded ops ts.toArray)=true:=by rfl)
 (hx:parts.map (fun p=>(p.1,(Act.mk ts.toArray df).eval p.2))=(xs.zipIdx 0).map fun p=>(p.2,p.1):=by rfl) (hn:n=xs.length:=by rfl) (ht:lY P t e k bytes=true:=by decide +kernel) (hk2:xs.length * k≤16777216:=by simp) :
 wpList P ops Q (Oper.mk (some d) (.buildSlice t n parts.toArray) ty ps af g :: rest) (Act.mk ts.toArray df) w:=rG hw hx hn hc ht hk2 h
end
section
variable {P:Program} {Q:Exit→Act→World→Prop} {w:World} {k:Nat} {F:World→Prop} {l:List Oper} {ts:List Value} {df:List Deferred} {d:Nat} {ty:TypeId} {ps:String} {af:Array Edge} {g:Option (Nat × Bool)} {listed:List Bool} {fuel fuel2:Nat}
theorem rQ {i:Nat} {op:Op} {v:Value} (hi:l[i]? = some (Oper.mk (some d) op ty ps af g)) (hfu:fuel2=fuel + 1) (hy:∀ w',F w'→Runs P (Oper.mk (some d) op ty ps af g) (Act.mk ts.toArray df) w' v)
 (h:vY P Q k F l fuel (listed.set i true) (Act.mk (ts.set d v).toArray df) w) (hik:decide (i≠k)=true:=by decide +kernel) (hk:tJ .any l.toArray l.length k i=true:=by decide +kernel) (hs:Region.noSelect l.toArray=true:=by decide +kernel) (hf:Region.free .any l.toArray listed.toArray i=true:=by decide +kernel) (hr:(Region.ready .any l.toArray listed.toArray).contains i=true:=by decide +kernel)
 (hw:Region.wanted (Oper.mk (some d) op ty ps af g) (yielded l.toArray ts.toArray)=true:=by rfl) (hQ:∀ c a w,Q (.panic c) (a.put (some d) v) w→Q (.panic c) a w:=by exact fun _ _ _ h=>h) :
 vY P Q k F l fuel2 listed (Act.mk ts.toArray df) w:=bQ hi hfu hik hk hs hf hr hw hy hQ h
theorem xG {i:Nat} {op:Op} {v:Value} (hi:l[i]? = some (Oper.mk (some d) op ty ps af g)) (hfu:fuel2=fuel + 1) (hy:∀ w',Runs P (Oper.mk (some d) op ty ps af g) (Act.mk ts.toArray df) w' v)
 (h:vY P Q k F l fuel (listed.set i true) (Act.mk (ts.set d v).toArray df) w) (hik:decide (i≠k)=true:=by rfl) (hs:Region.noSelect l.toArray=true:=by decide +kernel) (hf:Region.free .any l.toArray listed.toArray i=true:=by decide +kernel) (hr:(Region.ready .any l.toArray listed.toArray).contains i=true:=by decide +kernel)
 (hw:Region.wanted (Oper.mk (some d) op ty ps af g) (yielded l.toArray ts.toArray)=true:=by rfl) (hQ:∀ c a w,Q (.panic c) (a.put (some d) v) w→Q (.panic c) a w:=by exact fun _ _ _ h=>h) :
 vY P Q k F l fuel2 listed (Act.mk ts.toArray df) w:=jB hi hfu hik hs hf hr hw hy hQ h
theorem dM (i:Nat) {o:Oper} {a:Act} (h:wpList P l.toArray (oS Q fun a' w'=>Till k F (listed.set i true).toArray w'∧vY P Q k F l fuel (listed.set i true) a' w') [o] a w)
 (hr:Region.ready .any l.toArray listed.toArray=[i]:=by decide +kernel) (hh:l[i]? = some o∧fuel2=fuel + 1:=by exact ⟨rfl,rfl⟩):vY P Q k F l fuel2 listed a w:=YE hr hh.1 hh.2 h
theorem kK {a:Act} (h:Q .normal a w) (hr:Region.ready .any l.toArray listed.toArray=[]:=by decide +kernel):vY P Q k F l fuel listed a w:=OZ hr h
end
section
variable {P:Program} {fn:Func} {R:Ending→World→Prop} {ts:List Value} {w:World} {p q:Tmp} {t:TypeId} {b:Nat} {ty0:TypeId} {fr:Nat × Nat}
theorem IQ {cs:List Value} (hb:w.heap[b]? = some (.cells cs.toArray ty0 fr)) (hR:R (.returned (.agg cs.toArray)) w) (hh:fn.results=#[.cell p t]∧ts.getD p undef=.pointer (some ⟨b,0,none⟩)∧eE P t cs.length=true:=by (refine ⟨rfl,rfl,?_⟩;kernel_rfl)) :
 bodyPost P fn R .ret (Act.mk ts.toArray []) w:=bodyPost_ret (fG hh.1 hh.2.1 hb hh.2.2) rfl hR
theorem tN {cs:List Value} (hb:w.heap[b]? = some (.cells cs.toArray ty0 fr)) (hR:R (.returned (.tuple #[.agg cs.toArray,ts.getD q undef])) w) (hh:fn.results=#[.cell p t, .tmp q]∧ts.getD p undef=.pointer (some ⟨b,0,none⟩)∧eE P t cs.length=true:=by (refine ⟨rfl,rfl,?_⟩;kernel_rfl)) :
 bodyPost P fn R .ret (Act.mk ts.toArray []) w:=bodyPost_ret (fQ hh.1 hh.2.1 hb hh.2.2) rfl hR
end
theorem cB {a b c:World} {k:Nat} {o:Obj} (h:Ext a b) (p:Put b c k o) (hk:a.heap.size≤k:=by (first | exact Nat.le_refl _ | assumption | exact Ext.size (by assumption) | omega)):Ext a c :=
 h.move p.mv (by rintro k ⟨⟩;exact hk)
theorem tO {α:Type} [Inhabited α] (enc:α→List Value) (k:Nat) (hk:∀ x,(enc x).length=k) (l:List α):(Sort.flatK enc k l.toArray).toList=(l.map enc).flatten:=by
 have hall:∀ x ∈ l.map enc,x.length=k:=by
  intro x hx
  obtain ⟨y,_,rfl⟩:=List.mem_map.1 hx
  exact hk y
 have hfl:=aZ hall
 have h:Sort.flatK enc k l.toArray=((l.map enc).flatten).toArray:=by
  refine Sort.ext_get! (by simp [hfl]) fun t ht => ?_
  have ht':t < l.length * k:=by simpa using ht
  rw [Sort.get_flatK _ _ _ t (by simpa using ht')]
  have k0:0 < k:=by
   rcases Nat.eq_zero_or_pos k with h | h
   ·subst h;simp at ht'
   ·exact h
  have hd:t / k < l.length:=Nat.div_lt_of_lt_mul (by rw [Nat.mul_comm];exact ht')
  have hm:t % k < k:=Nat.mod_lt _ k0
  have e1:l.toArray[t / k]! = l[t / k]:=by rw [getElem!_pos _ _ (by simpa using hd)];simp
  rw [e1]
  have h1:=jV hall (i:=t / k) (j:=t % k) (e:=enc l[t / k]) (x:=(enc l[t / k])[t % k]'(by rw [hk];exact hm)) (by simp [hd]) (List.getElem?_eq_getElem (by rw [hk];exact hm))
  rw [show t / k * k + t % k=t by rw [Nat.mul_comm];exact Nat.div_add_mod t k] at h1
  have h2:t < (l.map enc).flatten.length:=(List.getElem?_eq_some_iff.1 h1).1
  rw [getElem!_pos _ t (by simpa using h2)]
  have h3:=(List.getElem?_eq_some_iff.1 h1).2
  simp only [List.getElem_toArray]
  rw [h3,getElem!_pos _ _ (by rw [hk];exact hm)]
 rw [h]
theorem Own.holdsF {B k e g cap n:Nat} {w:World} {es:List (List Value)} (h:Own B k e w (.slice (some ⟨g,0,none⟩) n cap) es):Sort.Holds id w g 0 es.flatten.toArray:=by
 rcases h.row.2 with ⟨h0,_⟩ | ⟨g',cap',cur,fz,hv,hb,hg,hfz,hnc,hcm,hcs,htake⟩
 ·cases h0
 ·simp only [Value.slice.injEq,Option.some.injEq,Addr.mk.injEq,and_true,true_and] at hv
  obtain ⟨rfl,_,rfl⟩:=hv
  have hlen:=aZ h.each
  have hck:es.length * k≤cap * k:=Nat.mul_le_mul_right k hnc
  intro j hj
  have hj':j < es.flatten.length:=by simpa using hj
  have hjc:j < cur.size:=by omega
  constructor
  ·rw [Nat.zero_add,cell_of_row w g j cur e fz hg]
   have:=congrArg (·[j]?) htake
   simp only [List.getElem?_take,if_pos (show j < es.length * k by omega),List.getElem?_eq_getElem hj'] at this
   rw [← Array.getElem?_toList,this]
   rw [getElem!_pos _ j hj]
   simp
  ·rw [Nat.zero_add];exact sD hg hfz hjc
theorem Own.putRowF {B k e g cap:Nat} {w:World} {es fs:List (List Value)} (h:Own B k e w (.slice (some ⟨g,0,none⟩) es.length cap) es) (hl:fs.length=es.length) (hf:∀ x ∈ fs,x.length=k) (n:Nat) (os:Array Obj) :
 Own B k e (Sort.grow (Sort.putRow id (Sort.ahead w n) g 0 fs.flatten.toArray) os) (.slice (some ⟨g,0,none⟩) es.length cap) fs∧Mv (some g) w (Sort.grow (Sort.putRow id (Sort.ahead w n) g 0 fs.flatten.toArray) os):=by
 rcases h.row.2 with ⟨h0,_⟩ | ⟨g',cap',cur,fz,hv,hb,hg,hfz,hnc,hcm,hcs,htake⟩
 ·cases h0
 ·simp only [Value.slice.injEq,Option.some.injEq,Addr.mk.injEq,and_true,true_and] at hv
  obtain ⟨rfl,rfl⟩:=hv
  have hgs:g < w.heap.size:=(Array.getElem?_eq_some_iff.1 hg).1
  have hg2:(Sort.grow (Sort.putRow id (Sort.ahead w n) g 0 fs.flatten.toArray) os).heap[g]? = some (.cells (Sort.putCells id 0 fs.flatten.toArray cur) e fz):=by
   simp only [Sort.grow,Sort.putRow,Sort.mapBlock,Sort.ahead]
   rw [Array.getElem?_append_left (by simpa using hgs),Array.getElem?_modify,if_pos rfl,hg]
   rfl
  have hsz:(Sort.putCells id 0 fs.flatten.toArray cur).size=cur.size:=by simp [Sort.putCells]
  have hlen:=aZ hf
  have hck:es.length * k≤cap * k:=Nat.mul_le_mul_right k hnc
  refine ⟨⟨⟨hlen, .inr ⟨g,cap,_,fz,by rw [hl],hb,hg2,by rw [hsz];exact hfz,by omega,hcm,by rw [hsz];exact hcs,?_⟩⟩,hf⟩,⟨rfl,rfl,rfl,?_,?_,Nat.le_add_right _ _⟩⟩
  ·apply List.ext_getElem?
   intro j
   simp only [List.getElem?_take]
   by_cases hj:j < fs.length * k
   ·have hpk:fs.length * k=es.length * k:=by rw [hl]
    have hjf:j < fs.flatten.length:=by omega
    have hjc:j < cur.toList.length:=by rw [Array.length_toList];omega
    rw [if_pos hj,List.getElem?_eq_getElem hjf]
    simp only [Sort.putCells,Array.toList_mapIdx,List.getElem?_mapIdx]
    rw [List.getElem?_eq_getElem hjc,Option.map_some]
    have hc:(0≤j∧j < 0 + fs.flatten.toArray.size):=by constructor;omega;simp only [List.size_toArray];omega
    rw [if_pos hc]
    simp only [Nat.sub_zero,id]
    rw [getElem!_pos _ j (by simpa only [List.size_toArray] using hjf),List.getElem_toArray]
   ·rw [if_neg hj,List.getElem?_eq_none (by omega)]
  ·simp only [Sort.grow,Sort.putRow,Sort.mapBlock,Sort.ahead,Array.size_append,Array.size_modify];omega
  ·intro k hk hne
   simp only [Sort.grow,Sort.putRow,Sort.mapBlock,Sort.ahead]
   rw [Array.getElem?_append_left (by simpa using hk),Array.getElem?_modify,if_neg (fun e=>hne (by rw [e]))]
end Go.Proofs.X
