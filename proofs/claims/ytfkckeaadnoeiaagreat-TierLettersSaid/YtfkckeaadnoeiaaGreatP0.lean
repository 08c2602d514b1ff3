/- Laws and walks that the proof of the statement is made of (part 0). -/
import Derived.WalkKit
import Derived.WalkSpells
import Derived.WalkLawsBesides
import Derived.Deep.Quiet
import Derived.Shelf.Abstract
import Derived.RangeFuncRecord
import Derived.Laws.IdiomStrings
import Derived.Laws.BytesArg
import Derived.Sort.Row
import Derived.Sort.EncStr
import Derived.Sort.Grow
import Derived.Laws.BitsAllLaws
import Derived.Laws.Shifts
import Derived.Laws.ResultCell
import Derived.Laws.Tables
import Derived.Lib.AppendStr
import Derived.Lib.Walk
import Derived.OrdersHeld
import Derived.Laws.Cover3
import Derived.DeepKeys4
import Derived.StillTail
import Derived.Deep.Slices
import Derived.Deep.Strs
import Derived.Shelf.SlSortCmp.WholeK
import Derived.Sort.Walk0
import Derived.Lib.Strings
import Derived.Laws.OwnMore
import Derived.Laws.StructEq
import Derived.Laws.Pointers
import Derived.RowKit
import Derived.Lib.SliceRun
import Derived.Lib.AppendZerosOnto
import Derived.Test.YtfkckeaadnoeiaaGreatProg
import Derived.Lib.Hide
import Derived.Shelf.RegionOpenPlain
import Derived.Lib.Slices
import Derived.Lib.Builder
import Derived.Lib.UnsafeStr
import Derived.Lib.MakeNoZero
import Derived.Laws.Externs
import Derived.Laws.IdiomCopy
import Derived.Laws.BitsLemmas
import GoSem.Claims
import Derived.Test.YtfkckeaadnoeiaaGreatShelf
import Derived.OwnWalk
import Derived.Shelf.SlSortCmp.NoneTotal
import Derived.OrdersIn
import Derived.LoopIn
import Derived.StringKeys
import Derived.WalkMore
import Derived.Laws.IdiomRangeMap
import Derived.ScopeJumps
import Derived.ProofKit
import Derived.OpenShut
import Derived.ShutString
import Derived.ChangeOld
import Derived.Below
set_option linter.unusedSimpArgs false
set_option linter.unusedVariables false
namespace Go.Proofs.X
open Go.RowKit
structure Ext (w w':World):Prop where
 os:w'.os=w.os
 tape:w'.tape=w.tape
 output:w'.output=w.output
 size:w.heap.size≤w'.heap.size
 block:∀ k,k<w.heap.size→w'.heap[k]? = w.heap[k]?
 drawn:w.drawn≤w'.drawn
theorem Ext.refl (w:World):Ext w w:=⟨rfl,rfl,rfl,Nat.le_refl _,fun _ _=>rfl,Nat.le_refl _⟩
theorem Ext.trans {a b c:World} (h:Ext a b) (k:Ext b c):Ext a c :=
 ⟨k.os.trans h.os,k.tape.trans h.tape,k.output.trans h.output,Nat.le_trans h.size k.size,
  fun i hi=>(k.block i (Nat.lt_of_lt_of_le hi h.size)).trans (h.block i hi),Nat.le_trans h.drawn k.drawn⟩
theorem Ext.alloc (w:World) (o:Obj):Ext w (w.alloc o) :=
 ⟨rfl,rfl,rfl,by simp,fun k hk=>Below.heap_alloc _ _ _ hk,Nat.le_refl _⟩
theorem Ext.drew (w:World):Ext w w.drew:=⟨rfl,rfl,rfl,Nat.le_refl _,fun _ _=>rfl,Nat.le_succ _⟩
theorem Ext.drewN (w:World) (n:Nat):Ext w (w.drewN n):=⟨rfl,rfl,rfl,Nat.le_refl _,fun _ _=>rfl,Nat.le_add_right _ _⟩
theorem Ext.below' {a b c:World} (h:Ext a b) (k:Below a.heap.size b c) (hd:b.drawn≤c.drawn):Ext a c :=
 ⟨k.os.trans h.os,k.tape.trans h.tape,k.output.trans h.output,Nat.le_trans h.size k.size,fun i hi=>(k.block i hi).trans (h.block i hi),Nat.le_trans h.drawn hd⟩
theorem Ext.below {w w':World} (h:Ext w w'):Below w.heap.size w w':=⟨h.os,h.tape,h.output,h.size,h.block⟩
theorem Ext.cell {w w':World} (h:Ext w w') {a:Addr} {v:Value} (hc:w.cell? a=some v):w'.cell? a=some v :=
 (World.cell?_of_block (h.block a.block (World.block_lt_of_cell? w a hc))).trans hc
def aE (l:List UInt8):Value:=.string ⟨l.toArray⟩
structure Sl (k:Nat) (w:World) (v:Value) (es:List (List Value)):Prop where
 out:∃ a cap,v=.slice a es.length cap∧es.length≤cap∧cap≤9223372036854775807∧(∀ e∈es,e.length=k)∧(a=none→cap=0) ∧
  (es≠[]→∃ b o,a=some ⟨b,o,none⟩∧∀ i e j x,es[i]? = some e→e[j]? = some x→w.cell? ⟨b,o+i*k+j,none⟩=some x)
structure Pts (w:World) (p:Value) (vs:List Value):Prop where
 out:∃ b o,p=.pointer (some ⟨b,o,none⟩)∧∀ j x,vs[j]? = some x→w.cell? ⟨b,o+j,none⟩=some x
theorem Sl.ext {k:Nat} {w w':World} {v:Value} {es:List (List Value)} (h:Sl k w v es) (hx:Ext w w'):Sl k w' v es:=by
 obtain ⟨a,cap,h1,h2,h3,h4,h5,h6⟩:=h
 exact ⟨a,cap,h1,h2,h3,h4,h5,fun hn=>let ⟨b,o,e,hc⟩:=h6 hn;⟨b,o,e,fun i e j x h1 h2=>hx.cell (hc i e j x h1 h2)⟩⟩
theorem Pts.ext {w w':World} {p:Value} {vs:List Value} (h:Pts w p vs) (hx:Ext w w'):Pts w' p vs:=by
 obtain ⟨b,o,e,hc⟩:=h
 exact ⟨b,o,e,fun j x h1=>hx.cell (hc j x h1)⟩
theorem Sl.le {k:Nat} {w:World} {v:Value} {es:List (List Value)} (h:Sl k w v es):es.length≤9223372036854775807:=by
 obtain ⟨a,cap,h1,h2,h3,_⟩:=h;omega
def cC (v:Value) (n:Nat):Value:=match v with | .slice (some a) _ _=>.pointer (some (a.add n))|_=>undef
def aV (p:Value) (n:Nat):Value:=match p with | .pointer (some a)=>.pointer (some (a.add n))|_=>undef
theorem cY (b o n:Nat):(⟨b,o,none⟩:Addr).add n=⟨b,o+n,none⟩:=by unfold Addr.add;split<;>simp_all
theorem Sl.elem {k:Nat} {w:World} {v:Value} {es:List (List Value)} (h:Sl k w v es) {i:Nat} {e:List Value} (he:es[i]? = some e):Pts w (cC v (i*k)) e:=by
 obtain ⟨a,cap,rfl,h2,h3,h4,h5,h6⟩:=h
 have hne:es≠[]:=by rintro rfl;simp at he
 obtain ⟨b,o,rfl,hc⟩:=h6 hne
 exact ⟨b,o+i*k,by simp [cC,cY],fun j x hx=>hc i e j x he hx⟩
theorem Pts.part {w:World} {p:Value} {vs:List Value} (h:Pts w p vs) (n:Nat):Pts w (aV p n) (vs.drop n):=by
 obtain ⟨b,o,rfl,hc⟩:=h
 exact ⟨b,o+n,by simp [aV,cY],fun j x hx=>by rw [Nat.add_assoc];exact hc _ _ (by simpa using hx)⟩
def oX:TypeDesc→Bool | .struct _=>true | .array _ _=>true|_=>false
def fC (P:Program) (t:TypeId) (k:Nat):Bool:=match P.underlying t with|some (.slice e)=>(match P.info? e with|some i=>i.size == k|none=>false)|_=>false
def lJ (P:Program) (t:TypeId):Bool:=match P.underlying t with|some .string=>true|_=>false
def mY (P:Program) (s n off:Nat):Bool:=match P.underlying s with|some (.struct fs)=>(match fs[n]? with|some f=>f.offset == off&&(match P.info? f.type with|some i=>i.size != 0|none=>false)|none=>false)|_=>false
def iX (P:Program) (t:TypeId):Bool:=match P.underlying t with|some (.struct _)=>false|some (.array _ _)=>false|some _=>true|none=>false
def eF (P:Program) (t:TypeId) (n:Nat):Bool:=(match P.underlying t with|some (.struct _)=>true|some (.array _ _)=>true|_=>false)&&(match P.info? t with|some i=>i.size == n|none=>false)
def dG (P:Program) (t:TypeId) (n:Nat):Bool:=match P.info? t with|some i=>i.size == n|none=>false
def _root_.Go.Value.simple:Value→Value→Bool
 | .bool a, .bool b=>a == b
 | .int k a, .int k' b=>k == k'&&a == b
 | .string a, .string b=>a.data == b.data
 | .pointer none, .pointer none=>true
 | .slice none a b, .slice none c d=>a == c&&b == d
 | .map none, .map none=>true
 | .nilFunc, .nilFunc=>true
 | _,_=>false
def oF:List Value→List Value→Bool
 | [],[]=>true
 | a::l,b::m=>a.simple b&&oF l m
 | _,_=>false
theorem NE {a b:Value} (h:a.simple b=true):a=b:=by
 cases a<;>cases b<;>simp_all [Value.simple]
 all_goals first
  | (rename_i x y;cases x;cases y;simp_all;done)
  | (rename_i x y;cases x<;>cases y<;>simp_all;done)
  | (rename_i x a b y c d;cases x<;>cases y<;>simp_all;done)
theorem wN:∀ {l m:List Value},oF l m=true→l=m
 | [],[],_=>rfl
 | a::l,b::m,h=>by simp only [oF,Bool.and_eq_true]at h;rw [NE h.1,wN h.2]
 | [],_::_,h=>by simp [oF]at h
 | _::_,[],h=>by simp [oF]at h
def yU (P:Program) (t:TypeId) (z:List Value):Bool:=match P.info? t with|some i=>(match i.zero with|some v=>oF v.cells.toList z|none=>false)|none=>false
theorem wO {P:Program} {t:TypeId} {z:List Value} (h:yU P t z=true):∃ i v,P.info? t=some i∧i.zero=some v∧v.cells=z.toArray:=by
 unfold yU at h
 split at h
 ·rename_i i hi
  split at h
  ·rename_i v hv;exact ⟨i,v,hi,hv,by rw [← wN h]⟩
  ·cases h
 ·cases h
def wP (P:Program) (t:TypeId) (k:IntKind):Bool:=match P.underlying t with|some (.int k')=>k' == k|_=>false
section
variable {P:Program}
theorem eO {t k:Nat} (h:fC P t k=true):∃ e i,P.underlying t=some (.slice e)∧P.info? e=some i∧i.size=k:=by
 unfold fC at h
 split at h
 ·rename_i e he
  split at h
  ·rename_i i hi;exact ⟨e,i,he,hi,by simpa using h⟩
  ·cases h
 ·cases h
theorem fJ {t:Nat} (h:lJ P t=true):P.underlying t=some .string:=by
 unfold lJ at h;split at h
 ·assumption
 ·cases h
theorem lO {s n off:Nat} (h:mY P s n off=true):∃ fs f i,P.underlying s=some (.struct fs)∧fs[n]? = some f∧f.offset=off∧P.info? f.type=some i∧i.size≠0:=by
 unfold mY at h
 split at h
 ·rename_i fs hfs
  split at h
  ·rename_i f hf
   simp only [Bool.and_eq_true,beq_iff_eq]at h
   obtain ⟨h1,h2⟩:=h
   split at h2
   ·rename_i i hi;exact ⟨fs,f,i,hfs,hf,h1,hi,by simpa using h2⟩
   ·cases h2
  ·cases h
 ·cases h
theorem oY {t:Nat} (h:iX P t=true):∃ u,P.underlying t=some u∧oX u=false:=by
 unfold iX at h;split at h
 ·cases h
 ·cases h
 ·rename_i u h1 h2 h3;refine ⟨u,h3,?_⟩;cases u<;>simp_all [oX]
 ·cases h
theorem jV {t n:Nat} (h:eF P t n=true):∃ u i,P.underlying t=some u∧oX u=true∧P.info? t=some i∧i.size=n:=by
 unfold eF at h
 simp only [Bool.and_eq_true]at h
 obtain ⟨h1,h2⟩:=h
 split at h2
 ·rename_i i hi
  split at h1
  ·rename_i fs hfs;exact ⟨_,i,hfs,rfl,hi,by simpa using h2⟩
  ·rename_i fs hfs hfs2;exact ⟨_,i,hfs2,rfl,hi,by simpa using h2⟩
  ·cases h1
 ·cases h2
theorem iO {t n:Nat} (h:dG P t n=true):(P.info? t).map (·.size)=some n:=by
 unfold dG at h;split at h
 ·rename_i i hi;simpa [hi]using h
 ·cases h
theorem oZ {t:Nat} {k:IntKind} (h:wP P t k=true):P.underlying t=some (.int k):=by
 unfold wP at h;split at h
 ·rename_i k' hk;rw [hk];simpa using h
 ·cases h
end
structure Runs (P:Program) (o:Oper) (a:Act) (w:World) (v:Value):Prop where
 run:(execOp a.eval o).run P w=.ok (.value v) w
section
variable {P:Program} {ops:Array Oper} {Q:Exit→Act→World→Prop} {w:World} {rest:List Oper}
theorem cG {ts:List Value} {df:List Deferred} {d:Nat} {v:Value} {op:Op} {ty:TypeId} {ps:String} {af:Array Edge} {g:Option (Nat×Bool)}
 (hw:Region.wanted (Oper.mk (some d) op ty ps af g) (yielded ops ts.toArray)=true) (hr:Runs P (Oper.mk (some d) op ty ps af g) (Act.mk ts.toArray df) w v)
 (h:wpList P ops Q rest (Act.mk (ts.set d v).toArray df) w):wpList P ops Q (Oper.mk (some d) op ty ps af g::rest) (Act.mk ts.toArray df) w:=by
 unfold wpList
 rw [if_pos hw]
 refine .inl ?_
 unfold Oper.wp
 rw [hr.run]
 simpa [Oper.upon,Act.put]using h
theorem GZ {ts:List Value} {df:List Deferred} {d:Nat} {op:Op} {ty:TypeId} {ps:String} {af:Array Edge} {g:Option (Nat×Bool)}
 (hw:Region.wanted (Oper.mk (some d) op ty ps af g) (yielded ops ts.toArray)=false)
 (h:wpList P ops Q rest (Act.mk (ts.set d undef).toArray df) w):wpList P ops Q (Oper.mk (some d) op ty ps af g::rest) (Act.mk ts.toArray df) w:=by
 unfold wpList
 rw [if_neg (by simp [hw])]
 simpa [Act.put]using h
theorem CO {ts:List Value} {df:List Deferred} {d:Option Nat} {op:Op} {ty:TypeId} {ps:String} {af:Array Edge} {j:Nat} {want c:Bool} (hy:yielded ops ts.toArray j=some c)
 (h1:c=want→wpList P ops Q (Oper.mk d op ty ps af none::rest) (Act.mk ts.toArray df) w) (h2:c = !want→wpList P ops Q rest ((Act.mk ts.toArray df).put d undef) w) :
 wpList P ops Q (Oper.mk d op ty ps af (some (j,want))::rest) (Act.mk ts.toArray df) w:=by
 by_cases hc:c=want
 ·have h:=h1 hc
  unfold wpList at h ⊢
  rw [if_pos (by simp [Region.wanted])]at h
  rw [if_pos (by simp [Region.wanted,hy,hc])]
  exact h
 ·have h:=h2 (by cases c<;>cases want<;>simp_all)
  unfold wpList
  rw [if_neg (by simp [Region.wanted,hy,hc])]
  exact h
variable {a:Act} {d:Option Nat} {ty:TypeId} {ps:String} {af:Array Edge} {g:Option (Nat×Bool)}
theorem Runs.moveT {ts:List Value} {df:List Deferred} (n:Nat):Runs P (Oper.mk d (.move (.tmp n)) ty ps af g) (Act.mk ts.toArray df) w (ts.getD n undef):=by
 constructor;simp [execOp,Act.eval]
theorem Runs.assignT {ts:List Value} {df:List Deferred} (n:Nat):Runs P (Oper.mk d (.assign (.tmp n)) ty ps af g) (Act.mk ts.toArray df) w (ts.getD n undef):=by
 constructor;simp [execOp,Act.eval]
theorem Runs.moveC (v:Value):Runs P (Oper.mk d (.move (.const v)) ty ps af g) a w v:=⟨rfl⟩
theorem Runs.assignC (v:Value):Runs P (Oper.mk d (.assign (.const v)) ty ps af g) a w v:=⟨rfl⟩
theorem Runs.move (x:Operand):Runs P (Oper.mk d (.move x) ty ps af g) a w (a.eval x):=⟨rfl⟩
theorem Runs.assign (x:Operand):Runs P (Oper.mk d (.assign x) ty ps af g) a w (a.eval x):=⟨rfl⟩
theorem Runs.pick {c x y:Operand} {b:Bool} (h:a.eval c=.bool b):Runs P (Oper.mk d (.pick c x y) ty ps af g) a w (if b then a.eval x else a.eval y):=by
 constructor;cases b<;>simp [execOp,h,asBool]
theorem Runs.len {x:Operand} {t k:Nat} {es:List (List Value)} (h:Sl k w (a.eval x) es) (ht:fC P t k=true) :
 Runs P (Oper.mk d (.call ⟨.builtin .len,#[x],#[t]⟩) ty ps af g) a w (.int .i64 es.length):=by
 obtain ⟨ad,cap,h1,_⟩:=h
 obtain ⟨e,i,ht,_⟩:=eO ht
 constructor
 simp [execOp,resolve,invoke,builtin,h1,Builtin.len_,run_underlying ht,goInt]
theorem fD (l:List UInt8):(ByteArray.mk l.toArray).size=l.length:=by simp [ByteArray.size]
theorem Runs.lenS {x:Operand} {t:TypeId} {l:List UInt8} (h:a.eval x=aE l) (ht:lJ P t=true) :
 Runs P (Oper.mk d (.call ⟨.builtin .len,#[x],#[t]⟩) ty ps af g) a w (.int .i64 l.length):=by
 constructor
 simp [execOp,resolve,invoke,builtin,h,aE,run_len_string w t _ _ (fJ ht)]
 simp [goInt,fD,-ByteArray.size_data]
theorem Runs.idx {t:TypeId} {x i:Operand} {k n:Nat} {es:List (List Value)} (hi:a.eval i=.int .i64 (n:Nat)) (h:Sl k w (a.eval x) es) (hn:n<es.length) (ht:fC P t k=true) :
 Runs P (Oper.mk d (.indexAddr t x i) ty ps af g) a w (cC (a.eval x) (n*k)):=by
 obtain ⟨ad,cap,h1,h2,h3,h4,h5,h6⟩:=h
 obtain ⟨b,o,rfl,hc⟩:=h6 (by rintro rfl;simp at hn)
 obtain ⟨e,ie,ht,hie,hz⟩:=eO ht
 constructor
 simp [execOp,h1,hi,Instr.indexAt,asIntOf,run_underlying ht,sizeOf,typeInfo,hie,hz,cC,hn]
theorem Runs.field {s:TypeId} {x:Operand} {n off:Nat} {vs:List Value} (h:Pts w (a.eval x) vs) (hf:mY P s n off=true) :
 Runs P (Oper.mk d (.fieldAddr s x n) ty ps af g) a w (aV (a.eval x) off):=by
 obtain ⟨b,o,h1,hc⟩:=h
 obtain ⟨fs,f,i,ht,hf,ho,hie,hz⟩:=lO hf
 constructor
 simp [execOp,h1,Instr.fieldAt,Instr.sureAddr,run_underlying ht,hf,fieldPlace,sizeOf,typeInfo,hie,hz,aV,ho]
theorem yV {t:TypeId} {u:TypeDesc} (hu:P.underlying t=some u) (hn:oX u=false):(isAgg t).run P w=.ok false w:=by
 unfold isAgg
 rw [Sem.run_bind,run_underlying hu w]
 cases u<;>simp_all [oX]
theorem jW {t:TypeId} {u:TypeDesc} (hu:P.underlying t=some u) (hn:oX u=true):(isAgg t).run P w=.ok true w:=by
 unfold isAgg
 rw [Sem.run_bind,run_underlying hu w]
 cases u<;>simp_all [oX]
theorem Runs.load {t:TypeId} {x:Operand} {v:Value} {vs:List Value} (h:Pts w (a.eval x) (v::vs)) (hu:iX P t=true):Runs P (Oper.mk d (.load t x) ty ps af g) a w v:=by
 obtain ⟨b,o,h1,hc⟩:=h
 obtain ⟨u,hu,hn⟩:=oY hu
 have h0:w.cell? ⟨b,o,none⟩=some v:=hc 0 v rfl
 constructor
 simp [execOp,h1,Instr.loadAt,Instr.sureAddr,loadVar,Sem.run_bind,yV hu hn,run_load,h0]
theorem Runs.loadN {t:TypeId} {x:Operand} {vs:List Value} {n:Nat} (h:Pts w (a.eval x) vs) (hl:n=vs.length) (hu:eF P t n=true):Runs P (Oper.mk d (.load t x) ty ps af g) a w (.agg vs.toArray):=by
 obtain ⟨b,o,h1,hc⟩:=h
 obtain ⟨u,ie,hu,hn,hie,hz⟩:=jV hu
 have hl':=run_loadCells_list (P:=P) w ⟨b,o,none⟩ vs (fun j v hv=>by
  rw [cY]
  exact hc j v hv)
 rw [← hl]at hl'
 constructor
 simp [execOp,h1,Instr.loadAt,Instr.sureAddr,loadVar,Sem.run_bind,jW hu hn,sizeOf,typeInfo,hie,hz,hl']
theorem Runs.extract {x:Operand} {n:Nat} {vs:Array Value} {v:Value} (h:a.eval x=.tuple vs) (hv:vs[n]? = some v):Runs P (Oper.mk d (.extract x n) ty ps af g) a w v:=by
 constructor
 simp [execOp,h,Instr.extract,hv]
theorem Runs.not {t:TypeId} {x:Operand} {b:Bool} (h:a.eval x=.bool b):Runs P (Oper.mk d (.unOp .not t x) ty ps af g) a w (.bool (!b)):=by
 constructor
 simp [execOp,h,Op.unary]
theorem Runs.lss {t u:TypeId} {x y:Operand} {k:IntKind} {m n:Int} (hx:a.eval x=.int k m) (hy:a.eval y=.int k n):Runs P (Oper.mk d (.binOp .lss t x y u) ty ps af g) a w (.bool (decide (m<n))):=by
 constructor;simp [execOp,hx,hy,eqGuard,binOp,Op.intCmp]
theorem Runs.leq {t u:TypeId} {x y:Operand} {k:IntKind} {m n:Int} (hx:a.eval x=.int k m) (hy:a.eval y=.int k n):Runs P (Oper.mk d (.binOp .leq t x y u) ty ps af g) a w (.bool (decide (m≤n))):=by
 constructor;simp [execOp,hx,hy,eqGuard,binOp,Op.intCmp]
theorem Runs.gtr {t u:TypeId} {x y:Operand} {k:IntKind} {m n:Int} (hx:a.eval x=.int k m) (hy:a.eval y=.int k n):Runs P (Oper.mk d (.binOp .gtr t x y u) ty ps af g) a w (.bool (decide (n<m))):=by
 constructor;simp [execOp,hx,hy,eqGuard,binOp,Op.intCmp]
theorem Runs.geq {t u:TypeId} {x y:Operand} {k:IntKind} {m n:Int} (hx:a.eval x=.int k m) (hy:a.eval y=.int k n):Runs P (Oper.mk d (.binOp .geq t x y u) ty ps af g) a w (.bool (decide (n≤m))):=by
 constructor;simp [execOp,hx,hy,eqGuard,binOp,Op.intCmp]
theorem Runs.eql {t u:TypeId} {x y:Operand} {k:IntKind} {m n:Int} (hx:a.eval x=.int k m) (hy:a.eval y=.int k n):Runs P (Oper.mk d (.binOp .eql t x y u) ty ps af g) a w (.bool (decide (m=n))):=by
 constructor;simp [execOp,hx,hy,eqGuard,binOp,Op.intCmp]
 rw [Bool.eq_iff_iff];simp
theorem Runs.neq {t u:TypeId} {x y:Operand} {k:IntKind} {m n:Int} (hx:a.eval x=.int k m) (hy:a.eval y=.int k n):Runs P (Oper.mk d (.binOp .neq t x y u) ty ps af g) a w (.bool (!decide (m=n))):=by
 constructor;simp [execOp,hx,hy,eqGuard,binOp,Op.intCmp]
 rw [Bool.eq_iff_iff];simp
theorem Runs.add {t u:TypeId} {x y:Operand} {m n:Int} (hx:a.eval x=.int .i64 m) (hy:a.eval y=.int .i64 n) (h:-9223372036854775808≤m+n∧m+n≤9223372036854775807) :
 Runs P (Oper.mk d (.binOp .add t x y u) ty ps af g) a w (.int .i64 (m+n)):=by
 constructor;simp [execOp,hx,hy,eqGuard,binOp,Op.intArith,IntWalk.i64_in _ h]
theorem Runs.sub {t u:TypeId} {x y:Operand} {m n:Int} (hx:a.eval x=.int .i64 m) (hy:a.eval y=.int .i64 n) (h:-9223372036854775808≤m - n∧m - n≤9223372036854775807) :
 Runs P (Oper.mk d (.binOp .sub t x y u) ty ps af g) a w (.int .i64 (m - n)):=by
 constructor;simp [execOp,hx,hy,eqGuard,binOp,Op.intArith,IntWalk.i64_in _ h]
theorem Runs.mul {t u:TypeId} {x y:Operand} {m n:Int} (hx:a.eval x=.int .i64 m) (hy:a.eval y=.int .i64 n) (h:-9223372036854775808≤m*n∧m*n≤9223372036854775807) :
 Runs P (Oper.mk d (.binOp .mul t x y u) ty ps af g) a w (.int .i64 (m*n)):=by
 constructor;simp [execOp,hx,hy,eqGuard,binOp,Op.intArith,IntWalk.i64_in _ h]
theorem Runs.addU {t u:TypeId} {x y:Operand} {m n:Int} (hx:a.eval x=.int .u8 m) (hy:a.eval y=.int .u8 n) :
 Runs P (Oper.mk d (.binOp .add t x y u) ty ps af g) a w (.int .u8 (IntKind.wrap .u8 (m+n))):=by
 constructor;simp [execOp,hx,hy,eqGuard,binOp,Op.intArith]
theorem Runs.subU {t u:TypeId} {x y:Operand} {m n:Int} (hx:a.eval x=.int .u8 m) (hy:a.eval y=.int .u8 n) :
 Runs P (Oper.mk d (.binOp .sub t x y u) ty ps af g) a w (.int .u8 (IntKind.wrap .u8 (m - n))):=by
 constructor;simp [execOp,hx,hy,eqGuard,binOp,Op.intArith]
theorem Runs.inc {t u:TypeId} {x y:Operand} {n:Nat} (hx:a.eval x=.int .i64 (n:Nat)) (hy:a.eval y=.int .i64 1) (h:n<9223372036854775807) :
 Runs P (Oper.mk d (.binOp .add t x y u) ty ps af g) a w (.int .i64 ((n+1:Nat):Int)):=by
 constructor;simp [execOp,hx,hy,eqGuard,binOp,Op.intArith,IntWalk.i64_in ((n:Int)+1) (by omega)]
theorem Runs.convI {s t:TypeId} {x:Operand} {k k':IntKind} {n:Int} (hx:a.eval x=.int k n) (hu:wP P s k=true) (ht:wP P t k'=true) (h:k'.wrap n=n) :
 Runs P (Oper.mk d (.convert s t x) ty ps af g) a w (.int k' n):=by
 constructor;simp [execOp,hx,convert,run_underlying (oZ hu),run_underlying (oZ ht),Conv.intToInt,h]
theorem Runs.convU {s t:TypeId} {x:Operand} {n:Int} (hx:a.eval x=.int .i64 n) (hu:wP P s .i64=true) (ht:wP P t .u8=true) :
 Runs P (Oper.mk d (.convert s t x) ty ps af g) a w (.int .u8 (IntKind.wrap .u8 n)):=by
 have h1:=oZ hu
 have h2:=oZ ht
 constructor;simp [execOp,hx,convert,run_underlying h1,run_underlying h2,Conv.intToInt]
theorem Runs.convS {s t:TypeId} {x:Operand} {l:List UInt8} {u:TypeDesc} (hx:a.eval x=aE l) (hu:lJ P s=true) (ht:lJ P t=true) :
 Runs P (Oper.mk d (.convert s t x) ty ps af g) a w (aE l):=by
 constructor;simp [execOp,hx,aE,convert,run_underlying (fJ hu),run_underlying (fJ ht)]
theorem JT (l:List UInt8) (n:Nat) (h:n<(ByteArray.mk l.toArray).size):(ByteArray.mk l.toArray)[n]=l.getD n 0:=by
 have h':n<l.length:=by simpa [fD,-ByteArray.size_data]using h
 show (ByteArray.mk l.toArray).data[n]=_
 simp [h']
theorem Runs.idxS {t:TypeId} {x i:Operand} {l:List UInt8} {n:Nat} (hx:a.eval x=aE l) (hi:a.eval i=.int .i64 (n:Nat)) (hn:n<l.length) (ht:lJ P t=true) :
 Runs P (Oper.mk d (.index t x i) ty ps af g) a w (.int .u8 ((l.getD n 0).toNat:Nat)):=by
 constructor
 simp only [execOp,hx,hi,aE,Sem.run_bind,run_index_string w t _ _ _ (fJ ht)]
 rw [dif_pos (by rw [fD];omega)]
 simp [JT]
theorem Runs.eqlS {t u:TypeId} {x y:Operand} {l m:List UInt8} (hx:a.eval x=aE l) (hy:a.eval y=aE m):Runs P (Oper.mk d (.binOp .eql t x y u) ty ps af g) a w (.bool (decide (l=m))):=by
 constructor;simp [execOp,hx,hy,aE,eqGuard,binOp_string_eql,ByteArray.toList_mk]
 rw [Bool.eq_iff_iff];simp
theorem Runs.neqS {t u:TypeId} {x y:Operand} {l m:List UInt8} (hx:a.eval x=aE l) (hy:a.eval y=aE m):Runs P (Oper.mk d (.binOp .neq t x y u) ty ps af g) a w (.bool (!decide (l=m))):=by
 constructor;simp [execOp,hx,hy,aE,eqGuard,binOp_string_neq,ByteArray.toList_mk]
 rw [Bool.eq_iff_iff];simp
theorem Runs.lssS {t u:TypeId} {x y:Operand} {l m:List UInt8} (hx:a.eval x=aE l) (hy:a.eval y=aE m):Runs P (Oper.mk d (.binOp .lss t x y u) ty ps af g) a w (.bool (Op.bytesLess l m)):=by
 constructor;simp [execOp,hx,hy,aE,eqGuard,binOp,Op.stringOp,ByteArray.toList_mk]
theorem Runs.gtrS {t u:TypeId} {x y:Operand} {l m:List UInt8} (hx:a.eval x=aE l) (hy:a.eval y=aE m):Runs P (Oper.mk d (.binOp .gtr t x y u) ty ps af g) a w (.bool (!(Op.bytesLess l m||l == m))):=by
 constructor;simp [execOp,hx,hy,aE,eqGuard,binOp,Op.stringOp,ByteArray.toList_mk]
theorem Runs.geqS {t u:TypeId} {x y:Operand} {l m:List UInt8} (hx:a.eval x=aE l) (hy:a.eval y=aE m):Runs P (Oper.mk d (.binOp .geq t x y u) ty ps af g) a w (.bool (!Op.bytesLess l m)):=by
 constructor;simp [execOp,hx,hy,aE,eqGuard,binOp,Op.stringOp,ByteArray.toList_mk]
theorem Runs.addS {t u:TypeId} {x y:Operand} {l m:List UInt8} (hx:a.eval x=aE l) (hy:a.eval y=aE m) (hl:l.length+m.length≤9223372036854775807):Runs P (Oper.mk d (.binOp .add t x y u) ty ps af g) a w (aE (l++m)):=by
 constructor
 have h1:¬ (((ByteArray.mk l.toArray).size+(ByteArray.mk m.toArray).size:Nat):Int)>IntKind.i64.max:=by
  rw [fD,fD];simp [IntKind.max,IntKind.signed,IntKind.bits];omega
 have h2:ByteArray.mk l.toArray++ByteArray.mk m.toArray=ByteArray.mk (l++m).toArray:=by
  simp [ByteArray.ext_iff]
 simp only [execOp,hx,hy,aE,eqGuard,binOp,Op.stringOp,if_neg h1,h2]
 rfl
theorem pC (l:List UInt8) (i j:Nat):(ByteArray.mk l.toArray).extract i j=ByteArray.mk ((l.take j).drop i).toArray:=by
 simp [ByteArray.ext_iff,List.drop_take]
theorem Runs.cutS {t:TypeId} {x lo hi:Operand} {l:List UInt8} {m n:Nat} (hx:a.eval x=aE l) (h1:a.eval lo=.int .i64 (m:Nat)) (h2:a.eval hi=.int .i64 (n:Nat)) (hmn:m≤n) (hn:n≤l.length) (ht:lJ P t=true) :
 Runs P (Oper.mk d (.slice t x (some lo) (some hi) none) ty ps af g) a w (aE ((l.take n).drop m)):=by
 constructor
 simp [execOp,hx,h1,h2,aE,Instr.sliceAt,Instr.slice,run_underlying (fJ ht),Instr.sliceBounds,Instr.sliceBound,asIntOf,fD,-ByteArray.size_data,hn,hmn,pC]
theorem Runs.dropS {t:TypeId} {x lo:Operand} {l:List UInt8} {m:Nat} (hx:a.eval x=aE l) (h1:a.eval lo=.int .i64 (m:Nat)) (hm:m≤l.length) (ht:lJ P t=true) :
 Runs P (Oper.mk d (.slice t x (some lo) none none) ty ps af g) a w (aE (l.drop m)):=by
 constructor
 simp [execOp,hx,h1,aE,Instr.sliceAt,Instr.slice,run_underlying (fJ ht),Instr.sliceBounds,Instr.sliceBound,asIntOf,fD,-ByteArray.size_data,hm,pC]
theorem Runs.takeS {t:TypeId} {x hi:Operand} {l:List UInt8} {n:Nat} (hx:a.eval x=aE l) (h2:a.eval hi=.int .i64 (n:Nat)) (hn:n≤l.length) (ht:lJ P t=true) :
 Runs P (Oper.mk d (.slice t x none (some hi) none) ty ps af g) a w (aE (l.take n)):=by
 constructor
 simp [execOp,hx,h2,aE,Instr.sliceAt,Instr.slice,run_underlying (fJ ht),Instr.sliceBounds,Instr.sliceBound,asIntOf,fD,-ByteArray.size_data,hn,pC]
def dD (v:Value) (k m n:Nat):Value:=match v with | .slice a _ cap=>.slice (if cap=m then a else a.map (·.add (m*k))) (n - m) (cap - m)|v=>v
theorem Runs.cut {t:TypeId} {x lo hi:Operand} {k m n:Nat} {es:List (List Value)} (h1:a.eval lo=.int .i64 (m:Nat)) (h2:a.eval hi=.int .i64 (n:Nat)) (h:Sl k w (a.eval x) es) (hmn:m≤n) (hn:n≤es.length) (ht:fC P t k=true) :
 Runs P (Oper.mk d (.slice t x (some lo) (some hi) none) ty ps af g) a w (dD (a.eval x) k m n):=by
 obtain ⟨ad,cap,h3,h4,_⟩:=h
 obtain ⟨e,ie,ht,hie,hz⟩:=eO ht
 constructor
 simp [execOp,h3,h1,h2,Instr.sliceAt,Instr.slice,run_underlying ht,Instr.sliceBounds,Instr.sliceBound,asIntOf,sizeOf,typeInfo,hie,hz,hmn,show n≤cap by omega,dD]
theorem Runs.drop {t:TypeId} {x lo:Operand} {k m:Nat} {es:List (List Value)} (h1:a.eval lo=.int .i64 (m:Nat)) (h:Sl k w (a.eval x) es) (hm:m≤es.length) (ht:fC P t k=true) :
 Runs P (Oper.mk d (.slice t x (some lo) none none) ty ps af g) a w (dD (a.eval x) k m es.length):=by
 obtain ⟨ad,cap,h3,h4,_⟩:=h
 obtain ⟨e,ie,ht,hie,hz⟩:=eO ht
 constructor
 simp [execOp,h3,h1,Instr.sliceAt,Instr.slice,run_underlying ht,Instr.sliceBounds,Instr.sliceBound,asIntOf,sizeOf,typeInfo,hie,hz,hm,dD]
theorem Runs.take {t:TypeId} {x hi:Operand} {k n:Nat} {es:List (List Value)} (h2:a.eval hi=.int .i64 (n:Nat)) (h:Sl k w (a.eval x) es) (hn:n≤es.length) (ht:fC P t k=true) :
 Runs P (Oper.mk d (.slice t x none (some hi) none) ty ps af g) a w (dD (a.eval x) k 0 n):=by
 obtain ⟨ad,cap,h3,h4,_⟩:=h
 obtain ⟨e,ie,ht,hie,hz⟩:=eO ht
 constructor
 simp [execOp,h3,h2,Instr.sliceAt,Instr.slice,run_underlying ht,Instr.sliceBounds,Instr.sliceBound,asIntOf,sizeOf,typeInfo,hie,hz,show n≤cap by omega,dD]
theorem Sl.cut {k:Nat} {w:World} {v:Value} {es:List (List Value)} (h:Sl k w v es) {m n:Nat} (hmn:m≤n) (hn:n≤es.length):Sl k w (dD v k m n) ((es.take n).drop m):=by
 obtain ⟨ad,cap,rfl,h4,h5,h6,h7,h8⟩:=h
 have hlen:((es.take n).drop m).length=n - m:=by simp;omega
 refine ⟨_,cap - m,by rw [hlen];rfl,by omega,by omega,fun e he=>h6 e (List.mem_of_mem_take (List.mem_of_mem_drop he)),?_,?_⟩
 ·intro hnone
  split at hnone
  ·omega
  ·have:=h7 (by simpa using hnone);omega
 ·intro hne
  have:m<n:=by
   rcases Nat.lt_or_ge m n with h|h
   ·exact h
   ·exact absurd (List.eq_nil_of_length_eq_zero (by omega)) hne
  obtain ⟨b,o,rfl,hc⟩:=h8 (by rintro rfl;simp at hn;omega)
  refine ⟨b,o+m*k,?_,fun i e j x hi hj=>?_⟩
  ·rw [if_neg (by omega)];simp [cY]
  ·have hi':es[m+i]? = some e:=by
    rw [List.getElem?_drop,List.getElem?_take]at hi
    split at hi
    ·exact hi
    ·cases hi
   have:=hc (m+i) e j x hi' hj
   rw [Nat.add_mul,← Nat.add_assoc]at this
   exact this
theorem fY {ts:List Value} {df:List Deferred} (n:Nat):(Act.mk ts.toArray df).eval (.tmp n)=ts.getD n undef:=by simp [Act.eval]
section
variable {ts:List Value} {df:List Deferred}
theorem Runs.idxT {t:TypeId} {m:Nat} {i:Operand} {k n:Nat} {es:List (List Value)} (hi:(Act.mk ts.toArray df).eval i=.int .i64 (n:Nat)) (h:Sl k w (ts.getD m undef) es) (hn:n<es.length) (ht:fC P t k=true) :
 Runs P (Oper.mk d (.indexAddr t (.tmp m) i) ty ps af g) (Act.mk ts.toArray df) w (cC (ts.getD m undef) (n*k)):=by
 rw [← fY (df:=df)]at h ⊢
 exact Runs.idx hi h hn ht
theorem Runs.fieldT {s:TypeId} {m:Nat} {n off:Nat} {vs:List Value} (h:Pts w (ts.getD m undef) vs) (hf:mY P s n off=true) :
 Runs P (Oper.mk d (.fieldAddr s (.tmp m) n) ty ps af g) (Act.mk ts.toArray df) w (aV (ts.getD m undef) off):=by
 rw [← fY (df:=df)]at h ⊢
 exact Runs.field h hf
theorem Runs.fieldTn {s:TypeId} {m:Nat} {n:Nat} {vs:List Value} (h:Pts w (ts.getD m undef) vs) (hf:mY P s n n=true) :
 Runs P (Oper.mk d (.fieldAddr s (.tmp m) n) ty ps af g) (Act.mk ts.toArray df) w (aV (ts.getD m undef) n):=Runs.fieldT h hf
theorem Runs.cutT {t:TypeId} {x:Nat} {lo hi:Operand} {k m n:Nat} {es:List (List Value)} (h1:(Act.mk ts.toArray df).eval lo=.int .i64 (m:Nat)) (h2:(Act.mk ts.toArray df).eval hi=.int .i64 (n:Nat)) (h:Sl k w (ts.getD x undef) es) (hmn:m≤n) (hn:n≤es.length) (ht:fC P t k=true) :
 Runs P (Oper.mk d (.slice t (.tmp x) (some lo) (some hi) none) ty ps af g) (Act.mk ts.toArray df) w (dD (ts.getD x undef) k m n):=by
 rw [← fY (df:=df)]at h ⊢
 exact Runs.cut h1 h2 h hmn hn ht
theorem Runs.dropT {t:TypeId} {x:Nat} {lo:Operand} {k m:Nat} {es:List (List Value)} (h1:(Act.mk ts.toArray df).eval lo=.int .i64 (m:Nat)) (h:Sl k w (ts.getD x undef) es) (hm:m≤es.length) (ht:fC P t k=true) :
 Runs P (Oper.mk d (.slice t (.tmp x) (some lo) none none) ty ps af g) (Act.mk ts.toArray df) w (dD (ts.getD x undef) k m es.length):=by
 rw [← fY (df:=df)]at h ⊢
 exact Runs.drop h1 h hm ht
theorem Runs.takeT {t:TypeId} {x:Nat} {hi:Operand} {k n:Nat} {es:List (List Value)} (h2:(Act.mk ts.toArray df).eval hi=.int .i64 (n:Nat)) (h:Sl k w (ts.getD x undef) es) (hn:n≤es.length) (ht:fC P t k=true) :
 Runs P (Oper.mk d (.slice t (.tmp x) none (some hi) none) ty ps af g) (Act.mk ts.toArray df) w (dD (ts.getD x undef) k 0 n):=by
 rw [← fY (df:=df)]at h ⊢
 exact Runs.take h2 h hn ht
theorem Runs.loadP {t:TypeId} {m n:Nat} {p v:Value} {vs:List Value} (hx:ts.getD m undef=aV p n) (h:Pts w p vs) (hv:vs[n]? = some v) (hu:iX P t=true) :
 Runs P (Oper.mk d (.load t (.tmp m)) ty ps af g) (Act.mk ts.toArray df) w v:=by
 have h1:=h.part n
 have h2:vs.drop n=v::vs.drop (n+1):=by
  obtain ⟨hlt,he⟩:=List.getElem?_eq_some_iff.1 hv
  rw [List.drop_eq_getElem_cons hlt,he]
 rw [h2,← hx,← fY (df:=df)]at h1
 exact Runs.load h1 hu
theorem Runs.idxTI {t:TypeId} {m:Nat} {i:Operand} {k:Nat} {n:Int} {es:List (List Value)} (hi:(Act.mk ts.toArray df).eval i=.int .i64 n) (h:Sl k w (ts.getD m undef) es) (h0:0≤n) (hn:n.toNat<es.length) (ht:fC P t k=true) :
 Runs P (Oper.mk d (.indexAddr t (.tmp m) i) ty ps af g) (Act.mk ts.toArray df) w (cC (ts.getD m undef) (n.toNat*k)):=by
 obtain ⟨j,rfl⟩:=Int.eq_ofNat_of_zero_le h0
 exact Runs.idxT hi h (by simpa using hn) ht
theorem Runs.idxSI {t:TypeId} {x i:Operand} {l:List UInt8} {n:Int} (hx:(Act.mk ts.toArray df).eval x=aE l) (hi:(Act.mk ts.toArray df).eval i=.int .i64 n) (h0:0≤n) (hn:n.toNat<l.length) (ht:lJ P t=true) :
 Runs P (Oper.mk d (.index t x i) ty ps af g) (Act.mk ts.toArray df) w (.int .u8 ((l.getD n.toNat 0).toNat:Nat)):=by
 obtain ⟨j,rfl⟩:=Int.eq_ofNat_of_zero_le h0
 exact Runs.idxS hx hi (by simpa using hn) ht
theorem Runs.cutSI {t:TypeId} {x lo hi:Operand} {l:List UInt8} {m n:Int} (hx:(Act.mk ts.toArray df).eval x=aE l) (h1:(Act.mk ts.toArray df).eval lo=.int .i64 m) (h2:(Act.mk ts.toArray df).eval hi=.int .i64 n) (h0:0≤m) (hmn:m≤n) (hn:n≤l.length) (ht:lJ P t=true) :
 Runs P (Oper.mk d (.slice t x (some lo) (some hi) none) ty ps af g) (Act.mk ts.toArray df) w (aE ((l.take n.toNat).drop m.toNat)):=by
 obtain ⟨i,rfl⟩:=Int.eq_ofNat_of_zero_le h0
 obtain ⟨j,rfl⟩:=Int.eq_ofNat_of_zero_le (Int.le_trans h0 hmn)
 exact Runs.cutS hx h1 h2 (by omega) (by omega) ht
theorem Runs.dropSI {t:TypeId} {x lo:Operand} {l:List UInt8} {m:Int} (hx:(Act.mk ts.toArray df).eval x=aE l) (h1:(Act.mk ts.toArray df).eval lo=.int .i64 m) (h0:0≤m) (hm:m≤l.length) (ht:lJ P t=true) :
 Runs P (Oper.mk d (.slice t x (some lo) none none) ty ps af g) (Act.mk ts.toArray df) w (aE (l.drop m.toNat)):=by
 obtain ⟨i,rfl⟩:=Int.eq_ofNat_of_zero_le h0
 exact Runs.dropS hx h1 (by omega) ht
theorem Runs.takeSI {t:TypeId} {x hi:Operand} {l:List UInt8} {n:Int} (hx:(Act.mk ts.toArray df).eval x=aE l) (h2:(Act.mk ts.toArray df).eval hi=.int .i64 n) (h0:0≤n) (hn:n≤l.length) (ht:lJ P t=true) :
 Runs P (Oper.mk d (.slice t x none (some hi) none) ty ps af g) (Act.mk ts.toArray df) w (aE (l.take n.toNat)):=by
 obtain ⟨i,rfl⟩:=Int.eq_ofNat_of_zero_le h0
 exact Runs.takeS hx h2 (by omega) ht
theorem Runs.cutTI {t:TypeId} {x:Nat} {lo hi:Operand} {k:Nat} {m n:Int} {es:List (List Value)} (h1:(Act.mk ts.toArray df).eval lo=.int .i64 m) (h2:(Act.mk ts.toArray df).eval hi=.int .i64 n) (h:Sl k w (ts.getD x undef) es) (h0:0≤m) (hmn:m≤n) (hn:n≤es.length) (ht:fC P t k=true) :
 Runs P (Oper.mk d (.slice t (.tmp x) (some lo) (some hi) none) ty ps af g) (Act.mk ts.toArray df) w (dD (ts.getD x undef) k m.toNat n.toNat):=by
 obtain ⟨i,rfl⟩:=Int.eq_ofNat_of_zero_le h0
 obtain ⟨j,rfl⟩:=Int.eq_ofNat_of_zero_le (Int.le_trans h0 hmn)
 exact Runs.cutT h1 h2 h (by omega) (by omega) ht
theorem Runs.dropTI {t:TypeId} {x:Nat} {lo:Operand} {k:Nat} {m:Int} {es:List (List Value)} (h1:(Act.mk ts.toArray df).eval lo=.int .i64 m) (h:Sl k w (ts.getD x undef) es) (h0:0≤m) (hm:m≤es.length) (ht:fC P t k=true) :
 Runs P (Oper.mk d (.slice t (.tmp x) (some lo) none none) ty ps af g) (Act.mk ts.toArray df) w (dD (ts.getD x undef) k m.toNat es.length):=by
 obtain ⟨i,rfl⟩:=Int.eq_ofNat_of_zero_le h0
 exact Runs.dropT h1 h (by omega) ht
theorem Runs.takeTI {t:TypeId} {x:Nat} {hi:Operand} {k:Nat} {n:Int} {es:List (List Value)} (h2:(Act.mk ts.toArray df).eval hi=.int .i64 n) (h:Sl k w (ts.getD x undef) es) (h0:0≤n) (hn:n≤es.length) (ht:fC P t k=true) :
 Runs P (Oper.mk d (.slice t (.tmp x) none (some hi) none) ty ps af g) (Act.mk ts.toArray df) w (dD (ts.getD x undef) k 0 n.toNat):=by
 obtain ⟨i,rfl⟩:=Int.eq_ofNat_of_zero_le h0
 exact Runs.takeT h2 h (by omega) ht
theorem Runs.convB {s t:TypeId} {x:Operand} {c:UInt8} (hx:(Act.mk ts.toArray df).eval x=.int .u8 (c.toNat:Nat)) (hu:wP P s .u8=true) (ht:wP P t .i64=true) :
 Runs P (Oper.mk d (.convert s t x) ty ps af g) (Act.mk ts.toArray df) w (.int .i64 (c.toNat:Nat)) :=
 Runs.convI hx hu ht (IntWalk.i64_in _ (by have:=c.toNat_lt;omega))
theorem Runs.pickT {c x y:Nat} {b:Bool} (h:ts.getD c undef=.bool b):Runs P (Oper.mk d (.pick (.tmp c) (.tmp x) (.tmp y)) ty ps af g) (Act.mk ts.toArray df) w (if b then ts.getD x undef else ts.getD y undef):=by
 rw [← fY (df:=df),← fY (df:=df) y]
 exact Runs.pick (by rw [fY];exact h)
theorem Runs.pickTC {c x:Nat} {u:Value} {b:Bool} (h:ts.getD c undef=.bool b):Runs P (Oper.mk d (.pick (.tmp c) (.tmp x) (.const u)) ty ps af g) (Act.mk ts.toArray df) w (if b then ts.getD x undef else u):=by
 rw [← fY (df:=df)]
 exact Runs.pick (y:=.const u) (by rw [fY];exact h)
theorem Runs.pickCT {c y:Nat} {u:Value} {b:Bool} (h:ts.getD c undef=.bool b):Runs P (Oper.mk d (.pick (.tmp c) (.const u) (.tmp y)) ty ps af g) (Act.mk ts.toArray df) w (if b then u else ts.getD y undef):=by
 rw [← fY (df:=df)]
 exact Runs.pick (x:=.const u) (by rw [fY];exact h)
end
end
def EQ:Value→Nat | .string b=>b.size|_=>0
theorem yW (l:List UInt8):EQ (aE l)=l.length:=by simp [EQ,aE,fD,-ByteArray.size_data]
def kZ (w:World) (R:Value→World→Prop) (e:Ending) (w':World):Prop:=∃ v,e=.returned v∧Ext w w'∧R v w'
def bC (w:World) (v:Value) (e:Ending) (w':World):Prop:=e=.returned v∧Ext w w'
section
variable {P:Program} {ops:Array Oper} {Q:Exit→Act→World→Prop} {w:World} {rest:List Oper} {ts:List Value} {df:List Deferred} {d:Nat} {ty:TypeId} {ps:String} {af:Array Edge} {g:Option (Nat×Bool)} {tys:Array TypeId}
theorem bF {f:FuncId} {xs:List Operand} {vs:List Value} {R:Ending→World→Prop} (he:Enters P f) (hw:Region.wanted (Oper.mk (some d) (.call ⟨.value (.func f),xs.toArray,tys⟩) ty ps af g) (yielded ops ts.toArray)=true)
 (hxs:xs.map (Act.mk ts.toArray df).eval=vs) (hc:Calls P f vs.toArray w R) (h:∀ e w',R e w'→∃ v,e=.returned v∧wpList P ops Q rest (Act.mk (ts.set d v).toArray df) w') :
 wpList P ops Q (Oper.mk (some d) (.call ⟨.value (.func f),xs.toArray,tys⟩) ty ps af g::rest) (Act.mk ts.toArray df) w:=by
 subst hxs
 unfold wpList
 rw [if_pos hw]
 refine .inl ?_
 unfold Oper.wp
 have hr:(execOp (Act.mk ts.toArray df).eval (Oper.mk (some d) (.call ⟨.value (.func f),xs.toArray,tys⟩) ty ps af g)).run P w=.ok (.enter f (xs.map (Act.mk ts.toArray df).eval).toArray) w:=by
  have h1:=he (xs.map (Act.mk ts.toArray df).eval).toArray w
  simpa [execOp,resolve,Act.eval,Deferred.ofValue,invoke]using h1
 rw [hr]
 refine hc.mono fun e w' h'=>?_
 obtain ⟨v,rfl,hk⟩:=h e w' h'
 simpa [Act.put]using hk
theorem bK {f:FuncId} {xs:List Operand} {vs:List Value} {v:Value} (he:Enters P f) (hw:Region.wanted (Oper.mk (some d) (.call ⟨.value (.func f),xs.toArray,tys⟩) ty ps af g) (yielded ops ts.toArray)=true)
 (hxs:xs.map (Act.mk ts.toArray df).eval=vs) (hc:Calls P f vs.toArray w (bC w v)) (h:∀ w',Ext w w'→wpList P ops Q rest (Act.mk (ts.set d v).toArray df) w') :
 wpList P ops Q (Oper.mk (some d) (.call ⟨.value (.func f),xs.toArray,tys⟩) ty ps af g::rest) (Act.mk ts.toArray df) w :=
 bF he hw hxs hc fun e w' ⟨h1,h2⟩=>⟨v,h1,h w' h2⟩
theorem fV {f:FuncId} {xs:List Operand} {vs:List Value} {R:Value→World→Prop} (he:Enters P f) (hw:Region.wanted (Oper.mk (some d) (.call ⟨.value (.func f),xs.toArray,tys⟩) ty ps af g) (yielded ops ts.toArray)=true)
 (hxs:xs.map (Act.mk ts.toArray df).eval=vs) (hc:Calls P f vs.toArray w (kZ w R)) (h:∀ v w',Ext w w'→R v w'→wpList P ops Q rest (Act.mk (ts.set d v).toArray df) w') :
 wpList P ops Q (Oper.mk (some d) (.call ⟨.value (.func f),xs.toArray,tys⟩) ty ps af g::rest) (Act.mk ts.toArray df) w :=
 bF he hw hxs hc fun e w' ⟨v,h1,h2,h3⟩=>⟨v,h1,h v w' h2 h3⟩
theorem rN {t:TypeId} {k:Nat} (hs:(P.info? t).map (·.size)=some k):∃ i,P.info? t=some i∧i.size=k:=Option.map_eq_some_iff.1 hs
theorem UL {t:TypeId} {x:Operand} {vs:List Value} (hw:Region.wanted (Oper.mk (some d) (.box t x) ty ps af g) (yielded ops ts.toArray)=true) (hx:((Act.mk ts.toArray df).eval x).cells=vs.toArray)
 (h:∀ p w',Ext w w'→Pts w' p vs→wpList P ops Q rest (Act.mk (ts.set d p).toArray df) w'):wpList P ops Q (Oper.mk (some d) (.box t x) ty ps af g::rest) (Act.mk ts.toArray df) w:=by
 unfold wpList
 rw [if_pos hw]
 refine .inl ?_
 unfold Oper.wp
 have hr:(execOp (Act.mk ts.toArray df).eval (Oper.mk (some d) (.box t x) ty ps af g)).run P w=.ok (.value (.pointer (some ⟨w.heap.size,0,none⟩))) (w.alloc (.cells vs.toArray t)):=by
  simp [execOp,Instr.box,newVar,newRow,hx]
 rw [hr]
 have:=h (.pointer (some ⟨w.heap.size,0,none⟩)) (w.alloc (.cells vs.toArray t)) (Ext.alloc _ _) ⟨_,_,rfl,fun j x hj=>by rw [Nat.zero_add,World.cell?_alloc_new];simpa using hj⟩
 simpa [Oper.upon,Act.put]using this
theorem PP {t:TypeId} {x:Operand} {vs:List Value} (hw:Region.wanted (Oper.mk (some d) (.box t x) ty ps af g) (yielded ops ts.toArray)=true) (hx:((Act.mk ts.toArray df).eval x).cells=vs.toArray)
 (h:∀ w',Ext w w'→w'.heap.size=w.heap.size+1→w'.heap[w.heap.size]? = some (.cells vs.toArray t (0,0))→wpList P ops Q rest (Act.mk (ts.set d (.pointer (some ⟨w.heap.size,0,none⟩))).toArray df) w'):wpList P ops Q (Oper.mk (some d) (.box t x) ty ps af g::rest) (Act.mk ts.toArray df) w:=by
 unfold wpList
 rw [if_pos hw]
 refine .inl ?_
 unfold Oper.wp
 have hr:(execOp (Act.mk ts.toArray df).eval (Oper.mk (some d) (.box t x) ty ps af g)).run P w=.ok (.value (.pointer (some ⟨w.heap.size,0,none⟩))) (w.alloc (.cells vs.toArray t)):=by
  simp [execOp,Instr.box,newVar,newRow,hx]
 rw [hr]
 have:=h (w.alloc (.cells vs.toArray t)) (Ext.alloc _ _) (by simp) (heap_alloc_new w _)
 simpa [Oper.upon,Act.put]using this
theorem Runs.func1 {fn:Fn} {m:Nat} {df:List Deferred} {ts:List Value} {d:Option Nat}:Runs P (Oper.mk d (.makeFunc fn #[] #[.tmp m]) ty ps af g) (Act.mk ts.toArray df) w (.func fn #[] #[ts.getD m undef]) :=
 ⟨by simp [execOp,Instr.makeFunc,Act.eval]⟩
theorem Runs.func0 {fn:Fn} {df:List Deferred} {ts:List Value} {d:Option Nat}:Runs P (Oper.mk d (.makeFunc fn #[] #[]) ty ps af g) (Act.mk ts.toArray df) w (.func fn #[] #[]) :=
 ⟨by simp [execOp,Instr.makeFunc]⟩
theorem Runs.func2 {fn:Fn} {m n:Nat} {df:List Deferred} {ts:List Value} {d:Option Nat}:Runs P (Oper.mk d (.makeFunc fn #[] #[.tmp m, .tmp n]) ty ps af g) (Act.mk ts.toArray df) w (.func fn #[] #[ts.getD m undef,ts.getD n undef]) :=
 ⟨by simp [execOp,Instr.makeFunc,Act.eval]⟩
theorem Runs.func3 {fn:Fn} {m n q:Nat} {df:List Deferred} {ts:List Value} {d:Option Nat}:Runs P (Oper.mk d (.makeFunc fn #[] #[.tmp m, .tmp n, .tmp q]) ty ps af g) (Act.mk ts.toArray df) w (.func fn #[] #[ts.getD m undef,ts.getD n undef,ts.getD q undef]) :=
 ⟨by simp [execOp,Instr.makeFunc,Act.eval]⟩
theorem sK {w:World} {g:Nat} {t ty:TypeId} {old:Array Value} {v:Value} (hg:w.heap[g]? = some (.cells old t (0,0))) (hi:(P.info? ty).map (·.size)=some v.cells.size)
 (ho:old.size=v.cells.size) (h1:v.cells.all (·.oneCell')=true):(storeVar ty ⟨g,0,none⟩ v).run P w=.ok () (w.setRow g v.cells):=by
 have:=run_storeCells_from (P:=P) g t v.cells.toList 0 old w hg (by simp;omega) (fun u hu=>(Array.all_eq_true_iff_forall_mem.1 h1) u (by simpa using hu))
 obtain ⟨i,hq,hs⟩:=rN hi
 simp [storeVar,sizeOf,typeInfo,hq,hs,this]
theorem ER {C:World→Prop} {QQ:Act→Prop} {v:Value} {op:Op} (hw:Region.wanted (Oper.mk (some d) op ty ps af g) (yielded ops ts.toArray)=true) (hr:∀ w,C w→Runs P (Oper.mk (some d) op ty ps af g) (Act.mk ts.toArray df) w v)
 (h:wpQuiet P ops C QQ rest (Act.mk (ts.set d v).toArray df)):wpQuiet P ops C QQ (Oper.mk (some d) op ty ps af g::rest) (Act.mk ts.toArray df):=by
 unfold wpQuiet
 rw [if_pos hw]
 refine ⟨v,fun w hc=>?_,by simpa [Act.put]using h⟩
 unfold Oper.quietAt
 rw [(hr w hc).run]
 exact ⟨rfl,rfl⟩
theorem HA {C:World→Prop} {QQ:Act→Prop} {op:Op} (hw:Region.wanted (Oper.mk (some d) op ty ps af g) (yielded ops ts.toArray)=false)
 (h:wpQuiet P ops C QQ rest (Act.mk (ts.set d undef).toArray df)):wpQuiet P ops C QQ (Oper.mk (some d) op ty ps af g::rest) (Act.mk ts.toArray df):=by
 unfold wpQuiet
 rw [if_neg (by simp [hw])]
 simpa [Act.put]using h
theorem hO {w0:World} {QQ:Act→Prop} {f:FuncId} {xs:List Operand} {vs:List Value} {v:Value} (he:Enters P f) (hw:Region.wanted (Oper.mk (some d) (.call ⟨.value (.func f),xs.toArray,tys⟩) ty ps af g) (yielded ops ts.toArray)=true)
 (hxs:xs.map (Act.mk ts.toArray df).eval=vs) (hc:∀ w,Ext w0 w→Calls P f vs.toArray w (bC w v)) (h:wpQuiet P ops (Ext w0) QQ rest (Act.mk (ts.set d v).toArray df)) :
 wpQuiet P ops (Ext w0) QQ (Oper.mk (some d) (.call ⟨.value (.func f),xs.toArray,tys⟩) ty ps af g::rest) (Act.mk ts.toArray df):=by
 subst hxs
 unfold wpQuiet
 rw [if_pos hw]
 refine ⟨v,fun w hx=>?_,by simpa [Act.put]using h⟩
 have hr:(execOp (Act.mk ts.toArray df).eval (Oper.mk (some d) (.call ⟨.value (.func f),xs.toArray,tys⟩) ty ps af g)).run P w=.ok (.enter f (xs.map (Act.mk ts.toArray df).eval).toArray) w:=by
  have h1:=he (xs.map (Act.mk ts.toArray df).eval).toArray w
  simpa [execOp,resolve,Act.eval,Deferred.ofValue,invoke]using h1
 unfold Oper.quietAt
 rw [hr]
 exact ⟨rfl,(hc w hx).mono fun e w' ⟨h1,h2⟩=>⟨h1,hx.trans h2⟩⟩
theorem LU {C:World→Prop} {QQ:Act→Prop} {a:Act} (h:QQ a):wpQuiet P ops C QQ [] a:=h
theorem dA {id:Nat} {Q:Exit→Act→World→Prop} {a:Act} {w:World} {l:List Oper} (hm:P.follows .mixedOrders=true) (hB:Region.lexB .any l.toArray=true)
 (h:wpQuiet P l.toArray (Ext w) (fun a'=>∀ w',Ext w w'→Q .normal a' w') l a):(Code.region id l.toArray true).wp P Q a w :=
 wp_region_quiet (C:=Ext w) hm hB (Ext.drew w) (by simpa using h)
end
structure Mv (row:Option Nat) (w w':World):Prop where
 os:w'.os=w.os
 tape:w'.tape=w.tape
 output:w'.output=w.output
 size:w.heap.size≤w'.heap.size
 block:∀ k,k<w.heap.size→some k≠row→w'.heap[k]? = w.heap[k]?
 drawn:w.drawn≤w'.drawn
theorem Mv.refl (row:Option Nat) (w:World):Mv row w w:=⟨rfl,rfl,rfl,Nat.le_refl _,fun _ _ _=>rfl,Nat.le_refl _⟩
theorem Ext.mv {w w':World} (h:Ext w w') (row:Option Nat):Mv row w w':=⟨h.os,h.tape,h.output,h.size,fun k hk _=>h.block k hk,h.drawn⟩
theorem Ext.move {w0 w w':World} {row:Option Nat} (h:Ext w0 w) (hm:Mv row w w') (hr:∀ k,row=some k→w0.heap.size≤k):Ext w0 w' :=
 ⟨hm.os.trans h.os,hm.tape.trans h.tape,hm.output.trans h.output,Nat.le_trans h.size hm.size,
  fun i hi=>(hm.block i (Nat.lt_of_lt_of_le hi h.size) (fun e=>by have:=hr i e.symm;omega)).trans (h.block i hi),Nat.le_trans h.drawn hm.drawn⟩
theorem Mv.trans {row:Option Nat} {a b c:World} (h:Mv row a b) (k:Mv row b c):Mv row a c :=
 ⟨k.os.trans h.os,k.tape.trans h.tape,k.output.trans h.output,Nat.le_trans h.size k.size,
  fun i hi hr=>(k.block i (Nat.lt_of_lt_of_le hi h.size) hr).trans (h.block i hi hr),Nat.le_trans h.drawn k.drawn⟩
theorem Mv.at {row:Option Nat} {w w':World} (h:Mv row w w') {k:Nat} {o:Obj} (hk:w.heap[k]? = some o) (hne:some k≠row):w'.heap[k]? = some o :=
 (h.block k (Array.getElem?_eq_some_iff.1 hk).1 hne).trans hk
theorem Ext.at {w w':World} (h:Ext w w') {k:Nat} {o:Obj} (hk:w.heap[k]? = some o):w'.heap[k]? = some o :=
 (h.block k (Array.getElem?_eq_some_iff.1 hk).1).trans hk
structure Put (w w':World) (b:Nat) (o:Obj):Prop where
 os:w'.os=w.os
 tape:w'.tape=w.tape
 output:w'.output=w.output
 size:w'.heap.size=w.heap.size
 this:w'.heap[b]? = some o
 other:∀ k,k≠b→w'.heap[k]? = w.heap[k]?
 drawn:w'.drawn=w.drawn
theorem Put.mv {w w':World} {b:Nat} {o:Obj} (h:Put w w' b o):Mv (some b) w w' :=
 ⟨h.os,h.tape,h.output,Nat.le_of_eq h.size.symm,fun k _ hk=>h.other k (fun e=>hk (by rw [e])),Nat.le_of_eq h.drawn.symm⟩
theorem fK {w:World} {b:Nat} {o o':Obj} (h:w.heap[b]? = some o):Put w (w.putObj b o') b o' :=
 ⟨rfl,rfl,rfl,World.putObj_size,World.putObj_heap_same (Array.getElem?_eq_some_iff.1 h).1,fun k hk=>World.putObj_heap_other hk,rfl⟩
theorem aA {w:World} {b:Nat} {cs:List Value} {t:TypeId} {fr:Nat×Nat} (h:w.heap[b]? = some (.cells cs.toArray t fr)):Pts w (.pointer (some ⟨b,0,none⟩)) cs :=
 ⟨b,0,rfl,fun j x hj=>by rw [Nat.zero_add,cell_of_row w b j _ t fr h];simpa using hj⟩
section
variable {P:Program} {ops:Array Oper} {Q:Exit→Act→World→Prop} {w:World} {rest:List Oper} {ts:List Value} {df:List Deferred} {ty:TypeId} {ps:String} {af:Array Edge} {g:Option (Nat×Bool)}
theorem iP {o:Oper} {a:Act} {w':World} (hw:Region.wanted o (yielded ops a.tmps)=true) (hr:(execOp a.eval o).run P w=.ok .skip w') (h:wpList P ops Q rest (a.put o.dst undef) w'):wpList P ops Q (o::rest) a w:=by
 unfold wpList
 rw [if_pos hw]
 refine .inl ?_
 unfold Oper.wp
 rw [hr]
 exact h
theorem xZ {t ty:TypeId} {b:Nat} {old:Array Value} {v:Value} (hb:w.heap[b]? = some (.cells old t (0,0))) (hs:(P.info? ty).map (·.size)=some v.cells.size) (ho:old.size=v.cells.size) (h1:v.cells.all (·.oneCell')=true) :
 ∃ w',(storeVar ty ⟨b,0,none⟩ v).run P w=.ok () w'∧Put w w' b (.cells v.cells t (0,0)) :=
 ⟨_,sK hb hs ho h1,rfl,rfl,rfl,by simp,setRow_heap w b old _ t _ hb,fun k hk=>setRow_other w b k _ hk,rfl⟩
theorem dB {t ty:TypeId} {x y:Operand} {b:Nat} {old:Array Value} {v:Value} {ty2:TypeId} (hw:Region.wanted (Oper.mk none (.store ty x y) ty2 ps af g) (yielded ops ts.toArray)=true)
 (hx:(Act.mk ts.toArray df).eval x=.pointer (some ⟨b,0,none⟩)) (hy:(Act.mk ts.toArray df).eval y=v) (hb:w.heap[b]? = some (.cells old t (0,0))) (hs:dG P ty v.cells.size=true) (ho:old.size=v.cells.size) (h1:v.cells.all (·.oneCell')=true)
 (h:∀ w',Put w w' b (.cells v.cells t (0,0))→wpList P ops Q rest (Act.mk ts.toArray df) w'):wpList P ops Q (Oper.mk none (.store ty x y) ty2 ps af g::rest) (Act.mk ts.toArray df) w:=by
 obtain ⟨w',hr,hp⟩:=xZ (P:=P) hb (iO hs) ho h1
 refine iP hw (w':=w') ?_ (h w' hp)
 simp [execOp,hx,hy,Instr.storeAt,Instr.sureAddr,hr]
theorem eA {t ty:TypeId} {x y:Operand} {b:Nat} {old v:Value} {ty2:TypeId} (hw:Region.wanted (Oper.mk none (.store ty x y) ty2 ps af g) (yielded ops ts.toArray)=true)
 (hx:(Act.mk ts.toArray df).eval x=.pointer (some ⟨b,0,none⟩)) (hy:(Act.mk ts.toArray df).eval y=v) (hb:w.heap[b]? = some (.cells #[old] t (0,0))) (hs:dG P ty 1=true) (h1:v.oneCell'=true)
 (h:∀ w',Put w w' b (.cells #[v] t (0,0))→wpList P ops Q rest (Act.mk ts.toArray df) w'):wpList P ops Q (Oper.mk none (.store ty x y) ty2 ps af g::rest) (Act.mk ts.toArray df) w:=by
 have hc:v.cells=#[v]:=by cases v<;>first|rfl|cases h1
 exact dB hw hx hy hb (by rw [hc];exact hs) (by rw [hc];rfl) (by rw [hc];simpa using h1) (by rw [hc];exact h)
theorem JU {t:TypeId} {d:Nat} {z:List Value} (hw:Region.wanted (Oper.mk (some d) (.alloc t) ty ps af g) (yielded ops ts.toArray)=true) (hz:yU P t z=true)
 (h:∀ w',Ext w w'→w'.heap.size=w.heap.size+1→w'.heap[w.heap.size]? = some (.cells z.toArray t (0,0))→wpList P ops Q rest (Act.mk (ts.set d (.pointer (some ⟨w.heap.size,0,none⟩))).toArray df) w') :
 wpList P ops Q (Oper.mk (some d) (.alloc t) ty ps af g::rest) (Act.mk ts.toArray df) w:=by
 obtain ⟨i,zv,hq,hzi,hzc⟩:=wO hz
 unfold wpList
 rw [if_pos hw]
 refine .inl ?_
 unfold Oper.wp
 have hr:(execOp (Act.mk ts.toArray df).eval (Oper.mk (some d) (.alloc t) ty ps af g)).run P w=.ok (.value (.pointer (some ⟨w.heap.size,0,none⟩))) (w.alloc (.cells z.toArray t)):=by
  simp [execOp,Instr.alloc,zeroValue,typeInfo,hq,hzi,newVar,newRow,hzc]
 rw [hr]
 have:=h (w.alloc (.cells z.toArray t)) (Ext.alloc _ _) (by simp) (heap_alloc_new w _)
 simpa [Oper.upon,Act.put]using this
end
def oG (w:World) (base:Nat) (e:TypeId) (size:Nat) (v:Value) (n:Nat) (xs:List Value):Prop :=
 xs.length=n*size ∧
 ((v=.slice none 0 0∧n=0) ∨
  ∃ g cap cur fz,v=.slice (some ⟨g,0,none⟩) n cap∧base≤g∧w.heap[g]? = some (.cells cur e fz)∧(fz.2≤fz.1∨cur.size≤fz.1)∧n≤cap∧cap≤maxLen∧cur.size=cap*size∧cur.toList.take (n*size)=xs)
theorem mZ {w:World} {base:Nat} {e:TypeId} {size:Nat} {v:Value} {n:Nat} {xs:List Value} (h:w.ownsRow base e size v n xs):oG w base e size v n xs :=
 ⟨h.1,h.2.imp id fun ⟨g,cap,cur,hv,hb,hg,r⟩=>⟨g,cap,cur,(0,0),hv,hb,hg, .inl (Nat.le_refl _),r⟩⟩
theorem HB {w:World} {base:Nat} {e:TypeId} {size:Nat} {v:Value} {n:Nat} {xs:List Value} (h:oG w base e size v n xs):∀ r,v.ownBlock=some r→base≤r∧r<w.heap.size:=by
 intro r hr
 rcases h.2 with ⟨rfl,_⟩|⟨g,cap,cur,fz,rfl,hb,hg,_⟩
 ·simp [Value.ownBlock]at hr
 ·simp [Value.ownBlock]at hr;subst hr
  exact ⟨hb,(Array.getElem?_eq_some_iff.1 hg).1⟩
theorem sM {w:World} {g j:Nat} {cur:Array Value} {e:TypeId} {fz:Nat×Nat} (hg:w.heap[g]? = some (.cells cur e fz)) (hfz:fz.2≤fz.1∨cur.size≤fz.1) (hj:j<cur.size):w.frozen? ⟨g,j,none⟩=false:=by
 obtain ⟨lo,hi⟩:=fz
 simp only [World.frozen?,hg,Bool.and_eq_false_iff,decide_eq_false_iff_not]
 simp only at hfz
 omega
theorem eC (P:Program) (g o:Nat) (t:TypeId) (fz:Nat×Nat):∀ (vs:List Value) (i:Nat) (cur:Array Value) (w:World),w.heap[g]? = some (.cells cur t fz)→(fz.2≤fz.1∨cur.size≤fz.1)→o+i+vs.length≤cur.size→(∀ v∈vs,v.oneCell'=true) →
 (storeCells ⟨g,o,none⟩ vs i).run P w=.ok () (w.setRow g (cur.toList.take (o+i)++vs++cur.toList.drop (o+i+vs.length)).toArray)
 | [],i,cur,w,hg,_,_,_=>by
   simp only [storeCells,List.append_nil,List.length_nil,Nat.add_zero,List.take_append_drop,Array.toArray_toList]
   rw [setRow_self w g cur t fz hg]
   rfl
 | v::rest,i,cur,w,hg,hfz,hl,h1=>by
   have hi:o+i<cur.size:=by simp at hl;omega
   have hadd:(⟨g,o,none⟩:Addr).add i=⟨g,o+i,none⟩:=by unfold Addr.add;split<;>simp_all
   have hcell:w.cell? ⟨g,o+i,none⟩=some cur[o+i]:=by simp [World.cell?,hg,hi]
   have hfro:w.frozen? ⟨g,o+i,none⟩=false:=sM hg hfz hi
   have hst:(store ((⟨g,o,none⟩:Addr).add i) v).run P w=.ok () (w.setRow g (cur.setIfInBounds (o+i) v)):=by
    rw [hadd,run_store P w _ v _ (h1 v (by simp)),hcell]
    simp [hfro,setCell_eq_setRow w g (o+i) cur t fz v hg]
   have ih:=eC P g o t fz rest (i+1) (cur.setIfInBounds (o+i) v) (w.setRow g (cur.setIfInBounds (o+i) v)) (setRow_heap w g cur _ t _ hg) (by simpa using hfz) (by simp at hl ⊢;omega) (fun x hx=>h1 x (by simp [hx]))
   simp only [storeCells,Sem.run_bind,hst,Result.andThen_ok,ih,setRow_setRow]
   congr 3
   have e:=list_seg_step cur.toList (o+i) v rest (by simp at hl ⊢;omega)
   simpa [Array.toList_setIfInBounds,Nat.add_assoc]using e
theorem oH {P:Program} (w:World) (t ty e:TypeId) (i:TypeInfo) (ht:P.underlying t=some (.slice e)) (hi:P.info? e=some i)
 (g sLen sCap:Nat) (cur:Array Value) (fz:Nat×Nat) (hg:w.heap[g]? = some (.cells cur e fz)) (hfz:fz.2≤fz.1∨cur.size≤fz.1)
 (a:Addr) (m c:Nat) (news:List Value) (hl:news.length=m*i.size) (hnews:∀ j u,news[j]? = some u→w.cell? (a.add j)=some u) (h1:∀ u∈news,u.oneCell'=true)
 (hroom:sLen+m≤sCap) (hfit:sLen*i.size+news.length≤cur.size) :
 (Builtin.append_ #[t,t] ty #[.slice (some ⟨g,0,none⟩) sLen sCap, .slice (some a) m c]).run P w =
   .ok (.slice (some ⟨g,0,none⟩) (sLen+m) sCap) (w.setRow g (cur.toList.take (sLen*i.size)++news++cur.toList.drop (sLen*i.size+news.length)).toArray):=by
 have hf:=run_firstCells_some (P:=P) w i.size m a m c news hl hnews
 have hst:=eC P g (sLen*i.size) e fz news 0 cur w hg hfz (by simpa using hfit) h1
 simp only [Nat.add_zero]at hst
 simp [Builtin.append_,run_underlying ht,sizeOf,typeInfo,hi,Builtin.lenOf,hroom,hf,Addr.add_lit,hst]
theorem tP {P:Program} (w:World) (base:Nat) (t ty e:TypeId) (i:TypeInfo) (z:Value) (size bytes:Nat) (ht:P.underlying t=some (.slice e)) (hi:P.info? e=some i) (hz:i.zero=some z)
 (hsize:i.size=size) (hby:i.bytes=bytes) (hzs:z.cells.size=size) (hsz:0<size)
 (v:Value) (n:Nat) (xs:List Value) (hown:oG w base e size v n xs)
 (a:Addr) (m c:Nat) (news:List Value) (hl:news.length=m*size) (hnews:∀ j u,news[j]? = some u→w.cell? (a.add j)=some u) (h1:∀ u∈news,u.oneCell'=true)
 (h63:n+m≤maxLen) (hbytes:(n+m)*bytes≤140737488355328) (hbase:base≤w.heap.size) :
 ∃ v' w',(Builtin.append_ #[t,t] ty #[v, .slice (some a) m c]).run P w=.ok v' w'∧oG w' base e size v' (n+m) (xs++news)∧Mv v.ownBlock w w'∧(v'.ownBlock=v.ownBlock∨v'.ownBlock=some w.heap.size):=by
 rcases hown.2 with ⟨rfl,rfl⟩|⟨g,cap,cur,fz,rfl,hbg,hg,hfz,hnc,hcm,hcs,htake⟩
 ·subst hsize
  subst hby
  have hx:xs=[]:=List.eq_nil_of_length_eq_zero (by rw [hown.1];simp)
  subst hx
  by_cases hm0:m=0
  ·subst hm0
   have hn:news=[]:=List.eq_nil_of_length_eq_zero (by rw [hl];simp)
   subst hn
   refine ⟨.slice none 0 0,w,?_,by simpa using hown,Mv.refl _ _, .inl rfl⟩
   simp [Builtin.append_,run_underlying ht,sizeOf,typeInfo,hi,Builtin.lenOf,Builtin.firstCells,loadCells,loadCellsFrom]
  ·have hr:=run_append_nil (P:=P) w t ty e i z ht hi hz a m c news hl hnews (by omega) (by simp only [maxLen]at h63;omega) (by have hb:=hbytes;simp only [Nat.zero_add]at hb;omega)
   have hge:=grownCap_ge w m 0 e
   have hcm':grownCap w m 0 e≤maxLen:=grownCap_le_maxLen w m 0 e (by simpa using h63)
   refine ⟨_,_,hr,⟨by simpa using hl, .inr ⟨w.heap.size,grownCap w m 0 e,_,(0,0),by simp,hbase,heap_alloc_new w.drew _, .inl (Nat.le_refl _),by simpa using hge,hcm',?_,?_⟩⟩,⟨rfl,rfl,rfl,by simp,fun k hk _=>(Ext.alloc w.drew _).block k hk,Nat.le_succ _⟩, .inr rfl⟩
   ·simp only [Array.size_append,List.size_toArray,size_zeroCells,hzs,hl,← Nat.add_mul]
    congr 1
    omega
   ·simp only [Array.toList_append,List.nil_append,Nat.zero_add,← hl]
    exact List.take_left
 ·subst hsize
  subst hby
  have hsmall:n+m≤9223372036854775807:=by simp only [maxLen]at h63;omega
  have hlen:(xs++news).length=(n+m)*i.size:=by rw [List.length_append,hown.1,hl,Nat.add_mul]
  by_cases hroom:n+m≤cap
  ·have hfit:n*i.size+news.length≤cur.size:=by rw [hl,hcs,← Nat.add_mul];exact Nat.mul_le_mul_right _ hroom
   have hr:=oH (P:=P) w t ty e i ht hi g n cap cur fz hg hfz a m c news hl hnews h1 hroom hfit
   refine ⟨_,_,hr,⟨hlen, .inr ⟨g,cap,_,fz,rfl,hbg,setRow_heap w g cur _ e _ hg,?_,hroom,hcm,?_,?_⟩⟩,⟨rfl,rfl,rfl,by simp,fun k _ hk=>setRow_other w g k _ (fun e=>hk (by simp [Value.ownBlock,e])),Nat.le_refl _⟩, .inl rfl⟩
   ·simp only [List.size_toArray,List.length_append,List.length_take,List.length_drop,Array.length_toList]
    omega
   ·simp only [List.size_toArray,List.length_append,List.length_take,List.length_drop,Array.length_toList]
    omega
   ·rw [htake,← hlen]
    exact List.take_left
  ·have holds:∀ j u,xs[j]? = some u→w.cell? ((⟨g,0,none⟩:Addr).add j)=some u:=by
    intro j u hj
    rw [cY,cell_of_row w g _ cur _ fz hg]
    rw [← htake,List.getElem?_take]at hj
    split at hj
    ·rw [Nat.zero_add];simpa using hj
    ·cases hj
   have hr:=run_append_grow (P:=P) w t ty e i z ht hi hz ⟨g,0,none⟩ n cap xs hown.1 holds a m c news hl hnews (by omega) (by omega) (growslice_fits (by omega) hbytes)
   have hge:=grownCap_ge w (n+m) cap e
   have hcm':grownCap w (n+m) cap e≤maxLen:=grownCap_le_maxLen w (n+m) cap e h63
   refine ⟨_,_,hr,⟨hlen, .inr ⟨w.heap.size,_,_,(0,0),rfl,hbase,heap_alloc_new w.drew _, .inl (Nat.le_refl _),hge,hcm',?_,?_⟩⟩,⟨rfl,rfl,rfl,by simp,fun k hk _=>(Ext.alloc w.drew _).block k hk,Nat.le_succ _⟩, .inr rfl⟩
   ·simp only [Array.size_append,List.size_toArray,size_zeroCells,hzs,hown.1,hl,← Nat.add_mul]
    congr 1
    omega
   ·simp only [Array.toList_append,List.append_assoc]
    rw [← List.append_assoc,← hlen]
    exact List.take_left
theorem tQ {P:Program} {w:World} {base:Nat} {t ty e:TypeId} {i:TypeInfo} {size:Nat} (ht:P.underlying t=some (.slice e)) (hi:P.info? e=some i)
 {v:Value} {n:Nat} {xs:List Value} (hown:oG w base e size v n xs) :
 (Builtin.append_ #[t,t] ty #[v, .slice none 0 0]).run P w=.ok v w:=by
 rcases hown.2 with ⟨rfl,rfl⟩|⟨g,cap,cur,fz,rfl,_,_,_,hnc,_⟩
 ·simp [Builtin.append_,run_underlying ht,sizeOf,typeInfo,hi,Builtin.lenOf,Builtin.firstCells]
 ·simp [Builtin.append_,run_underlying ht,sizeOf,typeInfo,hi,Builtin.lenOf,Builtin.firstCells,hnc,storeCells]
structure Own (B k:Nat) (e:TypeId) (w:World) (v:Value) (es:List (List Value)):Prop where
 row:oG w B e k v es.length es.flatten
 each:∀ x∈es,x.length=k
theorem jX {k:Nat}:∀ {es:List (List Value)},(∀ x∈es,x.length=k)→∀ {i:Nat} {e:List Value} {j:Nat} {x:Value},es[i]? = some e→e[j]? = some x→es.flatten[i*k+j]? = some x
 | [],_,i,e,j,x,hi,_=>by simp at hi
 | y::es,h,0,e,j,x,hi,hj=>by
   simp only [List.getElem?_cons_zero,Option.some.injEq]at hi
   subst hi
   have hl:=h y (by simp)
   obtain ⟨hlt,_⟩:=List.getElem?_eq_some_iff.1 hj
   rw [List.flatten_cons,Nat.zero_mul,Nat.zero_add,List.getElem?_append_left hlt]
   exact hj
 | y::es,h,i+1,e,j,x,hi,hj=>by
   have hl:=h y (by simp)
   have:=jX (es:=es) (fun x hx=>h x (List.mem_cons_of_mem _ hx)) (i:=i) (by simpa using hi) hj
   rw [List.flatten_cons,List.getElem?_append_right (by rw [hl,Nat.add_mul];omega),hl,show (i+1)*k+j - k=i*k+j by rw [Nat.add_mul];omega]
   exact this
theorem aY {k:Nat}:∀ {es:List (List Value)},(∀ x∈es,x.length=k)→es.flatten.length=es.length*k
 | [],_=>by simp
 | y::es,h=>by
   rw [List.flatten_cons,List.length_append,h y (by simp),aY (fun x hx=>h x (by simp [hx])),List.length_cons,Nat.add_mul];omega
theorem Own.nil (B k:Nat) (e:TypeId) (w:World):Own B k e w (.slice none 0 0) []:=⟨mZ (World.ownsRow_nil w B e k),by simp⟩
theorem Own.sl {B k e:Nat} {w:World} {v:Value} {es:List (List Value)} (h:Own B k e w v es):Sl k w v es:=by
 have hl:=h.row.1
 have h1:=h.row.2
 have h2:=h.each
 rcases h1 with ⟨rfl,hn⟩|⟨gg,cap,cur,fz,rfl,hb,hg,hfz,hnc,hcm,hcs,htake⟩
 ·have:es=[]:=List.eq_nil_of_length_eq_zero hn
  subst this
  exact ⟨none,0,rfl,Nat.le_refl _,by omega,by simp,fun _=>rfl,fun h=>absurd rfl h⟩
 ·refine ⟨some ⟨gg,0,none⟩,cap,rfl,hnc,by simpa [maxLen]using hcm,h2,(fun h=>by cases h),fun _=>⟨gg,0,rfl,fun i e j x hi hj=>?_⟩⟩
  rw [cell_of_row w gg _ cur _ fz hg]
  have:=jX h2 hi hj
  rw [← htake,List.getElem?_take]at this
  split at this
  ·rw [Nat.zero_add];simpa using this
  ·cases this
theorem Own.mv {B k e:Nat} {w w':World} {v:Value} {es:List (List Value)} {row:Option Nat} (h:Own B k e w v es) (hm:Mv row w w') (hne:v.ownBlock=none∨v.ownBlock≠row):Own B k e w' v es:=by
 refine ⟨⟨h.row.1,?_⟩,h.2⟩
 rcases h.row.2 with h1|⟨gg,cap,cur,fz,rfl,hb,hg,r⟩
 ·exact .inl h1
 ·exact .inr ⟨gg,cap,cur,fz,rfl,hb,hm.at hg (by simpa [Value.ownBlock]using hne),r⟩
theorem Own.ext {B k e:Nat} {w w':World} {v:Value} {es:List (List Value)} (h:Own B k e w v es) (hx:Ext w w'):Own B k e w' v es :=
 h.mv (hx.mv none) (by cases v.ownBlock<;>simp)
theorem Own.block {B k e:Nat} {w:World} {v:Value} {es:List (List Value)} (h:Own B k e w v es):∀ r,v.ownBlock=some r→B≤r∧r<w.heap.size:=HB h.row
theorem Own.size {B k e:Nat} {w:World} {v:Value} {es:List (List Value)} (h:Own B k e w v es) (h0:v.ownBlock≠none):B<w.heap.size:=by
 cases hv:v.ownBlock with
 | none=>exact absurd hv h0
 | some r=>have:=h.block r hv;omega
def mE (P:Program) (t e k bytes:Nat):Bool:=(match P.underlying t with|some (.slice e')=>e' == e|_=>false) &&
 (match P.info? e with|some i=>(match i.zero with|some z=>z.cells.size == k|none=>false)&&i.size == k&&i.bytes == bytes&&decide (0<k)|none=>false)
theorem jY {P:Program} {t e k bytes:Nat} (h:mE P t e k bytes=true):P.underlying t=some (.slice e)∧∃ i z,P.info? e=some i∧i.zero=some z∧z.cells.size=k∧i.size=k∧i.bytes=bytes∧0<k:=by
 unfold mE at h
 simp only [Bool.and_eq_true]at h
 obtain ⟨h1,h2⟩:=h
 split at h2
 ·rename_i i hi
  simp only [Bool.and_eq_true,beq_iff_eq,decide_eq_true_eq]at h2
  obtain ⟨⟨⟨h3,h4⟩,h5⟩,h6⟩:=h2
  split at h3
  ·rename_i z hz
   split at h1
   ·rename_i e' he
    have:e'=e:=by simpa using h1
    subst this
    exact ⟨he,i,z,hi,hz,by simpa using h3,h4,h5,h6⟩
   ·cases h1
  ·cases h3
 ·cases h2
section
variable {P:Program} {ops:Array Oper} {Q:Exit→Act→World→Prop} {w:World} {rest:List Oper} {ts:List Value} {df:List Deferred} {ty:TypeId} {ps:String} {af:Array Edge} {g:Option (Nat×Bool)}
theorem wQ {t e k bytes B:Nat} {ty:TypeId} {v x:Value} {es fs:List (List Value)} (ht:mE P t e k bytes=true) (h:Own B k e w v es) (hx:Sl k w x fs) (h1:∀ f∈fs,∀ u∈f,u.oneCell'=true)
 (hB:B≤w.heap.size) (hb:(es.length+fs.length)*bytes≤140737488355328) (hm:es.length+fs.length≤140737488355328) :
 ∃ v' w',(Builtin.append_ #[t,t] ty #[v,x]).run P w=.ok v' w'∧Own B k e w' v' (es++fs)∧Mv v.ownBlock w w'∧(v'.ownBlock=v.ownBlock∨v'.ownBlock=some w.heap.size):=by
 obtain ⟨hu,i,z,hi,hz,hzc,hs,hby,hk⟩:=jY ht
 obtain ⟨ad,cap,rfl,h2,h3,h4,h5,h6⟩:=hx
 cases ad with
 | none =>
  have:fs=[]:=List.eq_nil_of_length_eq_zero (by have:=h5 rfl;omega)
  subst this
  have hc0:=h5 rfl
  subst hc0
  have:=tQ (P:=P) (ty:=ty) hu hi h.row
  exact ⟨v,w,this,by simpa using h,Mv.refl _ _, .inl rfl⟩
 | some a =>
  have hnews:∀ j u,fs.flatten[j]? = some u→w.cell? (a.add j)=some u:=by
   intro j u hj
   by_cases hne:fs=[]
   ·subst hne;simp at hj
   ·obtain ⟨b,o,he,hc⟩:=h6 hne
    cases he
    have hlen:=aY h4
    have hjl:j<fs.length*k:=by rw [← hlen];exact (List.getElem?_eq_some_iff.1 hj).1
    have hdm:j=(j / k)*k+j % k:=by rw [Nat.mul_comm];exact (Nat.div_add_mod j k).symm
    have hlt:j / k<fs.length:=Nat.div_lt_of_lt_mul (by rw [Nat.mul_comm];exact hjl)
    have hml:j % k<(fs[j / k]).length:=by rw [h4 _ (List.getElem_mem hlt)];exact Nat.mod_lt _ hk
    have hf:=jX h4 (i:=j / k) (e:=fs[j / k]) (j:=j % k) (x:=(fs[j / k])[j % k]) (List.getElem?_eq_getElem hlt) (List.getElem?_eq_getElem hml)
    rw [← hdm,hj]at hf
    have:=hc (j / k) fs[j / k] (j % k) u (List.getElem?_eq_getElem hlt) (by rw [List.getElem?_eq_getElem hml];exact hf.symm)
    rw [cY]
    rw [Nat.add_assoc,← hdm]at this
    exact this
  obtain ⟨v',w',hr,ho,hgr,hkin⟩:=tP (P:=P) w B t ty e i z k bytes hu hi hz hs hby hzc hk v es.length es.flatten h.1 a fs.length cap fs.flatten (aY h4) hnews
   (fun u hu'=>by obtain ⟨f,hf,hfu⟩:=List.mem_flatten.1 hu';exact h1 f hf u hfu) (by unfold maxLen;omega) hb hB
  refine ⟨v',w',hr,⟨by simpa [List.length_append,List.flatten_append]using ho,?_⟩,hgr,hkin⟩
  intro x hx
  rcases List.mem_append.1 hx with hx|hx
  ·exact h.2 x hx
  ·exact h4 x hx
theorem gK {t e k bytes B d:Nat} {m:Nat} {y:Operand} {x:Value} {es fs:List (List Value)} (hw:Region.wanted (Oper.mk (some d) (.call ⟨.builtin .append,#[.tmp m,y],#[t,t]⟩) ty ps af g) (yielded ops ts.toArray)=true)
 (h:Own B k e w (ts.getD m undef) es) (hy:(Act.mk ts.toArray df).eval y=x) (hx:Sl k w x fs) (ht:mE P t e k bytes=true) (h1:∀ f∈fs,∀ u∈f,u.oneCell'=true)
 (hB:B≤w.heap.size) (hb:(es.length+fs.length)*bytes≤140737488355328) (hm:es.length+fs.length≤140737488355328)
 (hk:∀ v' w',Own B k e w' v' (es++fs)→Mv (ts.getD m undef).ownBlock w w'→(v'.ownBlock=(ts.getD m undef).ownBlock∨v'.ownBlock=some w.heap.size)→wpList P ops Q rest (Act.mk (ts.set d v').toArray df) w') :
 wpList P ops Q (Oper.mk (some d) (.call ⟨.builtin .append,#[.tmp m,y],#[t,t]⟩) ty ps af g::rest) (Act.mk ts.toArray df) w:=by
 obtain ⟨v',w',hr,ho,hmv,hkin⟩:=wQ (ty:=ty) ht h hx h1 hB hb hm
 unfold wpList
 rw [if_pos hw]
 refine .inl ?_
 unfold Oper.wp
 have hr':(execOp (Act.mk ts.toArray df).eval (Oper.mk (some d) (.call ⟨.builtin .append,#[.tmp m,y],#[t,t]⟩) ty ps af g)).run P w=.ok (.value v') w':=by
  have e1:(Act.mk ts.toArray df).eval (.tmp m)=ts.getD m undef:=fY m
  simp [execOp,resolve,invoke,builtin,e1,hy,hr,-List.getD_eq_getElem?_getD]
 rw [hr']
 simpa [Oper.upon,Act.put]using hk v' w' ho hmv hkin
theorem jZ {t e k bytes B d:Nat} {m:Nat} {y:Operand} {x:Value} {es fs:List (List Value)} (hw:Region.wanted (Oper.mk (some d) (.call ⟨.builtin .append,#[.tmp m,y],#[t,t]⟩) ty ps af g) (yielded ops ts.toArray)=true)
 (h:Own B k e w (ts.getD m undef) es) (hy:(Act.mk ts.toArray df).eval y=x) (hx:Sl k w x fs) (ht:mE P t e k bytes=true) (h1:∀ f∈fs,∀ u∈f,u.oneCell'=true)
 (hB:B≤w.heap.size) (hb:(es.length+fs.length)*bytes≤140737488355328) (hm:es.length+fs.length≤140737488355328)
 (hk:∀ v' w',Own B k e w' v' (es++fs)→Mv (ts.getD m undef).ownBlock w w'→wpList P ops Q rest (Act.mk (ts.set d v').toArray df) w') :
 wpList P ops Q (Oper.mk (some d) (.call ⟨.builtin .append,#[.tmp m,y],#[t,t]⟩) ty ps af g::rest) (Act.mk ts.toArray df) w :=
 gK hw h hy hx ht h1 hB hb hm fun v' w' a b _=>hk v' w' a b
theorem HC (o:Nat):∀ (vs:List Value) (n:Nat) (A:Array Value),((vs.zipIdx n).foldl (fun cs (p:Value×Nat)=>cs.setIfInBounds (o+p.2) p.1) A).size=A.size
 | [],_,A=>rfl
 | v::vs,n,A=>by rw [List.zipIdx_cons,List.foldl_cons,HC o vs (n+1)];simp
theorem PQ (o:Nat):∀ (vs:List Value) (n:Nat) (A:Array Value) (k:Nat),o+n+vs.length≤A.size →
 ((vs.zipIdx n).foldl (fun cs (p:Value×Nat)=>cs.setIfInBounds (o+p.2) p.1) A)[k]? = if o+n≤k∧k<o+n+vs.length then vs[k - (o+n)]? else A[k]?
 | [],n,A,k,h=>by simp;omega
 | v::vs,n,A,k,h=>by
   rw [List.zipIdx_cons,List.foldl_cons,PQ o vs (n+1) _ k (by simp at h ⊢;omega)]
   simp only [List.length_cons]at h ⊢
   by_cases h1:k=o+n
   ·subst h1
    rw [if_neg (by omega),if_pos (by omega),Array.getElem?_setIfInBounds_self_of_lt (by omega)]
    simp
   ·by_cases h2:o+n+1≤k∧k<o+n+1+vs.length
    ·rw [if_pos (by omega),if_pos (by omega),show k - (o+n)=(k - (o+(n+1)))+1 by omega]
     simp
    ·rw [if_neg (by omega),if_neg (by omega),Array.getElem?_setIfInBounds_ne (by omega)]
theorem HD {k:Nat}:∀ (ps:List Value) (i0:Nat) (A:Array Value),(∀ p∈ps,p.cells.size=k)→A.size=(i0+ps.length)*k →
 Instr.fill (fun i=>some (i*k,k)) A ((ps.zipIdx i0).map fun p=>(p.2,p.1))=some (A.toList.take (i0*k)++(ps.map (·.cells.toList)).flatten).toArray
 | [],i0,A,_,hA=>by
   simp only [List.zipIdx_nil,List.map_nil,Instr.fill,List.flatten_nil,List.append_nil]
   simp only [List.length_nil,Nat.add_zero]at hA
   rw [List.take_of_length_le (by simp [hA])]
 | p::ps,i0,A,h,hA=>by
   have hp:=h p (by simp)
   simp only [List.zipIdx_cons,List.map_cons,Instr.fill]
   simp only [List.length_cons]at hA
   have hmul:(i0+(ps.length+1))*k=i0*k+k+ps.length*k:=by rw [Nat.add_mul,Nat.add_mul];omega
   have hle:i0*k+k≤A.size:=by omega
   have hcond:(p.cells.size≠k||i0*k+p.cells.size>A.size)=false:=by
    simp [hp];omega
   rw [if_neg (by simp [hp];omega)]
   have hsz:=HC (i0*k) p.cells.toList 0 A
   have hat:=fun j=>PQ (i0*k) p.cells.toList 0 A j (by simp [hp];omega)
   have e:p.cells.zipIdx.foldl (fun cs (x:Value×Nat)=>cs.setIfInBounds (i0*k+x.2) x.1) A=(p.cells.toList.zipIdx 0).foldl (fun cs (x:Value×Nat)=>cs.setIfInBounds (i0*k+x.2) x.1) A:=by
    rw [← Array.foldl_toList];simp
   have e':(p.cells.zipIdx.foldl (fun cs (c,j)=>cs.setIfInBounds (i0*k+j) c) A)=(p.cells.toList.zipIdx 0).foldl (fun cs (x:Value×Nat)=>cs.setIfInBounds (i0*k+x.2) x.1) A:=e
   rw [e']
   generalize (p.cells.toList.zipIdx 0).foldl (fun cs (x:Value×Nat)=>cs.setIfInBounds (i0*k+x.2) x.1) A=A' at hsz hat ⊢
   rw [HD ps (i0+1) A' (fun q hq=>h q (List.mem_cons_of_mem _ hq)) (by rw [hsz,hA];congr 1;omega)]
   congr 2
   rw [List.flatten_cons,← List.append_assoc]
   congr 1
   apply List.ext_getElem?
   intro j
   have hj:=hat j
   rw [List.getElem?_take,Array.getElem?_toList,hj]
   simp only [Nat.add_zero,Array.length_toList,hp]
   have hk1:(i0+1)*k=i0*k+k:=by rw [Nat.add_mul];omega
   rw [hk1,List.getElem?_append,List.length_take,Array.length_toList]
   by_cases h1:j<i0*k
   ·rw [if_pos (by omega),if_neg (by omega),if_pos (by omega),List.getElem?_take,if_pos h1];simp
   ·by_cases h2:j<i0*k+k
    ·rw [if_pos h2,if_pos (by omega),if_neg (by omega),Nat.min_eq_left (by omega)]
    ·rw [if_neg h2,if_neg (by omega),Nat.min_eq_left (by omega)]
     rw [eq_comm,List.getElem?_eq_none_iff]
     simp [hp];omega
theorem yX {t e k bytes:Nat} {xs:List Value} (ht:mE P t e k bytes=true) (hk2:xs.length*k≤16777216) (hc:∀ x∈xs,x.cells.size=k) :
 (Instr.buildSlice t xs.length ((xs.zipIdx 0).map fun p=>(p.2,p.1)).toArray).run P w=.ok (.slice (some ⟨w.heap.size,0,none⟩) xs.length xs.length) (w.alloc (.cells ((xs.map (·.cells.toList)).flatten).toArray e)):=by
 obtain ⟨hu,i,z,hi,hz,hzc,hs,hby,hk0⟩:=jY ht
 have hf:=fun A (hA:A.size=(0+xs.length)*k)=>HD xs 0 A hc hA
 simp only [Nat.zero_mul,List.take_zero,List.nil_append,Nat.zero_add]at hf
 unfold Instr.buildSlice
 simp only [Sem.run_bind,run_underlying hu,Result.andThen_ok,sizeOf,typeInfo,run_program,hi,hs,Sem.run_pure]
 rw [if_neg (by omega)]
 split
 ·simp only [Sem.run_bind,Sem.run_pure,Result.andThen_ok,hf _ (by simp:(Array.map (fun x=>(#[]:Array Value)[x % (#[]:Array Value).size]!) (Array.range (xs.length*k))).size=xs.length*k)]
  simp [newRow]
 ·simp only [zeroValue,typeInfo,Sem.run_bind,run_program,hi,hz,Sem.run_pure,Result.andThen_ok,hf _ (by simp:(Array.map (fun x=>z.cells[x % z.cells.size]!) (Array.range (xs.length*k))).size=xs.length*k)]
  simp [newRow]
theorem rO {t e k d n bytes:Nat} {xs:List Value} {parts:List (Nat×Operand)} (hw:Region.wanted (Oper.mk (some d) (.buildSlice t n parts.toArray) ty ps af g) (yielded ops ts.toArray)=true)
 (hx:parts.map (fun p=>(p.1,(Act.mk ts.toArray df).eval p.2))=(xs.zipIdx 0).map fun p=>(p.2,p.1)) (hn:n=xs.length) (hc:∀ x∈xs,x.cells.size=k) (ht:mE P t e k bytes=true) (hk2:xs.length*k≤16777216)
 (h:∀ v' w',Ext w w'→w'.heap.size=w.heap.size+1→Sl k w' v' (xs.map (·.cells.toList))→Own w.heap.size k e w' v' (xs.map (·.cells.toList))→wpList P ops Q rest (Act.mk (ts.set d v').toArray df) w') :
 wpList P ops Q (Oper.mk (some d) (.buildSlice t n parts.toArray) ty ps af g::rest) (Act.mk ts.toArray df) w:=by
 have hr:=yX (P:=P) (w:=w) ht hk2 hc
 subst hn
 unfold wpList
 rw [if_pos hw]
 refine .inl ?_
 unfold Oper.wp
 have hr':(execOp (Act.mk ts.toArray df).eval (Oper.mk (some d) (.buildSlice t xs.length parts.toArray) ty ps af g)).run P w=.ok (.value (.slice (some ⟨w.heap.size,0,none⟩) xs.length xs.length)) (w.alloc (.cells ((xs.map (·.cells.toList)).flatten).toArray e)):=by
  simp only [execOp,List.map_toArray,hx,Sem.run_bind,hr,Result.andThen_ok,Sem.run_pure]
 rw [hr']
 have hall:∀ x∈xs.map (·.cells.toList),x.length=k:=by
  intro x hx
  obtain ⟨y,hy,rfl⟩:=List.mem_map.1 hx
  simpa using hc y hy
 have hfl:=aY hall
 have ho:Own w.heap.size k e (w.alloc (.cells ((xs.map (·.cells.toList)).flatten).toArray e)) (.slice (some ⟨w.heap.size,0,none⟩) xs.length xs.length) (xs.map (·.cells.toList)):=by
  refine ⟨mZ ⟨by simpa using hfl, .inr ⟨w.heap.size,xs.length,_,by simp,Nat.le_refl _,heap_alloc_new w _,by simp,?_,by simpa using hfl,?_⟩⟩,hall⟩
  ·obtain ⟨_,_,_,_,_,_,_,_,hk0⟩:=jY ht
   have:xs.length≤xs.length*k:=Nat.le_mul_of_pos_right _ hk0
   unfold maxLen;omega
  ·rw [List.take_of_length_le (by simpa using Nat.le_of_eq hfl)]
 have:=h _ _ (Ext.alloc w _) (by simp) ho.sl ho
 simpa [Oper.upon,Act.put]using this
end
def FR (r:Option Nat):Fence:={ Fence.wide with round:=r }
section
variable {P:Program} {n:Nat} {r:Option Nat} {ops:Array Oper} {Q:Exit→Act→World→Prop}
theorem NF {row:String} {args:Array Value} {w:World} {R:Value→World→Prop} {r:Option Nat} (h:Rows P row args w R):RowsIn (FR r) n P row args w R :=
 fun c cs _=>let ⟨v,w',hr,hs⟩:=h c cs;⟨v,w',hr,stepsIn_wide.2 hs⟩
theorem JV {f:FuncId} {args:Array Value} {w:World} {R:Ending→World→Prop} {r:Option Nat} (h:Calls P f args w R):CallsIn (FR r) n P f args w R :=
 (callsIn_wide (n:=n)).2 h
theorem UM {o:Oper} {a:Act} {next next':Act→World→Prop} {Q Q':Exit→Act→World→Prop} {x:Result Next} (hQ:∀ a w,¬ Q .outgrown a w) (hq:∀ e a w,Q e a w→Q' e a w) (hn:∀ a w,next a w→next' a w)
 (h:o.upon P a next Q x):o.uponIn (FR r) n P a next' Q' x:=by
 cases x with
 | ok v w =>
  cases v<;>first|exact h.elim|skip
  case value v=>exact hn _ _ h
  case skip=>exact hn _ _ h
  case defer d=>exact hn _ _ h
  case enter f args =>
   refine ⟨fun hd=>by simp [FR,Fence.wide]at hd,JV (Calls.mono h ?_)⟩
   intro e w' he
   cases e with
   | returned v=>exact hn _ _ he
   | panicked c=>exact hq _ _ _ he
   | outgrown=>obtain ⟨a0,w0,h0⟩:=he;exact absurd h0 (hQ _ _)
  case row row args=>exact ⟨fun hd=>by simp [FR,Fence.wide]at hd,NF (h.mono fun _ _ he=>hn _ _ he)⟩
 | halt x w=>cases x<;>first|exact h.elim|exact hq _ _ _ h
theorem HE {l:List Oper} (hd:∀ o∈l,∀ c,o.op≠.defer c) (hQ:∀ a w,¬ Q .outgrown a w):∀ {a:Act} {w:World},wpList P ops Q l a w→wpListIn (FR r) n P ops Q l a w:=by
 induction l with
 | nil=>intro a w h;exact h
 | cons o l ih =>
  intro a w h
  have ih':=fun {a w}=>ih (fun o ho=>hd o (List.mem_cons_of_mem _ ho)) (a:=a) (w:=w)
  unfold wpList at h
  unfold wpListIn
  split
  ·rename_i hw
   rw [if_pos hw]at h
   rcases h with h|⟨_,a0,w0,h0⟩
   ·refine ⟨fun _ _=>trivial,?_⟩
    rw [Oper.semAt_eq _ _ _ (hd o (by simp))]
    exact UM hQ (fun _ _ _ h=>h) (fun _ _ h=>ih' h) h
   ·exact absurd h0 (hQ _ _)
  ·rename_i hw
   rw [if_neg hw]at h
   exact ⟨fun _ _=>trivial,ih' h⟩
def PR (l:List Oper):Bool:=l.all fun o=>match o.op with | .defer _=>false|_=>true
theorem gD {id:Nat} {l:List Oper} {a:Act} {w:World} (hd:PR l=true) (hQ:∀ a w,¬ Q .outgrown a w) (h:wpList P l.toArray Q l a w):(Code.region id l.toArray false).wpIn (FR r) n P Q a w :=
 wpIn_region_lit (HE (fun o ho c hc=>by have:=List.all_eq_true.1 hd o ho;rw [hc]at this;cases this) hQ h)
variable {w:World} {rest:List Oper} {ts:List Value} {df:List Deferred} {d:Nat} {ty:TypeId} {ps:String} {af:Array Edge} {g:Option (Nat×Bool)} {tys:Array TypeId}
theorem qG {v:Value} {op:Op} (hw:Region.wanted (Oper.mk (some d) op ty ps af g) (yielded ops ts.toArray)=true) (hr:Runs P (Oper.mk (some d) op ty ps af g) (Act.mk ts.toArray df) w v)
 (h:wpListIn (FR r) n P ops Q rest (Act.mk (ts.set d v).toArray df) w):wpListIn (FR r) n P ops Q (Oper.mk (some d) op ty ps af g::rest) (Act.mk ts.toArray df) w:=by
 unfold wpListIn
 rw [if_pos hw]
 refine ⟨fun _ _=>trivial,?_⟩
 rw [Oper.semAt_eq _ _ _ (fun c hc=>by simp only at hc;subst hc;have hr:=hr.run;simp only [execOp,Sem.run_bind]at hr;cases hx:(resolve (Act.mk ts.toArray df).eval c ty).run P w<;>simp [hx,Result.andThen]at hr),hr.run]
 simpa [Oper.uponIn,Act.put]using h
theorem sN {l m:Nat} {xs:List Operand} {vs:List Value} {lp:Loop} {R:Ending→World→Prop} (hw:Region.wanted (Oper.mk (some d) (.call ⟨.value (.tmp m),xs.toArray,tys⟩) ty ps af g) (yielded ops ts.toArray)=true)
 (hm:ts.getD m undef=.func (.yield l) #[] #[]) (hxs:xs.map (Act.mk ts.toArray df).eval=vs) (hl:w.heap[l]? = some (.loop lp)) (hs:vs.length=lp.params.size)
 (hc:RoundIn Fence.wide (n - 1) P l lp.fn ((lp.params.zip vs.toArray).foldl (fun tmps (t,a)=>tmps.setIfInBounds t a) lp.tmps) lp.assign lp.body w R)
 (h:∀ e w',R e w'→∃ v,e=.returned v∧wpListIn (FR r) n P ops Q rest (Act.mk (ts.set d v).toArray df) w') :
 wpListIn (FR r) n P ops Q (Oper.mk (some d) (.call ⟨.value (.tmp m),xs.toArray,tys⟩) ty ps af g::rest) (Act.mk ts.toArray df) w:=by
 subst hxs
 unfold wpListIn
 rw [if_pos hw]
 refine ⟨fun _ _=>trivial,?_⟩
 have e1:(Act.mk ts.toArray df).eval (.tmp m)=.func (.yield l) #[] #[]:=by rw [fY];exact hm
 have hr:(execOp (Act.mk ts.toArray df).eval (Oper.mk (some d) (.call ⟨.value (.tmp m),xs.toArray,tys⟩) ty ps af g)).run P w=.ok (.round l lp.fn ((lp.params.zip (xs.map (Act.mk ts.toArray df).eval).toArray).foldl (fun tmps (t,a)=>tmps.setIfInBounds t a) lp.tmps) lp.assign lp.body) w:=by
  have:=run_yield (P:=P) (args:=(xs.map (Act.mk ts.toArray df).eval).toArray) hl (by simpa using hs)
  simp only [execOp,resolve,e1,Deferred.ofValue,Sem.run_bind,Sem.run_pure,Result.andThen_ok,invoke,List.map_toArray,List.append_toArray,List.nil_append]
  simpa using this
 rw [Oper.semAt_eq _ _ _ (fun c hc=>by simp at hc),hr]
 refine ⟨fun hd=>by simp [FR,Fence.wide]at hd,?_⟩
 refine RoundIn.mono (R:=R) hc fun e w' he=>?_
 obtain ⟨v,rfl,hk⟩:=h e w' he
 simpa [Act.put]using hk
theorem eP {id:Nat} {l:List Oper} {a:Act} {w:World} (h:wpListIn (FR none) 1 P l.toArray Q l a w):(Code.region id l.toArray false).wp P Q a w :=
 (wpIn_wide (n:=1)).1 (wpIn_region_lit h)
theorem qH {F:Fence} {n:Nat} {a:Act} {w:World} (h:Q .normal a w):wpListIn F n P ops Q [] a w:=h
theorem iY {f:FuncId} {fn:Func} {c:Code} {args:Array Value} {w:World} {R:Ending→World→Prop}
 (hf:P.funcs[f]? = some fn) (hb:fn.body=some c)
 (h:c.wp P (bodyPostM Fence.wide 1 P fn R) { tmps:=args++Array.replicate (fn.ntmps - args.size) undef,defers:=[] } w):Calls P f args w R :=
 (callsIn_wide (n:=1)).1 (callsIn_of_wp_marks hf hb trivial ((wpIn_wide (n:=1)).2 h))
end
theorem iH {P:Program} {t ty0:TypeId} {fr0:Nat×Nat} {b:Nat} {v:Value} {w:World} (h:w.heap[b]? = some (.cells #[v] ty0 fr0)) (hu:iX P t=true):(loadVar t ⟨b,0,none⟩).run P w=.ok v w:=by
 obtain ⟨u,hu,hn⟩:=oY hu
 have h0:w.cell? ⟨b,0,none⟩=some v:=by rw [cell_of_row w b 0 _ _ _ h];rfl
 simp [loadVar,Sem.run_bind,yV hu hn,run_load,h0]
theorem mF {P:Program} {fn:Func} {p q:Tmp} {t u tv tx:TypeId} {fv fx:Nat×Nat} (h:fn.results=#[.cell p t, .cell q u]) {ts:List Value} {w:World} {b c:Nat} {v x:Value}
 (hp:ts.getD p undef=.pointer (some ⟨b,0,none⟩)) (hq:ts.getD q undef=.pointer (some ⟨c,0,none⟩)) (hv:w.heap[b]? = some (.cells #[v] tv fv)) (hx:w.heap[c]? = some (.cells #[x] tx fx)) (ht:iX P t=true) (hu:iX P u=true) :
 (results fn ts.toArray).run P w=.ok (.tuple #[v,x]) w:=by
 have h1:=iH (P:=P) hv ht
 have h2:=iH (P:=P) hx hu
 have hp':ts[p]?.getD undef=.pointer (some ⟨b,0,none⟩):=by simpa using hp
 have hq':ts[q]?.getD undef=.pointer (some ⟨c,0,none⟩):=by simpa using hq
 simp [results,h,hp',hq',asAddr,Sem.run_bind,Result.andThen,h1,h2]
theorem yY {P:Program} {n:Nat} {fn:Func} {tmps:Array Value} {R:Ending→World→Prop} {w:World} {v:Value} (h:(results fn tmps).run P w=.ok v w) (hR:R (.returned v) w) :
 LeavesInM Fence.wide n P fn tmps R [] .returning w:=⟨v,h,hR⟩
theorem lC {P:Program} {g:Operand} {ps:Array Tmp} {assign body:Code} {Q:Exit→Act→World→Prop} {a:Act} {w:World} {s:Nat} {f:FuncId} {caps:Array Value}
 (hg:a.eval g=.func (.func f) #[] caps) (he:Enters P f) (hs:w.heap.size=s)
 (h:∀ fn W lp,lp=({ state:=.ready,pending:=none,fn:=fn,tmps:=a.tmps,params:=ps,assign:=assign,body:=body,defers:=s }:Loop)→Ext w W→W.heap[s]? = some (.deferred (some []))→W.heap[s+1]? = some (.loop lp)→W.heap.size=s+2 →
   Calls P f (#[.func (.yield (s+1)) #[] #[]]++caps) W fun e W'=>(∃ v,e=.returned v)∧∃ r,W'.heap[s+1]? = some (.loop r)∧r.state≠.busy∧∀ W2,Put W' W2 (s+1) (.loop { r with state:=.exhausted }) →
    match r.pending with
    | none=>Q .normal { a with defers:={ target:=.collected s,args:=#[] } :: a.defers } W2
    | some c=>c.wp P Q { a with defers:={ target:=.collected s,args:=#[] } :: a.defers } W2):(Code.rangeFunc g ps assign body).wp P Q a w:=by
 subst hs
 refine (wpIn_wide (n:=1)).1 (wpIn_rangeFunc ?_)
 intro fn _
 have hm:=(h fn ((w.alloc (.deferred (some []))).alloc (.loop { state:=.ready,pending:=none,fn:=fn,tmps:=a.tmps,params:=ps,assign:=assign,body:=body,defers:=w.heap.size })) _ rfl ((Ext.alloc _ _).trans (Ext.alloc _ _))
  (((Ext.alloc _ _).at (heap_alloc_new _ _))) (by have:=heap_alloc_new (w.alloc (.deferred (some []))) (.loop { state:=.ready,pending:=none,fn:=fn,tmps:=a.tmps,params:=ps,assign:=assign,body:=body,defers:=w.heap.size });rwa [World.size_alloc]at this) (by simp))
 have hE:=run_enterLoop_outer (P:=P) (w:=w) fn a.tmps ps assign body
 generalize ((w.alloc (.deferred (some []))).alloc (.loop { state:=.ready,pending:=none,fn:=fn,tmps:=a.tmps,params:=ps,assign:=assign,body:=body,defers:=w.heap.size }))=W1 at hm hE
 refine ⟨_,_,W1,{ target:=.fn (.func f) caps,args:=#[.func (.yield (w.heap.size+1)) #[] #[]] },W1,f,#[.func (.yield (w.heap.size+1)) #[] #[]]++caps,W1,hE,?_,fun _ _=>trivial,?_,fun hd=>by simp [Fence.wide]at hd,?_⟩
 ·have e1:a.eval (.const (.func (.yield (w.heap.size+1)) #[] #[]))=.func (.yield (w.heap.size+1)) #[] #[]:=rfl
  simp [resolve,hg,e1,Deferred.ofValue]
 ·have:=he (#[.func (.yield (w.heap.size+1)) #[] #[]]++caps) W1
  simpa [invoke]using this
 ·refine callsIn_wide.2 (hm.mono ?_)
  rintro e W' ⟨⟨v,rfl⟩,r,hr,hb,hk⟩
  refine ⟨r.pending,_,run_endLoop hr hb,?_⟩
  have:=hk _ (fK hr)
  cases hp:r.pending with
  | none=>rw [hp]at this;exact this
  | some c=>rw [hp]at this;exact (wpIn_wide (n:=1)).2 this
theorem yZ {P:Program} {n l:Nat} {fn:FuncId} {tmps:Array Value} {assign body:Code} {W:World} {R:Ending→World→Prop}
 (h:assign.wpIn (FR (some l)) n P (Exit.then (fun a₁ w₁=>∃ lp,w₁.heap[l]? = some (.loop lp)∧lp.state=.ready∧∀ w₂,Put w₁ w₂ l (.loop { lp with state:=.busy })→body.wpIn (FR (some l)) n P (roundPost P l R) a₁ w₂) (fun _ _ _=>False)) { tmps:=tmps,defers:=[] } W) :
 RoundIn Fence.wide n P l fn tmps assign body W R:=by
 refine roundIn_of_wpIn trivial (wpIn_mono h ?_)
 intro e a w hq
 cases e with
 | normal =>
  obtain ⟨lp,h1,h2,h3⟩:=hq
  exact ⟨_,run_beginRound h1 h2,h3 _ (fK h1)⟩
 | _=>exact hq
theorem tR {P:Program} {l:Nat} {R:Ending→World→Prop} {a:Act} {w:World} {lp:Loop} (h:w.heap[l]? = some (.loop lp)) (hR:∀ w',Put w w' l (.loop { lp with state:=.ready,pending:=none })→R (.returned (.bool true)) w'):roundPost P l R .normal a w :=
 ⟨_,_,run_endRound none h,hR _ (fK h)⟩
theorem NG {P:Program} {l:Nat} {R:Ending→World→Prop} {a:Act} {w:World} {lp:Loop} (h:w.heap[l]? = some (.loop lp)) (hR:∀ w',Put w w' l (.loop { lp with state:=.done,pending:=some .ret })→R (.returned (.bool false)) w'):roundPost P l R .ret a w :=
 ⟨_,_,run_endRound (some .ret) h,hR _ (fK h)⟩
theorem nA {P:Program} {n b:Nat} {fn:Func} {tmps:Array Value} {R:Ending→World→Prop} {w:World} (hd:w.heap[b]? = some (.deferred (some [])))
 (h:∀ w',Put w w' b (.deferred none)→∃ v,(results fn tmps).run P w'=.ok v w'∧R (.returned v) w'):LeavesInM Fence.wide n P fn tmps R [{ target:=.collected b,args:=#[] }] .returning w :=
 ⟨by simp, .inl ⟨_,_,rfl,run_takeDeferred hd,let ⟨v,h1,h2⟩:=h _ (fK hd);yY h1 h2⟩⟩
theorem Own.weaken {B C k e:Nat} {w:World} {v:Value} {es:List (List Value)} (h:Own B k e w v es) (hBC:C≤B):Own C k e w v es :=
 ⟨⟨h.row.1,h.row.2.imp id fun ⟨gg,cap,cur,fz,a,b,r⟩=>⟨gg,cap,cur,fz,a,Nat.le_trans hBC b,r⟩⟩,h.2⟩
theorem Own.put {B k e b:Nat} {w w':World} {v:Value} {es:List (List Value)} {o:Obj} (h:Own B k e w v es) (hp:Put w w' b o) (hb:b<B):Own B k e w' v es :=
 h.mv hp.mv (by
  cases hv:v.ownBlock with
  | none=>exact .inl rfl
  | some r=>have:=h.block r hv;exact .inr (fun e=>by have:=Option.some.inj e;omega))
theorem Put.at {w w':World} {b k:Nat} {o o':Obj} (hp:Put w w' b o) (h:w.heap[k]? = some o') (hk:k≠b):w'.heap[k]? = some o':=(hp.other k hk).trans h
theorem Own.one {B k e:Nat} {w:World} {v:Value} {es:List (List Value)} (h:Own B k e w v es):v.oneCell'=true:=by
 rcases h.row.2 with ⟨rfl,_⟩|⟨_,_,_,_,rfl,_⟩<;>rfl
theorem Own.mvs {B k e b:Nat} {w w1 w':World} {v:Value} {es:List (List Value)} {o:Obj} (h:Own B k e w1 v es) (hm:Mv v.ownBlock w w') (hw:w.heap[b]? = some o) (hb:b<B):w'.heap[b]? = some o :=
 hm.at hw (fun e=>by have:=h.block b e.symm;omega)
theorem Own.mvx {B k e:Nat} {w0 w w1 w':World} {v:Value} {es:List (List Value)} (h:Own B k e w1 v es) (hm:Mv v.ownBlock w w') (hx:Ext w0 w) (hB:w0.heap.size≤B):Ext w0 w' :=
 hx.move hm (fun k hk=>by have:=h.block k hk;omega)
theorem wR {k:Nat} {c:List Value} (hc:c.length=k):∀ (es:List (List Value)) (i:Nat),(∀ x∈es,x.length=k)→i<es.length→(es.set i c).flatten=es.flatten.take (i*k)++c++es.flatten.drop (i*k+k)
 | [],i,_,hi=>by simp at hi
 | x::es,0,hall,hi=>by
   have hx:=hall x (by simp)
   simp only [List.set_cons_zero,List.flatten_cons,Nat.zero_mul,List.take_zero,List.nil_append,Nat.zero_add]
   rw [← hx,List.drop_left]
 | x::es,i+1,hall,hi=>by
   have hx:=hall x (by simp)
   simp only [List.set_cons_succ,List.flatten_cons]
   rw [wR hc es i (fun y hy=>hall y (by simp [hy])) (by simpa using hi)]
   rw [show (i+1)*k=x.length+i*k by rw [hx,Nat.add_mul];omega,List.take_length_add_append,Nat.add_assoc,List.drop_length_add_append]
   simp
def aL (l:List UInt8):List (List Value):=l.map fun b=>[.int .u8 (b.toNat:Nat)]
theorem qI:∀ l:List UInt8,(aL l).flatten=l.map (fun b=>Value.int .u8 (b.toNat:Nat))
 | []=>rfl
 | b::l=>by
   have:=qI l
   simp only [aL]at this ⊢
   simp [this]
theorem Own.store {P:Program} {B k e:Nat} {w:World} {v:Value} {es:List (List Value)} {t:TypeId} {i:Nat} {c:Value} (h:Own B k e w v es) (hi:i<es.length) (hc:c.cells.size=k) (hs:dG P t k=true) (h1:c.cells.all (·.oneCell')=true) :
 ∃ w' b o,cC v (i*k)=.pointer (some ⟨b,o,none⟩)∧(storeVar t ⟨b,o,none⟩ c).run P w=.ok () w'∧Own B k e w' v (es.set i c.cells.toList)∧Mv v.ownBlock w w':=by
 rcases h.row.2 with ⟨rfl,h0⟩|⟨g,cap,cur,fz,rfl,hb,hg,hfz,hnc,hcm,hcs,htake⟩
 ·omega
 ·have hl:=aY h.each
  have hik:i*k+k≤es.length*k:=by
   have:(i+1)*k≤es.length*k:=Nat.mul_le_mul_right k hi
   rwa [Nat.add_mul,Nat.one_mul]at this
  have hck:es.length*k≤cap*k:=Nat.mul_le_mul_right k hnc
  have hst:=eC P g (i*k) e fz c.cells.toList 0 cur w hg hfz (by simp [hc];omega) (fun u hu=>(Array.all_eq_true_iff_forall_mem.1 h1) u (by simpa using hu))
  simp only [Nat.add_zero]at hst
  obtain ⟨ti,hq,hsz⟩:=rN (iO hs)
  have hall:∀ x∈es.set i c.cells.toList,x.length=k:=by
   intro x hx
   rcases List.mem_or_eq_of_mem_set hx with hx|rfl
   ·exact h.each x hx
   ·simpa using hc
  refine ⟨w.setRow g (cur.toList.take (i*k)++c.cells.toList++cur.toList.drop (i*k+c.cells.toList.length)).toArray,g,i*k,by simp [cC,cY],?_,⟨⟨?_, .inr ⟨g,cap,(cur.toList.take (i*k)++c.cells.toList++cur.toList.drop (i*k+c.cells.toList.length)).toArray,fz,?_,hb,setRow_heap w g cur _ e _ hg,?_,?_,hcm,?_,?_⟩⟩,hall⟩,⟨rfl,rfl,rfl,by simp,fun k _ hk=>setRow_other w g k _ (fun e=>hk (by simp [Value.ownBlock,e])),Nat.le_refl _⟩⟩
  ·simpa [storeVar,sizeOf,typeInfo,hq,hsz,hc]using hst
  ·rw [aY hall]
  ·simp
  ·simp only [List.size_toArray,List.length_append,List.length_take,List.length_drop,Array.length_toList,hc];omega
  ·simpa using hnc
  ·simp only [List.size_toArray,List.length_append,List.length_take,List.length_drop,Array.length_toList,hc];omega
  ·rw [wR (by simpa using hc) es i h.each hi,← htake]
   apply List.ext_getElem?
   intro j
   have hlc:c.cells.toList.length=k:=by simpa using hc
   have hA:(cur.toList.take (i*k)).length=i*k:=by simp;omega
   have hA2:(List.take (i*k) (List.take (es.length*k) cur.toList)).length=i*k:=by simp;omega
   rw [List.getElem?_take]
   simp only [List.length_set]
   simp only [List.append_assoc]
   simp only [List.getElem?_append,hA,hA2,hlc]
   by_cases h1:j<i*k
   ·rw [if_pos (by omega),if_pos h1,if_pos h1]
    simp only [List.getElem?_take]
    rw [if_pos h1,if_pos h1,if_pos (by omega)]
   ·by_cases h2:j - i*k<k
    ·rw [if_neg h1,if_neg h1,if_pos h2,if_pos h2,if_pos (by omega)]
    ·rw [if_neg h1,if_neg h1,if_neg h2,if_neg h2]
     simp only [List.getElem?_drop,List.getElem?_take]
     rw [show i*k+k+(j - i*k - k)=j by omega]
section
variable {P:Program} {ops:Array Oper} {Q:Exit→Act→World→Prop} {w:World} {rest:List Oper} {ts:List Value} {df:List Deferred} {ty:TypeId} {ps:String} {af:Array Edge} {g:Option (Nat×Bool)}
theorem zA {B k e:Nat} {v c:Value} {es:List (List Value)} {t ty2:TypeId} {x y:Operand} {i:Nat} (hw:Region.wanted (Oper.mk none (.store t x y) ty2 ps af g) (yielded ops ts.toArray)=true)
 (hx:(Act.mk ts.toArray df).eval x=cC v (i*k)) (hy:(Act.mk ts.toArray df).eval y=c) (h:Own B k e w v es) (hi:i<es.length) (hc:c.cells.size=k) (hs:dG P t k=true) (h1:c.cells.all (·.oneCell')=true)
 (hk:∀ w',Own B k e w' v (es.set i c.cells.toList)→Mv v.ownBlock w w'→wpList P ops Q rest (Act.mk ts.toArray df) w'):wpList P ops Q (Oper.mk none (.store t x y) ty2 ps af g::rest) (Act.mk ts.toArray df) w:=by
 obtain ⟨w',b,o,he,hr,ho,hm⟩:=h.store (P:=P) hi hc hs h1
 refine iP hw (w':=w') ?_ (hk w' ho hm)
 simp [execOp,hx,hy,he,Instr.storeAt,Instr.sureAddr,hr]
theorem fZ {B e:Nat} {v c:Value} {es:List (List Value)} {t ty2:TypeId} {x y:Operand} {i:Nat} (hw:Region.wanted (Oper.mk none (.store t x y) ty2 ps af g) (yielded ops ts.toArray)=true)
 (hx:(Act.mk ts.toArray df).eval x=cC v (i*1)) (hy:(Act.mk ts.toArray df).eval y=c) (h:Own B 1 e w v es) (hi:i<es.length) (hs:dG P t 1=true) (h1:c.oneCell'=true)
 (hk:∀ w',Own B 1 e w' v (es.set i [c])→Mv v.ownBlock w w'→wpList P ops Q rest (Act.mk ts.toArray df) w'):wpList P ops Q (Oper.mk none (.store t x y) ty2 ps af g::rest) (Act.mk ts.toArray df) w:=by
 have hc:c.cells=#[c]:=by cases c<;>first|rfl|cases h1
 refine zA hw hx hy h hi (by rw [hc];rfl) hs (by rw [hc];simpa using h1) ?_
 rw [hc]
 exact hk
def yK (P:Program) (t e:TypeId):Bool:=(match P.underlying t with|some (.slice e')=>e' == e|_=>false)&&(match P.underlying e with|some (.int .u8)=>true|_=>false)
theorem tS {t e:TypeId} (h:yK P t e=true):P.underlying t=some (.slice e)∧P.underlying e=some (.int .u8):=by
 unfold yK at h
 simp only [Bool.and_eq_true]at h
 constructor
 ·split at h
  ·rename_i e' he;have:e'=e:=by simpa using h.1
   rw [he,this]
  ·cases h.1
 ·have h2:=h.2
  split at h2
  ·assumption
  ·cases h2
theorem rP {s t e:TypeId} {d:Nat} {x:Operand} {l:List UInt8} (hw:Region.wanted (Oper.mk (some d) (.convert s t x) ty ps af g) (yielded ops ts.toArray)=true)
 (hx:(Act.mk ts.toArray df).eval x=aE l) (hs:lJ P s=true) (ht:yK P t e=true) (hl:l.length≤9223372036854775807)
 (h:∀ v' w',Ext w w'→Own w.heap.size 1 e w' v' (aL l)→wpList P ops Q rest (Act.mk (ts.set d v').toArray df) w') :
 wpList P ops Q (Oper.mk (some d) (.convert s t x) ty ps af g::rest) (Act.mk ts.toArray df) w:=by
 obtain ⟨h1,h2⟩:=tS ht
 have hr:=run_bytes_of_string (P:=P) w s t e ⟨l.toArray⟩ (fJ hs) h1 h2
 unfold wpList
 rw [if_pos hw]
 refine .inl ?_
 unfold Oper.wp
 have hr':(execOp (Act.mk ts.toArray df).eval (Oper.mk (some d) (.convert s t x) ty ps af g)).run P w=.ok (.value (.slice (some ⟨w.heap.size,0,none⟩) (ByteArray.mk l.toArray).size (grownCap w (ByteArray.mk l.toArray).size 0 e)))
  (w.drew.alloc (.cells (bytesRow ⟨l.toArray⟩ (grownCap w (ByteArray.mk l.toArray).size 0 e)) e ((bytesRow ⟨l.toArray⟩ (grownCap w (ByteArray.mk l.toArray).size 0 e)).size,(bytesRow ⟨l.toArray⟩ (grownCap w (ByteArray.mk l.toArray).size 0 e)).size+1))):=by
  simp only [execOp,hx,aE,Sem.run_bind,hr,Result.andThen_ok,Sem.run_pure]
 rw [hr']
 rw [fD]
 have hge:=grownCap_ge w l.length 0 e
 have hcm:=grownCap_le_maxLen w l.length 0 e (by unfold maxLen;omega)
 have hall:∀ x∈aL l,x.length=1:=by
  intro x hx
  obtain ⟨b,_,rfl⟩:=List.mem_map.1 hx
  rfl
 have hfl:=qI l
 have hsz:(bytesRow ⟨l.toArray⟩ (grownCap w l.length 0 e)).size=grownCap w l.length 0 e:=by
  simp [bytesRow,fD,-ByteArray.size_data];omega
 have ho:Own w.heap.size 1 e (w.drew.alloc (.cells (bytesRow ⟨l.toArray⟩ (grownCap w l.length 0 e)) e ((bytesRow ⟨l.toArray⟩ (grownCap w l.length 0 e)).size,(bytesRow ⟨l.toArray⟩ (grownCap w l.length 0 e)).size+1)))
  (.slice (some ⟨w.heap.size,0,none⟩) l.length (grownCap w l.length 0 e)) (aL l):=by
  refine ⟨⟨by rw [aY hall], .inr ⟨w.heap.size,grownCap w l.length 0 e,_,_,by simp [aL],Nat.le_refl _,heap_alloc_new w.drew _, .inr (Nat.le_refl _),by simpa [aL]using hge,hcm,by rw [hsz];simp,?_⟩⟩,hall⟩
  rw [hfl]
  simp only [aL,List.length_map,Nat.mul_one,bytesRow,Array.toList_append,Array.toList_map]
  rw [List.take_append_of_le_length (by simp),List.take_of_length_le (by simp)]
 have:=h _ _ ((Ext.drew w).trans (Ext.alloc w.drew _)) ho
 simpa [Oper.upon,Act.put]using this
theorem Runs.strOf {s t e:TypeId} {m:Nat} {d:Option Nat} {l:List UInt8} (h:Sl 1 w (ts.getD m undef) (aL l)) (hs:yK P s e=true) (ht:lJ P t=true) :
 Runs P (Oper.mk d (.convert s t (.tmp m)) ty ps af g) (Act.mk ts.toArray df) w (aE l):=by
 obtain ⟨h1,h2⟩:=tS hs
 obtain ⟨ad,cap,he,ha,hb,hc,hd,hf⟩:=h
 have e1:(Act.mk ts.toArray df).eval (.tmp m)=ts.getD m undef:=fY m
 constructor
 have hlen:(aL l).length=l.length:=by simp [aL]
 cases ad with
 | none =>
  have h0:=hd rfl
  have:l=[]:=List.eq_nil_of_length_eq_zero (by rw [hlen]at ha;omega)
  subst this
  have hr:=run_convert_bytes_nil (P:=P) (w:=w) s e h1 h2 0 cap t (fJ ht)
  simp only [execOp,e1,he,hlen,List.length_nil,Sem.run_bind,hr,Result.andThen_ok,Sem.run_pure,aE]
  rfl
 | some a =>
  have hne:∀ j (hj:j<l.length),w.cell? (a.add j)=some (.int .u8 (l[j].toNat:Int)):=by
   intro j hj
   obtain ⟨b,o,hao,hcc⟩:=hf (by intro h;rw [h]at hlen;simp at hlen;omega)
   have:=hcc j [.int .u8 (l[j].toNat:Nat)] 0 _ (by simp [aL,hj]) rfl
   cases hao
   simpa [cY]using this
  have hr:=run_convert_bytes_back (P:=P) w s t e a cap l h1 h2 (fJ ht) hne
  simp only [execOp,e1,he,hlen,Sem.run_bind,hr,Result.andThen_ok,Sem.run_pure,aE]
end
theorem LV {α:Type} (f:α→Value):∀ l:List α,(l.map fun x=>[f x]).flatten=l.map f
 | []=>rfl
 | x::l=>by simp [LV f l]
theorem Own.holds {α:Type} [Inhabited α] {enc:α→Value} {B e g cap:Nat} {w:World} {xs:List α} (h:Own B 1 e w (.slice (some ⟨g,0,none⟩) xs.length cap) (xs.map fun x=>[enc x])):Sort.Holds enc w g 0 xs.toArray:=by
 rcases h.row.2 with ⟨h0,_⟩|⟨g',cap',cur,fz,hv,hb,hg,hfz,hnc,hcm,hcs,htake⟩
 ·cases h0
 ·simp only [Value.slice.injEq,Option.some.injEq,Addr.mk.injEq,and_true,true_and]at hv
  obtain ⟨rfl,_,rfl⟩:=hv
  rw [LV]at htake
  simp only [List.length_map,Nat.mul_one]at htake hcs hnc
  intro j hj
  have hj':j<xs.length:=by simpa using hj
  have hjc:j<cur.size:=by omega
  constructor
  ·rw [Nat.zero_add,cell_of_row w g j cur e fz hg]
   have:=congrArg (·[j]?) htake
   simp only [List.getElem?_take,if_pos hj',List.getElem?_map,List.getElem?_eq_getElem hj',Option.map_some]at this
   rw [← Array.getElem?_toList,this]
   simp [hj']
  ·rw [Nat.zero_add];exact sM hg hfz hjc
theorem Own.putRow {α:Type} [Inhabited α] {enc:α→Value} {B e g cap:Nat} {w:World} {xs ys:List α} (h:Own B 1 e w (.slice (some ⟨g,0,none⟩) xs.length cap) (xs.map fun x=>[enc x])) (hl:ys.length=xs.length) (n:Nat) (os:Array Obj) :
 Own B 1 e (Sort.grow (Sort.putRow enc (Sort.ahead w n) g 0 ys.toArray) os) (.slice (some ⟨g,0,none⟩) xs.length cap) (ys.map fun x=>[enc x])∧Mv (some g) w (Sort.grow (Sort.putRow enc (Sort.ahead w n) g 0 ys.toArray) os):=by
 rcases h.row.2 with ⟨h0,_⟩|⟨g',cap',cur,fz,hv,hb,hg,hfz,hnc,hcm,hcs,htake⟩
 ·cases h0
 ·simp only [Value.slice.injEq,Option.some.injEq,Addr.mk.injEq,and_true,true_and]at hv
  obtain ⟨rfl,_,rfl⟩:=hv
  simp only [List.length_map,Nat.mul_one]at htake hcs hnc
  have hgs:g<w.heap.size:=(Array.getElem?_eq_some_iff.1 hg).1
  have hg2:(Sort.grow (Sort.putRow enc (Sort.ahead w n) g 0 ys.toArray) os).heap[g]? = some (.cells (Sort.putCells enc 0 ys.toArray cur) e fz):=by
   simp only [Sort.grow,Sort.putRow,Sort.mapBlock,Sort.ahead]
   rw [Array.getElem?_append_left (by simpa using hgs),Array.getElem?_modify,if_pos rfl,hg]
   rfl
  have hsz:(Sort.putCells enc 0 ys.toArray cur).size=cur.size:=by simp [Sort.putCells]
  refine ⟨⟨⟨by rw [LV];simp, .inr ⟨g,cap,_,fz,by simp [hl],hb,hg2,by rw [hsz];exact hfz,by simpa [hl]using hnc,hcm,by rw [hsz];simpa using hcs,?_⟩⟩,by simp⟩,⟨rfl,rfl,rfl,?_,?_,Nat.le_add_right _ _⟩⟩
  ·rw [LV]
   apply List.ext_getElem?
   intro j
   simp only [List.length_map,Nat.mul_one,List.getElem?_take,List.getElem?_map]
   by_cases hj:j<ys.length
   ·rw [if_pos hj,List.getElem?_eq_getElem hj]
    simp only [Sort.putCells,Array.toList_mapIdx,List.getElem?_mapIdx]
    have hjc:j<cur.toList.length:=by simp;omega
    rw [List.getElem?_eq_getElem hjc]
    simp [hj]
   ·rw [if_neg hj,List.getElem?_eq_none (by omega)];rfl
  ·simp only [Sort.grow,Sort.putRow,Sort.mapBlock,Sort.ahead,Array.size_append,Array.size_modify];omega
  ·intro k hk hne
   simp only [Sort.grow,Sort.putRow,Sort.mapBlock,Sort.ahead]
   rw [Array.getElem?_append_left (by simpa using hk),Array.getElem?_modify,if_neg (fun e=>hne (by rw [e]))]
theorem Own.short {B k e g n cap:Nat} {w:World} {es:List (List Value)} (h:Own B k e w (.slice (some ⟨g,0,none⟩) n cap) es) {m:Nat} (hm:m≤es.length):Own B k e w (.slice (some ⟨g,0,none⟩) m cap) (es.take m):=by
 rcases h.row.2 with ⟨h0,_⟩|⟨g',cap',cur,fz,hv,hb,hg,hfz,hnc,hcm,hcs,htake⟩
 ·cases h0
 ·simp only [Value.slice.injEq,Option.some.injEq,Addr.mk.injEq,and_true,true_and]at hv
  obtain ⟨rfl,_,rfl⟩:=hv
  have hall:∀ x∈es.take m,x.length=k:=fun x hx=>h.each x (List.mem_of_mem_take hx)
  have hlen:(es.take m).length=m:=by simp;omega
  refine ⟨⟨by rw [aY hall], .inr ⟨g,cap,cur,fz,by rw [hlen],hb,hg,hfz,by rw [hlen];omega,hcm,hcs,?_⟩⟩,hall⟩
  rw [hlen]
  have h1:es.flatten=(es.take m).flatten++(es.drop m).flatten:=by rw [← List.flatten_append,List.take_append_drop]
  have h2:(es.take m).flatten.length=m*k:=by rw [aY hall,hlen]
  have h3:m*k≤es.length*k:=Nat.mul_le_mul_right k hm
  have:cur.toList.take (m*k)=(cur.toList.take (es.length*k)).take (m*k):=by rw [List.take_take,Nat.min_eq_left h3]
  rw [this,htake,h1,← h2,List.take_left]
theorem Own.form {B k e:Nat} {w:World} {v:Value} {es:List (List Value)} (h:Own B k e w v es):(v=.slice none 0 0∧es=[])∨∃ g cap,v=.slice (some ⟨g,0,none⟩) es.length cap∧g<w.heap.size∧B≤g∧es.length≤cap∧es.length≤9223372036854775807:=by
 rcases h.row.2 with ⟨h0,h1⟩|⟨g,cap,cur,fz,hv,hb,hg,hfz,hnc,hcm,_⟩
 ·exact .inl ⟨h0,List.eq_nil_of_length_eq_zero h1⟩
 ·exact .inr ⟨g,cap,hv,(Array.getElem?_eq_some_iff.1 hg).1,hb,hnc,by unfold maxLen at hcm;omega⟩
section
variable {P:Program} {w:World} {a:Act} {d:Option Nat} {ty:TypeId} {ps:String} {af:Array Edge} {g:Option (Nat×Bool)}
theorem Runs.shr {t u:TypeId} {x y:Operand} {m n:Int} {k2:IntKind} (hx:a.eval x=.int .i64 m) (hy:a.eval y=.int k2 n) (h0:0≤n) (h1:n≤64) :
 Runs P (Oper.mk d (.binOp .shr t x y u) ty ps af g) a w (.int .i64 (m / 2^n.toNat)):=by
 have e:min n.toNat IntKind.i64.bits=n.toNat:=by simp [IntKind.bits];omega
 constructor;simp [execOp,hx,hy,eqGuard,binOp,shift_shr_any _ _ _ _ h0,e]
theorem Runs.shl {t u:TypeId} {x y:Operand} {m n:Int} {k2:IntKind} (hx:a.eval x=.int .i64 m) (hy:a.eval y=.int k2 n) (h0:0≤n) (h1:n≤64) (h2:0≤m*2^n.toNat∧m*2^n.toNat<9223372036854775808) :
 Runs P (Oper.mk d (.binOp .shl t x y u) ty ps af g) a w (.int .i64 (m*2^n.toNat)):=by
 have e:min n.toNat IntKind.i64.bits=n.toNat:=by simp [IntKind.bits];omega
 have e2:IntKind.i64.wrap (m*2^n.toNat)=m*2^n.toNat:=IntWalk.i64_in _ (by omega)
 constructor;simp [execOp,hx,hy,eqGuard,binOp,shift_shl_any _ _ _ _ h0,e,e2]
theorem Runs.shl8 {t u:TypeId} {x y:Operand} {m:Nat} (hx:a.eval x=.int .i64 (m:Nat)) (hy:a.eval y=.int .u64 8) (h:m*256<4611686018427387904) :
 Runs P (Oper.mk d (.binOp .shl t x y u) ty ps af g) a w (.int .i64 ((m*256:Nat):Int)):=by
 have:=Runs.shl (P:=P) (w:=w) (d:=d) (ty:=ty) (ps:=ps) (af:=af) (g:=g) (t:=t) (u:=u) hx hy (by omega) (by omega) (by simp;omega)
 have e:((m:Nat):Int)*2^(8:Int).toNat=((m*256:Nat):Int):=by simp
 rwa [e]at this
theorem CP (x y:Nat) (hy:y<256):(x*256) ||| y=x*256+y:=by
 have:=nat_join8' (x*256) y (by omega) hy
 rw [Nat.or_comm]at this
 exact this
theorem Runs.or8 {t u:TypeId} {x y:Operand} {m n:Nat} (hx:a.eval x=.int .i64 ((m*256:Nat):Int)) (hy:a.eval y=.int .i64 (n:Nat)) (hn:n<256) (hm:m*256<4611686018427387904) :
 Runs P (Oper.mk d (.binOp .or t x y u) ty ps af g) a w (.int .i64 ((m*256+n:Nat):Int)):=by
 have e:(BitVec.ofInt 64 ((m*256:Nat):Int) ||| BitVec.ofInt 64 (n:Int)).toNat=m*256+n:=by
  rw [BitVec.toNat_or,BitVec.ofInt_natCast,BitVec.ofInt_natCast,BitVec.toNat_ofNat,BitVec.toNat_ofNat,Nat.mod_eq_of_lt (by omega),Nat.mod_eq_of_lt (by omega),CP m n hn]
 have e2:IntKind.i64.wrap ((m*256+n:Nat):Int)=((m*256+n:Nat):Int):=IntWalk.i64_in _ (by omega)
 constructor
 have hb:(Op.intBits .or .i64 ((m*256:Nat):Int) (n:Nat))=Sem.pure (.int .i64 ((m*256+n:Nat):Int)):=by
  show Sem.pure (Value.int .i64 (IntKind.i64.wrap ((BitVec.ofInt 64 ((m*256:Nat):Int) ||| BitVec.ofInt 64 (n:Int)).toNat:Nat)))=_
  rw [e,e2]
 simp only [execOp,hx,hy,eqGuard,binOp,hb,Sem.run_bind,Sem.run_pure,Result.andThen_ok]
 simp [Sem.run]
end
def zB (P:Program) (t n:TypeId):Bool:=match P.underlying t with|some (.array m e)=>m == n&&iX P e&&(match P.info? e with|some i=>i.size == 1|none=>false)|_=>false
theorem JW {P:Program} {t n:Nat} (h:zB P t n=true):∃ e i,P.underlying t=some (.array n e)∧iX P e=true∧P.info? e=some i∧i.size=1:=by
 unfold zB at h
 split at h
 ·rename_i m e he
  simp only [Bool.and_eq_true]at h
  obtain ⟨⟨h1,h2⟩,h3⟩:=h
  have:m=n:=by simpa using h1
  subst this
  split at h3
  ·rename_i i hi
   exact ⟨e,i,he,h2,hi,by simpa using h3⟩
  ·cases h3
 ·cases h
section
variable {P:Program} {ops:Array Oper} {Q:Exit→Act→World→Prop} {w:World} {rest:List Oper} {a:Act} {ts:List Value} {df:List Deferred} {d:Option Nat} {ty:TypeId} {ps:String} {af:Array Edge} {g:Option (Nat×Bool)} {tys:Array TypeId}
theorem Runs.build {t:TypeId} {parts:List (Nat×Operand)} {vals:List (Nat×Value)} {cells:Array Value} (hx:parts.map (fun p=>(p.1,(Act.mk ts.toArray df).eval p.2))=vals) (h:P.built t vals=some cells) :
 Runs P (Oper.mk d (.build t parts.toArray) ty ps af g) (Act.mk ts.toArray df) w (.agg cells):=by
 have hr:=run_build (P:=P) w t vals.toArray cells (by simpa using h)
 constructor
 simp only [execOp,List.map_toArray,hx,Sem.run_bind,hr,Result.andThen_ok,Sem.run_pure]
theorem Runs.idxA {t n:TypeId} {m i:Nat} {x:Nat} {cs:Array Value} {v:Value} (hx:ts.getD x undef=.agg cs) (hi:ts.getD m undef=.int .i64 (i:Nat)) (hv:cs[i]? = some v) (hn:i<n) (ht:zB P t n=true) :
 Runs P (Oper.mk d (.index t (.tmp x) (.tmp m)) ty ps af g) (Act.mk ts.toArray df) w v:=by
 obtain ⟨e,ie,hu,hp,hie,hsz⟩:=JW ht
 obtain ⟨u,hu2,hn2⟩:=oY hp
 have e1:(Act.mk ts.toArray df).eval (.tmp x)=.agg cs:=by rw [fY];exact hx
 have e2:(Act.mk ts.toArray df).eval (.tmp m)=.int .i64 (i:Nat):=by rw [fY];exact hi
 constructor
 simp only [execOp,e1,e2,Instr.index,asIntOf,Sem.run_bind,Sem.run_pure,Result.andThen_ok,run_underlying hu]
 rw [if_pos (by omega)]
 simp [sizeOf,typeInfo,hie,hsz,part,yV hu2 hn2,Sem.run_bind,hv]
theorem dW {f:FuncId} {m d:Nat} {caps:Array Value} {xs:List Operand} {vs:List Value} {R:Ending→World→Prop} (he:Enters P f) (hw:Region.wanted (Oper.mk (some d) (.call ⟨.value (.tmp m),xs.toArray,tys⟩) ty ps af g) (yielded ops ts.toArray)=true)
 (hm:ts.getD m undef=.func (.func f) #[] caps) (hxs:xs.map (Act.mk ts.toArray df).eval=vs) (hc:Calls P f (vs.toArray++caps) w R) (h:∀ e w',R e w'→∃ v,e=.returned v∧wpList P ops Q rest (Act.mk (ts.set d v).toArray df) w') :
 wpList P ops Q (Oper.mk (some d) (.call ⟨.value (.tmp m),xs.toArray,tys⟩) ty ps af g::rest) (Act.mk ts.toArray df) w:=by
 subst hxs
 unfold wpList
 rw [if_pos hw]
 refine .inl ?_
 unfold Oper.wp
 have e1:(Act.mk ts.toArray df).eval (.tmp m)=.func (.func f) #[] caps:=by rw [fY];exact hm
 have hr:(execOp (Act.mk ts.toArray df).eval (Oper.mk (some d) (.call ⟨.value (.tmp m),xs.toArray,tys⟩) ty ps af g)).run P w=.ok (.enter f ((xs.map (Act.mk ts.toArray df).eval).toArray++caps)) w:=by
  have h1:=he ((xs.map (Act.mk ts.toArray df).eval).toArray++caps) w
  simpa [execOp,resolve,e1,Deferred.ofValue,invoke]using h1
 rw [hr]
 refine hc.mono fun e w' h'=>?_
 obtain ⟨v,rfl,hk⟩:=h e w' h'
 simpa [Act.put]using hk
theorem fS {fn:Func} {p q:Tmp} {t:TypeId} (h:fn.results=#[.cell p t, .tmp q]) {b:Nat} {cs:List Value} {ty0:TypeId} {fr:Nat×Nat} (hp:ts.getD p undef=.pointer (some ⟨b,0,none⟩)) (hb:w.heap[b]? = some (.cells cs.toArray ty0 fr)) (ht:eF P t cs.length=true) :
 (results fn ts.toArray).run P w=.ok (.tuple #[.agg cs.toArray,ts.getD q undef]) w:=by
 obtain ⟨u,ie,hu,hn,hie,hz⟩:=jV ht
 have hl:=run_loadCells_list (P:=P) w ⟨b,0,none⟩ cs (fun j v hv=>by rw [cY,Nat.zero_add,cell_of_row w b j _ _ _ hb];simpa using hv)
 have hp':ts[p]?.getD undef=.pointer (some ⟨b,0,none⟩):=by simpa using hp
 rw [results_cell_tmp h]
 simp [hp',asAddr,loadVar,Sem.run_bind,jW hu hn,sizeOf,typeInfo,hie,hz,hl,Result.andThen]
theorem fG {fn:Func} {p:Tmp} {t:TypeId} (h:fn.results=#[.cell p t]) {b:Nat} {cs:List Value} {ty0:TypeId} {fr:Nat×Nat} (hp:ts.getD p undef=.pointer (some ⟨b,0,none⟩)) (hb:w.heap[b]? = some (.cells cs.toArray ty0 fr)) (ht:eF P t cs.length=true) :
 (results fn ts.toArray).run P w=.ok (.agg cs.toArray) w:=by
 obtain ⟨u,ie,hu,hn,hie,hz⟩:=jV ht
 have hl:=run_loadCells_list (P:=P) w ⟨b,0,none⟩ cs (fun j v hv=>by rw [cY,Nat.zero_add,cell_of_row w b j _ _ _ hb];simpa using hv)
 have hp':ts[p]?.getD undef=.pointer (some ⟨b,0,none⟩):=by simpa using hp
 simp [results,h,hp',asAddr,loadVar,Sem.run_bind,jW hu hn,sizeOf,typeInfo,hie,hz,hl,Result.andThen]
end
section
variable {P:Program} {w:World}
theorem ES {base:Nat} {t ty e:TypeId} {i:TypeInfo} {z:Value} {size bytes:Nat} (ht:P.underlying t=some (.slice e)) (hi:P.info? e=some i) (hz:i.zero=some z)
 (hsize:i.size=size) (hby:i.bytes=bytes) (hzs:z.cells.size=size) (hsz:0<size)
 {v:Value} {n:Nat} {xs:List Value} (hown:w.ownsRow base e size v n xs)
 {a:Addr} {m c:Nat} {news:List Value} (hl:news.length=m*size) (hnews:∀ j u,news[j]? = some u→w.cell? (a.add j)=some u) (h1:∀ u∈news,u.oneCell'=true)
 (h63:n+m≤maxLen) (hbytes:(n+m)*bytes≤140737488355328) (hbase:base≤w.heap.size) {v':Value} {w':World}
 (hr:(Builtin.append_ #[t,t] ty #[v, .slice (some a) m c]).run P w=.ok v' w'):w.drawn≤w'.drawn:=by
 obtain ⟨v2,w2,hr2,_,hm,_⟩:=tP (P:=P) w base t ty e i z size bytes ht hi hz hsize hby hzs hsz v n xs (mZ hown) a m c news hl hnews h1 h63 hbytes hbase
 rw [hr]at hr2
 cases hr2
 exact hm.drawn
theorem rZ {base:Nat} {t u ty e:TypeId} {i:TypeInfo} (ht:P.underlying t=some (.slice e)) (hu:P.underlying u=some .string) (hi:P.info? e=some i) (hz:i.zero=some (.int .u8 0))
 (hsize:i.size=1) (hby:i.bytes=1) {v:Value} {n:Nat} {xs:List Value} (hown:w.ownsRow base e 1 v n xs) {s:ByteArray}
 (h63:n+s.size≤maxLen) (hbytes:n+s.size≤140737488355328) {v':Value} {w':World}
 (hr:(Builtin.append_ #[t,u] ty #[v, .string s]).run P w=.ok v' w'):w.drawn≤w'.drawn:=by
 have h63:n+s.size≤9223372036854775807:=by simp only [maxLen]at h63;omega
 have hxl:xs.length=n:=by simpa using hown.1
 rcases hown.2 with ⟨rfl,rfl⟩|⟨g,cap,cur,rfl,hbg,hg,hnc,hcm,hcs,htake⟩
 ·by_cases hm:s.size=0
  ·have hf:=Lib.run_firstCells_string (P:=P) w 1 s
   rw [hm]at hf
   have hn:Lib.strCells s=[]:=List.eq_nil_of_length_eq_zero (by rw [Lib.strCells_length];exact hm)
   have h2:(Builtin.append_ #[t,u] ty #[.slice none 0 0, .string s]).run P w=.ok (.slice none 0 0) w:=by
    simp [Builtin.append_,run_underlying ht,run_underlying hu,sizeOf,typeInfo,hi,hsize,Builtin.lenOf,hm,hf]
   rw [h2]at hr
   cases hr
   exact Nat.le_refl _
  ·have h2:=run_append_nil_string (P:=P) w t u ty e i (.int .u8 0) ht hu hi hz s (by omega) (by omega) (by rw [hby];omega)
   rw [h2]at hr
   cases hr
   exact Nat.le_succ _
 ·by_cases hroom:n+s.size≤cap
  ·have hcz:cur.size=cap:=by simpa using hcs
   have h2:=Lib.run_append_room_string (P:=P) w t u ty e i ht hu hi hsize g n cap cur hg s hroom (by omega)
   rw [h2]at hr
   cases hr
   exact Nat.le_refl _
  ·have h2:=Lib.run_append_grow_string (P:=P) w t u ty e i (.int .u8 0) ht hu hi hz ⟨g,0,none⟩ n cap xs (by rw [hsize];simpa using hxl) (hown.cells (g:=g) rfl) s (by omega) (by omega) (by rw [hby];exact growslice_fits (by omega) (by omega))
   rw [h2]at hr
   cases hr
   exact Nat.le_succ _
variable {ops:Array Oper} {rest:List Oper} {o:Oper} {act:Act} {Q:Exit→Act→World→Prop}
theorem JX (hgd:o.guard=none) (s x:Operand) (t:TypeId)
 (ho:o.op=.call { callee:=.builtin .append,args:=#[s,x],argTypes:=#[t,t] })
 (base:Nat) (e:TypeId) (i:TypeInfo) (z:Value) (size bytes:Nat) (ht:P.underlying t=some (.slice e)) (hi:P.info? e=some i) (hz:i.zero=some z)
 (hsize:i.size=size) (hby:i.bytes=bytes) (hzs:z.cells.size=size) (hsz:0<size)
 (v:Value) (n:Nat) (xs:List Value) (hs:act.eval s=v) (hown:w.ownsRow base e size v n xs)
 (ad:Addr) (m c:Nat) (news:List Value) (hx:act.eval x=.slice (some ad) m c) (hl:news.length=m*size) (hnews:∀ j u,news[j]? = some u→w.cell? (ad.add j)=some u) (h1:∀ u∈news,u.oneCell'=true)
 (h63:n+m≤maxLen) (hbytes:(n+m)*bytes≤140737488355328) (hbase:base≤w.heap.size)
 (h:∀ v' w',w'.ownsRow base e size v' (n+m) (xs++news)→w.grownBy w' v.ownBlock→w.drawn≤w'.drawn→wpList P ops Q rest (act.put o.dst v') w'):wpList P ops Q (o::rest) act w:=by
 refine wpList_plain hgd fun K hK=>?_
 obtain ⟨v',w',hr,h2,h3,h4⟩:=run_append_own (P:=P) w base t o.type e i z size bytes ht hi hz hsize hby hzs hsz v n xs hown ad m c news hl hnews h1 h63 hbytes hbase
 have hd:=ES ht hi hz hsize hby hzs hsz hown hl hnews h1 h63 hbytes hbase hr
 unfold Oper.wp execOp
 simp only [ho,resolve,invoke,builtin,Sem.run_bind,Sem.run_pure,Result.andThen_ok,List.map_toArray,List.map_cons,List.map_nil,hs,hx,hr]
 exact hK _ _ (h v' w' h2 h3 hd)
theorem HF (hgd:o.guard=none) (sl x:Operand) (t u:TypeId)
 (ho:o.op=.call { callee:=.builtin .append,args:=#[sl,x],argTypes:=#[t,u] })
 (base:Nat) (e:TypeId) (i:TypeInfo) (ht:P.underlying t=some (.slice e)) (hu:P.underlying u=some .string) (hi:P.info? e=some i) (hz:i.zero=some (.int .u8 0))
 (hsize:i.size=1) (hby:i.bytes=1)
 (v:Value) (n:Nat) (xs:List Value) (hs:act.eval sl=v) (hown:w.ownsRow base e 1 v n xs) (s:ByteArray) (hx:act.eval x=.string s)
 (h63:n+s.size≤maxLen) (hbytes:n+s.size≤140737488355328) (hbase:base≤w.heap.size)
 (h:∀ v' w',w'.ownsRow base e 1 v' (n+s.size) (xs++Lib.strCells s)→w.grownBy w' v.ownBlock→w.drawn≤w'.drawn→wpList P ops Q rest (act.put o.dst v') w'):wpList P ops Q (o::rest) act w:=by
 refine wpList_plain hgd fun K hK=>?_
 obtain ⟨v',w',hr,h2,h3,h4⟩:=Lib.run_append_own_string (P:=P) w base t u o.type e i ht hu hi hz hsize hby v n xs hown s h63 hbytes hbase
 have hd:=rZ ht hu hi hz hsize hby hown h63 hbytes hr
 unfold Oper.wp execOp
 simp only [ho,resolve,invoke,builtin,Sem.run_bind,Sem.run_pure,Result.andThen_ok,List.map_toArray,List.map_cons,List.map_nil,hs,hx,hr]
 exact hK _ _ (h v' w' h2 h3 hd)
end
theorem Ext.grown {w w':World} (h:Ext w w'):∃ q os,w'=Sort.grow (w.drewN q) os:=by
 refine ⟨w'.drawn - w.drawn,w'.heap.extract w.heap.size w'.heap.size,?_⟩
 have hd:=h.drawn
 have hs:=h.size
 have hh:w'.heap=w.heap++w'.heap.extract w.heap.size w'.heap.size:=by
  apply Array.ext_getElem?
  intro k
  rw [Array.getElem?_append]
  split
  ·rename_i hk;exact h.block k hk
  ·rename_i hk
   rw [Array.getElem?_extract]
   split
   ·congr 1;omega
   ·rw [Array.getElem?_eq_none];omega
 have h1:=h.os
 have h2:=h.tape
 have h3:=h.output
 cases w;cases w'
 simp only [Sort.grow,World.drewN,World.mk.injEq]at *
 subst h1 h2 h3
 exact ⟨hh,rfl,by omega,rfl,rfl⟩
end Go.Proofs.X
