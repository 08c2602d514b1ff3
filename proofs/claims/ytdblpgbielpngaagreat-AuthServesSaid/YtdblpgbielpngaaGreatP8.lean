/- Laws and walks that the proof of the statement is made of (part 8). -/
import Derived.Test.YtdblpgbielpngaaGreatRows
import Derived.Test.YtdblpgbielpngaaGreatP7
set_option linter.unusedSimpArgs false
set_option linter.unusedVariables false
set_option maxRecDepth 100000
set_option maxHeartbeats 20000000
namespace Go.Proofs.X
open Go.RowKit
variable {cs:Array Value} {held:Bool} {qt:Int} {ps rs:List (List UInt8 × Nat)} {ls:List (List UInt8)} {css css0 es:List (List Value)} {d l m n o qn s t x y z:List UInt8} {B a b base c e fuel i j k p q:Nat} {fz:Nat × Nat} {row:Option Nat} {r u v:Value} {w w' w0 w1 w2:World}
section
variable {P:Program} {w w':World} {d:Option Nat} {ty:TypeId} {ps:String} {af:Array Edge} {g:Option (Nat × Bool)}
end
section
variable {P:Program} {w w':World} {d:Option Nat} {ty:TypeId} {ps:String} {af:Array Edge} {g:Option (Nat × Bool)}
theorem Runs.addN {t u:TypeId} {x y:Operand} {a:Act} {m n:Nat} (hx:a.eval x=.int .i64 (m:Nat)) (hy:a.eval y=.int .i64 (n:Nat)) (h:m + n < 4611686018427387904) :
 Runs P (Oper.mk d (.binOp .add t x y u) ty ps af g) a w (.int .i64 ((m + n:Nat):Int)):=by
 have h1:=Runs.add (P:=P) (w:=w) (d:=d) (ty:=ty) (ps:=ps) (af:=af) (g:=g) (t:=t) (u:=u) hx hy aE
 rwa [show (m:Int) + (n:Int)=((m + n:Nat):Int) by omega] at h1
end
section
variable {P:Program} {ops:Array Oper} {rest:List Oper} {ts:List Value} {df:List Deferred} {ty:TypeId} {ps:String} {af:Array Edge} {g:Option (Nat × Bool)} {tys:Array TypeId}
end
def XL (f:FuncId) (l:List Rec) (p:Rec→Bool):Prop:=∀ r ∈ l,∀ w',Calls Tryz.prog f #[.agg #[aI r.name, .int .i64 r.kind, .int .i64 r.ttl,aI r.data]] w' (bC w' (.bool (p r)))
theorem HE (v:Value) (l:List Rec) (f:FuncId) (p:Rec→Bool) (w:World) (hv:Sl 4 w v (aJ l)) (he:Enters Tryz.prog f) (hf:XL f l p):Calls Tryz.prog 192 #[v, .func (.func f) #[] #[]] w (bC w (.int .i64 (rA p l))):=by
 have hle:=hv.le;have hlen:=aN l;go_enter Tryz.func192,Tryz.ntmps192
 (repeat' first | ((with_reducible refine cQ ?_);go_step) | ((with_reducible refine bM ?_);first | refine fN ?_ | (refine cV ?_ ?_ <;> intro hc)) | fail)
 go_loopw [5,8] (fun _ i wr=>∃ k:Nat,k≤l.length∧i=.int .i64 k∧Ext w wr∧(l.take k).any p=false) (fun _ i _=>l.length - (intOf i).toNat)
 case atStart=>exact ⟨0,Nat.zero_le _,rfl,Ext.refl _,rfl⟩
 case round =>
  obtain ⟨k,hk,rfl,hx,hall⟩:=hrel;have hv2:=hv.ext hx;by_cases hlt:k < l.length
  ·have hpe:=hv2.elem (iH hlt)
   (repeat' first | ((with_reducible refine cQ ?_);go_step) | ((with_reducible refine bM ?_);first | refine fN ?_ | (refine cV ?_ ?_ <;> intro hc)) | fail)
   refine gT he rfl rfl rfl (hf _ (List.getElem_mem hlt) _) ?_;rintro e w2 ⟨rfl,x2⟩;refine ⟨_,rfl,?_⟩;refine aD ?_;cases hp:p l[k] with
   | true =>
    (repeat' first | ((with_reducible refine cQ ?_);go_step) | ((with_reducible refine bM ?_);first | refine fN ?_ | (refine cV ?_ ?_ <;> intro hc)) | fail)
    go_ret;exact ⟨by rw [GT hlt hall hp];rfl,hx.trans x2⟩
   | false =>
    (repeat' first | ((with_reducible refine cQ ?_);go_step) | ((with_reducible refine bM ?_);first | refine fN ?_ | (refine cV ?_ ?_ <;> intro hc)) | fail)
    exact ⟨⟨k + 1,aE,by go_num,hx.trans x2,kF hlt hall hp⟩,by simp [intOf];omega⟩
  ·have:k=l.length:=aE;subst this;rw [List.take_length] at hall
   (repeat' first | ((with_reducible refine cQ ?_);go_step) | ((with_reducible refine bM ?_);first | refine fN ?_ | (refine cV ?_ ?_ <;> intro hc)) | fail)
   go_ret;exact ⟨by rw [GW hall];rfl,hx⟩
theorem zP (v:Value) (l:List Rec) (f:FuncId) (p:Rec→Bool) (w:World) (hv:Sl 4 w v (aJ l)) (he:Enters Tryz.prog f) (hf:XL f l p):Calls Tryz.prog 134 #[v, .func (.func f) #[] #[]] w (bC w (.bool (l.any p))):=by
 go_enter Tryz.func134,Tryz.ntmps134
 (repeat' first | ((with_reducible refine cQ ?_);go_step) | ((with_reducible refine bM ?_);first | refine fN ?_ | (refine cV ?_ ?_ <;> intro hc)) | fail)
 refine dL (enters_of Tryz.func192 rfl rfl) rfl rfl (HE v l f p _ hv he hf) ?_;intro w1 x1;refine aD ?_
 (repeat' first | ((with_reducible refine cQ ?_);go_step) | ((with_reducible refine bM ?_);first | refine fN ?_ | (refine cV ?_ ?_ <;> intro hc)) | fail)
 go_ret;exact ⟨by rw [← zY];rfl,x1⟩
theorem parts {l:List Rec} (hv:Sl 4 w v (aJ l)) {n:Nat} (hn:n≤l.length):Sl 4 w (dG v 4 0 n) (aJ (l.take n))∧Sl 4 w (dG v 4 n l.length) (aJ (l.drop n)):=by
 have hlen:=aN l;have a:=hv.cut (m:=0) (n:=n) aE aE;have b:=hv.cut (m:=n) (n:=l.length) aE aE;rw [← hlen,List.take_length,hlen] at b;exact ⟨by simpa [aJ,List.map_take] using a,by simpa [aJ,List.map_drop] using b⟩
def KL (v:Value):Nat:=match v with | .slice _ n _=>n | _=>0
theorem Sl.slLen (h:Sl k w v es):KL v=es.length:=by
 obtain ⟨a,cap,rfl,_⟩:=h;rfl
def ZEU (B:Nat) (q:ZE) (r:Value) (w':World):Prop:=∃ y,r=.tuple #[.agg #[aI q.o,y], .int .i64 q.e]∧SetsO B w' y q.l
theorem ZEU.bad {e:Int}:ZEU B (ZE.bad e) (.tuple #[.agg pE.toArray, .int .i64 e]) w':=⟨.slice none 0 0,rfl,SetsO.nil _ _⟩
section
variable {P:Program} {a:Act} {w:World} {Q:Exit→Act→World→Prop}
theorem DM {c body:Code} (l:Nat) (J:Act→World→Prop) (μ:Act→World→Nat) (hf:findLabel c l=some (Code.skip.seq body))
 (pass:∀ a w,J a w→body.wp P (Exit.jump l (fun a' w'=>J a' w'∧μ a' w' < μ a w) Q) a w)
 (first:(∀ a w,J a w→body.wp P (Exit.jump l J Q) a w)→c.wp P (Exit.jump l J Q) a w):(Code.scope c).wp P Q a w :=
 wp_scope_jumps l J μ hf (first fun a w h=>wp_mono (pass a w h) (by intro e a' w' hq;cases e <;> first | exact hq | exact ⟨hq.1,hq.2.1⟩)) (fun a w h=>by
  have h':=pass a w h;apply wp_seq_k;intro K hK;apply wp_skip;exact hK _ _ h')
end
section
variable {P:Program} {w w':World} {d:Option Nat} {ty:TypeId} {ps:String} {af:Array Edge} {g:Option (Nat × Bool)} {a:Act}
end
theorem ZEU.cell {q:ZE} (h:ZEU B q r w):∃ y,r=.tuple #[.agg #[aI q.o,y], .int .i64 q.e]∧SetsO B w y q.l∧y.oneCell'=true:=by
 obtain ⟨y,rfl,hy⟩:=h;obtain ⟨_,hq,_⟩:=hy.sets.sl;exact ⟨y,rfl,hy,hq.one⟩
theorem SecOk.withZ {s:SecR} (h:SecOk s) {l:List Rec} (he:(s.inst l).e=0):SecOk (s.withZ (s.inst l)):=by
 obtain ⟨a,b,_⟩:=h.inst (l:=l) he;refine ⟨h.og,h.retry,?_⟩;intro o l' e;simp only [SecR.withZ,Option.some.injEq,Prod.mk.injEq] at e;obtain ⟨rfl,rfl⟩:=e;exact ⟨a,b⟩
structure OpR where
 op:Int
 n:Int
 now:Int
 l:List Rec
theorem PV {l:List RSet} (h:dB l=0) {s:RSet} (hs:s ∈ l):aY l s.name s.kind=some s:=by
 obtain ⟨i,hi,rfl⟩:=List.mem_iff_getElem.1 hs;exact sU h hi
theorem TK {s:RSet} (h:gV s=true):1≤s.data.length∧s.data.length≤20:=by
 simp only [gV,Bool.and_eq_true,decide_eq_true_eq] at h;exact ⟨h.1.1.2,h.1.2⟩
def lT (o:List UInt8) (l:List RSet):Rec:=iE ((aY l o 6).getD bW) (jV o l)
structure Recs (o:List UInt8) (l:List RSet) (os:List Rec) (q:Nat):Prop where
 le:q≤os.length
 eq:aO l=wK os q (lT o l)
 non:∀ r ∈ os,eH r=false
 two:1≤os.length
theorem FM {l:List RSet} (h:ZoneOk o l):lT o l ∈ aO l∧eH (lT o l)=true∧(lT o l).name=o∧KG (lT o l)=(eK o l).serial:=by
 obtain ⟨s,hf,hs,hn,hk,hd,hp,hl⟩:=h.soaSet;have e:lT o l=iE s (jV o l):=by rw [lT,hf];rfl
 rw [e];refine ⟨?_,by simp [eH,iE,hk],hn,?_⟩
 ·unfold aO;refine List.mem_flatten.2 ⟨bV s,List.mem_map_of_mem hs,?_⟩;unfold bV;exact List.mem_map.2 ⟨jV o l,by rw [hd];simp,rfl⟩
 ·unfold KG fL iE;rw [hp,eK,if_pos (nL h)]
theorem KM {l:List RSet} (h:ZoneOk o l) {r:Rec} (hr:r ∈ aO l) (hk:eH r=true):r=lT o l:=by
 obtain ⟨s,hs,d,hd,rfl⟩:=oF hr;have h6:s.kind=6:=by
  unfold eH at hk;exact of_decide_eq_true hk
 have hn:=(h.one6 hs h6).1;have hf:aY l o 6=some s:=by rw [← hn,← h6];exact PV h.chk hs
 rw [h.only hs h6] at hd;rw [lT,hf,List.mem_singleton.1 hd];rfl
theorem FN {α:Type} {os:List α} {x y:α} (h:q≤os.length):y ∈ wK os q x↔y=x∨y ∈ os:=by
 unfold wK;rw [List.mem_append,List.mem_cons];constructor
 ·rintro (h1 | h1 | h1)
  ·exact .inr (List.mem_of_mem_take h1)
  ·exact .inl h1
  ·exact .inr (List.mem_of_mem_drop h1)
 ·rintro (h1 | h1)
  ·exact .inr (.inl h1)
  ·rw [← List.take_append_drop q os] at h1;rcases List.mem_append.1 h1 with h1 | h1
   ·exact .inl h1
   ·exact .inr (.inr h1)
theorem ZoneOk.recs {l:List RSet} (h:ZoneOk o l):∃ os q,Recs o l os q:=by
 obtain ⟨h1,h2,h3,_⟩:=FM h;have hnd:=h.nodup;have hle:((aO l).filter eH).length≤1:=by
  have hall:∀ x ∈ (aO l).filter eH,x=lT o l:=fun x hx=>by
   obtain ⟨a,b⟩:=List.mem_filter.1 hx;exact KM h a b
  have hn2:=hnd.filter (p:=eH)
  match hm:(aO l).filter eH with
  | []=>simp
  | [a]=>simp
  | a :: b :: t =>
   exfalso
   rw [hm] at hall hn2;have e1:=hall a bP;have e2:=hall b bP;rw [e1,e2] at hn2;simp at hn2
 rcases NT (aO l) hle with h4 | ⟨os,q,x,k1,k2,k3,k4⟩
 ·exact absurd (h4 _ h1) (by simp [h2])
 ·have hx:x=lT o l:=KM h (by rw [k2];exact (FN k1).2 (.inl rfl)) k3;subst hx;refine ⟨os,q,k1,k2,k4,?_⟩;obtain ⟨s,hs⟩:=Option.isSome_iff_exists.1 h.ns;have hsf:s ∈ l∧s.kind=2:=by
   unfold aY at hs;have a:=List.mem_of_find?_eq_some hs;have b:=List.find?_some hs;refine ⟨a,?_⟩;simp only [OY,Bool.and_eq_true,decide_eq_true_eq] at b;exact b.2
  obtain ⟨d1,d2⟩:=TK (h.may hsf.1);have hr:iE s (s.data[0]) ∈ aO l:=by
   unfold aO;refine List.mem_flatten.2 ⟨bV s,List.mem_map_of_mem hsf.1,?_⟩;unfold bV;exact List.mem_map.2 ⟨s.data[0],List.getElem_mem _,rfl⟩
  rw [k2] at hr;rcases (FN k1).1 hr with hr | hr
  ·exfalso
   have:eH (iE s s.data[0])=true:=by rw [hr];exact h2
   simp [eH,iE,hsf.2] at this
  ·exact List.length_pos_of_mem hr
theorem Recs.head {l:List RSet} {os:List Rec} (h:Recs o l os q) (hz:ZoneOk o l):TJ (aO l)=lT o l :: os:=by
 rw [h.eq,PU h.non (FM hz).2.1];rfl
theorem TL (room:Int) (ds:List DeltaR) (h:0≤room):((SY room ds).length:Int)=min (ds.length:Int) room:=by
 rw [SY,List.length_drop];omega
theorem YP {a b:List RSet} (ha:ZoneOk o a) (hb:ZoneOk o b):Ab o a o b=0:=by
 rw [Ab,if_pos (nL ha),if_pos (nL hb),if_pos rfl]
section
variable {retry n now:Int} (h1:1≤retry) (h2:retry≤100000) (h3:0≤n) (h4:n≤4294967295) (h5:0≤now) (h6:now≤1000000)
include h5 h6
end
section
variable {now:Int} (h5:0≤now) (h6:now≤1000000)
include h5 h6
end
section
variable {n now:Int} (h5:0≤now) (h6:now≤1000000)
include h5 h6
end
structure OpsAt (w:World) (v:Value) (ps:List OpR):Prop where
 out:∃ css,Sl 4 w v css∧css.length=ps.length∧∀ (i:Nat) (p:OpR),ps[i]? = some p→∃ u,css[i]? = some [.int .i64 p.op, .int .i64 p.n, .int .i64 p.now,u]∧Sl 4 w u (aJ p.l)
theorem OpsAt.ext {ps:List OpR} (h:OpsAt w v ps) (hx:Ext w w'):OpsAt w' v ps:=by
 obtain ⟨css,h1,h2,h3⟩:=h;exact ⟨css,h1.ext hx,h2,fun i z hi=>let ⟨u,a,b⟩:=h3 i z hi;⟨u,a,b.ext hx⟩⟩
section
variable {P:Program} {w:World} {ts:List Value} {df:List Deferred} {d:Option Nat} {ty:TypeId} {ps:String} {af:Array Edge} {g:Option (Nat × Bool)}
end
structure MsgsAt (w:World) (v:Value) (ms:List MsgR):Prop where
 out:∃ css,Sl 13 w v css∧css.length=ms.length∧∀ (i:Nat) (m:MsgR),ms[i]? = some m→∃ q a u e,css[i]? = some (aM m q a u e)∧MsgV w m q a u e
theorem MsgsAt.ext {ms:List MsgR} (h:MsgsAt w v ms) (hx:Ext w w'):MsgsAt w' v ms:=by
 obtain ⟨css,h1,h2,h3⟩:=h;exact ⟨css,h1.ext hx,h2,fun i m hi=>let ⟨q,a,u,e,b,c⟩:=h3 i m hi;⟨q,a,u,e,b,c.ext hx⟩⟩
theorem uP (a b:List Rec):aJ (a ++ b)=aJ a ++ aJ b:=by simp [aJ]
def fB:List Value:=[.int .i64 0, .bool false, .int .i64 0, .bool false, .bool false, .bool false, .bool false, .int .i64 0, .slice none 0 0, .slice none 0 0, .slice none 0 0, .slice none 0 0, .int .i64 0]
theorem bY {m:MsgR} {q a e:Value} (h:MsgV w m q a u e):(Value.agg (aM m q a u e).toArray).cells.all (·.oneCell')=true:=by
 have:=h.one;simp only [Value.cells,List.all_toArray,List.all_eq_true];exact this
open Go.ChangeShapes Go.WideShapes Go.ChangeAt
theorem PW {H:Type} {enc:TypeId × Value→H} {P:Program} {spare:Nat→Bool} {t:TypeId} {c:Value} {x:DataW H × List MemPlace} (ht:P.underlying t=some .bool) (h:DataW.trod enc P w base spare held fuel t [c]=some x):∃ b:Bool,c=.bool b:=by
 obtain ⟨b,h1,_⟩:=DataW.trod_bool ht h;exact ⟨b,by simpa using h1⟩
theorem gQ (v:Value) (l:List RSet) (w:World) (hv:SetsAt w v l) (hb:(aO l).length≤100000):Calls Tryz.prog 103 #[v] w (oQ w fun r w'=>Own w.heap.size 4 67 w' r (aJ (aO l))):=by
 obtain ⟨cv,hv1,hvl⟩:=hv.sl;have hle:=hv1.le;go_enter Tryz.func103,Tryz.ntmps103
 refine_lift DH ?_;intro _ _ _;go_loopw [3,4,5] (fun o i _ wr=>∃ k:Nat,k≤l.length∧i=.int .i64 k∧Ext w wr∧Own w.heap.size 4 67 wr o (aJ (lJ l k))) (fun _ i _ _=>l.length - (intOf i).toNat)
 case atStart=>exact ⟨0,Nat.zero_le _,rfl,Ext.refl _,Own.nil _ _ _ _⟩
 case round =>
  obtain ⟨k,hk,rfl,hx,ho⟩:=hrel;have hv2:=hv1.ext hx;by_cases hlt:k < l.length
  ·obtain ⟨x,h4,h4d⟩:=hv.elem (List.getElem?_eq_getElem hlt);have hdl:=aV l[k].data;have hdle:=h4d.le;refine_lift rS ?_;intro _ _ _ _;go_loopw [3,5] (fun o i wq=>∃ j:Nat,j≤l[k].data.length∧i=.int .i64 j∧Ext w wq∧Own w.heap.size 4 67 wq o (aJ (lJ l k ++ (l[k].data.take j).map (iE l[k])))) (fun _ i _=>l[k].data.length - (intOf i).toNat)
   case atStart=>exact ⟨0,Nat.zero_le _,rfl,hx,by simpa using ho⟩
   case round =>
    obtain ⟨j,hj,rfl,hxq,hoq⟩:=hrel;have hv3:=hv1.ext hxq;have h4q:=h4.ext hxq;have h4dq:=h4d.ext hxq;by_cases hlt2:j < l[k].data.length
    ·have h3:=h4d.elem (gU hlt2);have hle1:=JB l (k + 1);rw [pV hlt,List.length_append] at hle1;have hle2:(bV l[k]).length=l[k].data.length:=by simp [bV]
     have hcl:(aJ (lJ l k ++ (l[k].data.take j).map (iE l[k]))).length=(lJ l k).length + j:=by simp [aJ];omega
     refine_lift rS ?_;intro _ _ _ _;clear hv2 hv3 h4q h4dq;refine dV (S:=fun w'=>Ext w w') aR ?_;intro w5 x5 hh5;refine tk 0 ?_;refine aD ?_;refine tk 1 ?_;refine aD ?_;refine tk 2 ?_;refine aD ?_;refine tk 3 ?_;refine aD ?_;refine tk 4 ?_;refine aD ?_;refine tk 5 ?_;refine aD ?_;refine tk 6 ?_;refine aD ?_;refine tk 7 ?_;refine aD ?_;refine tk 8 ?_;refine aD ?_;refine tk 9 ?_;refine aD ?_;refine tk 10 ?_;refine aD ?_;refine tk 11 ?_;refine aD ?_;refine tk 12 ?_;refine aD ?_;refine tk 13 ?_;refine aD ?_;refine tk 14 ?_;refine aD ?_;refine tk 15 ?_;refine aD ?_;refine tk 16 ?_;refine aD ?_;refine tk 17 ?_;refine aD ?_;refine tk 18 ?_;refine aD ?_;refine tk 19 ?_;refine aD ?_;refine tk 20 ?_;refine aD ?_;refine tk 21 ?_;refine aD ?_;refine tk 22 ?_;refine aD ?_;refine tk 23 ?_;refine aD ?_;refine cU (i:=24) (v:=.agg #[aI l[k].name, .int .i64 l[k].kind, .int .i64 l[k].ttl,aI l[k].data[j]]) rfl rfl aR aR aR rfl (hxq.trans x5) (fun w' _=>Runs.build rfl (by kernel_rfl)) (fun _ _ _ h=>h) ?_;refine aD ?_;refine cG (i:=25) aR rfl rfl ?_;refine nG (e:=67) (k:=4) (bytes:=48) (xs:=[.agg #[aI l[k].name, .int .i64 l[k].kind, .int .i64 l[k].ttl,aI l[k].data[j]]]) (by simp [Value.cells]) fun v8 w8 x8 s8 sl8 _ => ?_;refine aD ?_;have hx8:=(hxq.trans x5).trans x8;refine aG ⟨hx8,?_⟩;refine cG (i:=26) aR rfl rfl ?_;have ho8:=(hoq.ext x5).ext x8;refine aZ (B:=w.heap.size) (e:=67) (k:=4) rfl ho8 rfl sl8 (by simp [Value.cells,aI,Value.oneCell']) hx8.size (by rw [hcl];simp;omega) ?_;intro v9 w9 o9 m9 k9;refine aD ?_;have x9:Ext w w9:=ho8.mvx m9 hx8 (Nat.le_refl _);have o9:Own w.heap.size 4 67 w9 v9 (aJ (lJ l k ++ (l[k].data.take (j + 1)).map (iE l[k]))):=by
      rw [iI hlt2,← List.append_assoc]
      simpa [aJ,Rec.cells,iE,Value.cells] using o9
     refine aG ⟨x9,?_⟩;refine cG (i:=27) aR rfl rfl ?_;refine_lift bR ?_;refine ⟨x9,?_⟩;refine dR aR ?_;refine_lift bR ?_;exact ⟨⟨j + 1,aE,by go_num,x9,o9⟩,by simp [intOf];omega⟩
    ·have:j=l[k].data.length:=aE;subst this;refine_lift lY fun _ => ?_;refine ⟨⟨k + 1,aE,by go_num,hxq,?_⟩,by simp [intOf];omega⟩;rw [pV hlt];rw [List.take_length] at hoq;exact hoq
  ·have:k=l.length:=aE;subst this;rw [EK] at ho;refine_lift lY fun _ => ?_;go_ret;exact ⟨_,rfl,hx,ho⟩
theorem FO (nm:List UInt8) (w:World):Calls Tryz.prog 89 #[aI nm] w (bC w (.int .i64 (dW nm))):=by
 have h:=rU nm w
 rwa [show (if (aP nm).isSome then (0:Int) else 1)=dW nm by unfold dW;rfl] at h
theorem sK (n a b:Int) (w:World):Calls Tryz.prog 74 #[.int .i64 n, .int .i64 a, .int .i64 b] w (bC w (.bool (gP n a b))):=by
 go_enter Tryz.func74,Tryz.ntmps74
 refine_lift tK (fun hc => ?_) (fun hc => ?_)
 all_goals
  go_ret;refine ⟨?_,Ext.refl _⟩;simp [gP];omega
theorem CE (q:rC) (w:World):Calls Tryz.prog 41 #[.agg #[aI q.1, .int .i64 q.2]] w (bC w (.bool (qG q))):=by
 go_enter Tryz.func41,Tryz.ntmps41
 refine_lift mS fun _ _ => ?_;refine kN (vs:=[aI q.1, .int .i64 q.2]) fun p w1 x1 hp => ?_;refine aD ?_;refine_lift cC fun _ _ => ?_;refine cY ((show Calls Tryz.prog 68 #[aI q.1] w1 (bC w1 (.int .i64 (dW q.1))) from YA q.1 w1)) fun w2 x2 => ?_;have hp2:=hp.ext x2;by_cases hcE:dW q.1=0
 ·rw [hcE];refine_lift aX ?_;refine cY (sK q.2 1 65535 _) fun w3 x3 => ?_;have hp3:=hp2.ext x3;cases hw:gP q.2 1 65535 with
  | false =>
   refine_lift aX ?_;go_ret;refine ⟨?_,(x1.trans x2).trans x3⟩;simp only [gP] at hw;simp [qG,hcE,hw]
  | true =>
   refine_lift aX ?_;go_ret;refine ⟨?_,(x1.trans x2).trans x3⟩;simp only [gP] at hw;simp [qG,hcE,hw]
 ·refine_lift tK (fun hc => ?_) (fun hc => ?_)
  all_goals first
   | (exfalso;contradiction)
   | skip
  go_ret;refine ⟨?_,x1.trans x2⟩;simp [qG,hcE]
theorem VZ (r:Rec) (w:World):Calls Tryz.prog 135 #[.agg #[aI r.name, .int .i64 r.kind, .int .i64 r.ttl,aI r.data]] w (bC w (.bool (!decide (aU r=0)))):=by
 go_enter Tryz.func135,Tryz.ntmps135
 refine_lift mS fun _ _ => ?_;refine kN (vs:=[aI r.name, .int .i64 r.kind, .int .i64 r.ttl,aI r.data]) fun p w1 x1 hp => ?_;refine aD ?_;refine_lift cC fun _ _ => ?_;refine cY (Aw r _) fun w2 x2 => ?_;refine_lift aX ?_;go_ret;exact ⟨rfl,x1.trans x2⟩
theorem xY (v:Value) (l:List Rec) (w:World) (hv:Sl 4 w v (aJ l)):Calls Tryz.prog 77 #[v] w (bC w (.bool (fV l))):=by
 have hlen:=aN l;go_enter Tryz.func77,Tryz.ntmps77
 refine_lift LP (fun hc => ?_) (fun _ _ hc => ?_)
 ·have h2:decide (l.length≤200)=true:=decide_eq_true aE;refine cY (zP v l _ (fun r => !decide (aU r=0)) _ hv (enters_of Tryz.func135 rfl rfl) (fun r _ w'=>VZ r w')) fun w1 x1 => ?_;refine_lift aX ?_;go_ret;refine ⟨?_,x1⟩;rw [fV,h2];rfl
 ·have h2:decide (l.length≤200)=false:=decide_eq_false aE;go_ret;refine ⟨?_,Ext.refl _⟩;rw [fV,h2];rfl
theorem FP (q:rC) (w:World):Calls Tryz.prog 76 #[.agg #[aI q.1, .int .i64 q.2]] w (bC w (.bool (!qG q))):=by
 go_enter Tryz.func76,Tryz.ntmps76
 refine_lift mS fun _ _ => ?_;refine kN (vs:=[aI q.1, .int .i64 q.2]) fun p w1 x1 hp => ?_;refine aD ?_;refine_lift cC fun _ _ => ?_;refine cY (CE q _) fun w2 x2 => ?_;refine_lift aX ?_;go_ret;exact ⟨rfl,x1.trans x2⟩
def XM (f:FuncId) (l:List rC) (p:rC→Bool):Prop:=∀ r ∈ l,∀ w',Calls Tryz.prog f #[.agg #[aI r.1, .int .i64 r.2]] w' (bC w' (.bool (p r)))
theorem pJ {l:List rC} (h:k < l.length):(cR l)[k]? = some [aI l[k].1, .int .i64 l[k].2]:=by
 simp [cR,List.getElem?_eq_getElem h]
theorem HF (v:Value) (l:List rC) (f:FuncId) (p:rC→Bool) (w:World) (hv:Sl 2 w v (cR l)) (he:Enters Tryz.prog f) (hf:XM f l p):Calls Tryz.prog 133 #[v, .func (.func f) #[] #[]] w (bC w (.int .i64 (rA p l))):=by
 have hle:=hv.le;have hlen:=dC l;go_enter Tryz.func133,Tryz.ntmps133
 refine_lift cC fun _ _ => ?_;go_loopw [5,8] (fun _ i wr=>∃ k:Nat,k≤l.length∧i=.int .i64 k∧Ext w wr∧(l.take k).any p=false) (fun _ i _=>l.length - (intOf i).toNat)
 case atStart=>exact ⟨0,Nat.zero_le _,rfl,Ext.refl _,rfl⟩
 case round =>
  obtain ⟨k,hk,rfl,hx,hall⟩:=hrel;have hv2:=hv.ext hx;by_cases hlt:k < l.length
  ·have hpe:=hv2.elem (pJ hlt);refine_lift DI ?_;intro _ _ _ _ _ _;refine gT he rfl rfl rfl (hf _ (List.getElem_mem hlt) _) ?_;rintro e w2 ⟨rfl,x2⟩;refine ⟨_,rfl,?_⟩;refine aD ?_;cases hp:p l[k] with
   | true =>
    refine_lift aX ?_;go_ret;exact ⟨by rw [GT hlt hall hp];rfl,hx.trans x2⟩
   | false =>
    refine_lift aX ?_;exact ⟨⟨k + 1,aE,by go_num,hx.trans x2,kF hlt hall hp⟩,by simp [intOf];omega⟩
  ·have:k=l.length:=aE;subst this;rw [List.take_length] at hall;refine_lift jS fun _ => ?_;go_ret;exact ⟨by rw [GW hall];rfl,hx⟩
theorem qY (v:Value) (l:List rC) (f:FuncId) (p:rC→Bool) (w:World) (hv:Sl 2 w v (cR l)) (he:Enters Tryz.prog f) (hf:XM f l p):Calls Tryz.prog 75 #[v, .func (.func f) #[] #[]] w (bC w (.bool (l.any p))):=by
 go_enter Tryz.func75,Tryz.ntmps75
 refine_lift cC fun _ _ => ?_;refine cY (HF v l f p _ hv he hf) fun w1 x1 => ?_;refine_lift aX ?_;go_ret;exact ⟨by rw [← zY];rfl,x1⟩
theorem lE {l:List rC} {b:Bool} (h:l.any (fun r => !qG r)=b):l.all qG = !b:=by
 rw [← h,List.all_eq_not_any_not]
theorem CF (m:MsgR) (q a u e:Value) (w:World) (hm:MsgV w m q a u e):Calls Tryz.prog 30 #[.agg (aM m q a u e).toArray] w (bC w (.int .i64 (cS m))):=by
 go_enter Tryz.func30,Tryz.ntmps30
 refine_lift mS fun _ _ => ?_;refine kN (vs:=aM m q a u e) fun p w1 x1 hp => ?_;refine aD ?_;unfold aM at hp;have hm0:=hm;obtain ⟨hq0,ha0,hu0,he0⟩:=hm;have hq1:=hq0.ext x1;have hm:=hm0;refine_lift cC fun _ _ => ?_
 all_goals first
  | (exfalso;contradiction)
  | (exfalso;omega)
  | skip
 refine cY (sK m.id 0 65535 _) fun w2 x2 => ?_;have hx2:=(Ext.refl w1).trans x2;have hp2:=hp.ext hx2;cases h2:gP m.id 0 65535 with
 | false =>
  refine_lift aX ?_
  all_goals first
   | (exfalso;contradiction)
   | (exfalso;omega)
   | skip
  go_ret;refine ⟨?_,x1.trans hx2⟩;simp [cS,h2]
 | true =>
  refine_lift aX ?_
  all_goals first
   | (exfalso;contradiction)
   | (exfalso;omega)
   | skip
  refine cY (sK m.op 0 15 _) fun w3 x3 => ?_;have hx3:=hx2.trans x3;have hp3:=hp.ext hx3;cases h3:gP m.op 0 15 with
  | false =>
   refine_lift aX ?_
   all_goals first
    | (exfalso;contradiction)
    | (exfalso;omega)
    | skip
   go_ret;refine ⟨?_,x1.trans hx3⟩;simp [cS,h2,h3]
  | true =>
   refine_lift aX ?_
   all_goals first
    | (exfalso;contradiction)
    | (exfalso;omega)
    | skip
   refine cY (sK m.rcode 0 15 _) fun w4 x4 => ?_;have hx4:=hx3.trans x4;have hp4:=hp.ext hx4;cases h4:gP m.rcode 0 15 with
   | false =>
    refine_lift aX ?_
    all_goals first
     | (exfalso;contradiction)
     | (exfalso;omega)
     | skip
    go_ret;refine ⟨?_,x1.trans hx4⟩;simp [cS,h2,h3,h4]
   | true =>
    by_cases hz:m.size=0
    ·clear hm0;by_cases hl:m.qs.length≤10
     ·have hl0:((cR m.qs).length:Int)≤10:=by rw [dC];omega
      refine_lift RO (fun hc _ _ hc => ?_) (fun hc hc _ _ => ?_) (fun hc => ?_)
      all_goals first
       | (exfalso;contradiction)
       | (exfalso;omega)
       | skip
      refine cY (qY q m.qs _ (fun r => !qG r) _ ((hm.qs.ext x1).ext hx4) (enters_of Tryz.func76 rfl rfl) (fun r _ w'=>FP r w')) fun w7 x7 => ?_;have hx7:=hx4.trans x7;have hp7:=hp.ext hx7;cases h7:m.qs.any (fun r => !qG r) with
      | true =>
       refine_lift aX ?_
       all_goals first
        | (exfalso;contradiction)
        | (exfalso;omega)
        | skip
       go_ret;refine ⟨?_,x1.trans hx7⟩;simp [cS,h2,h3,h4,hz,hl,lE h7]
      | false =>
       refine_lift qQ fun _ _ _ _ => ?_
       all_goals first
        | (exfalso;contradiction)
        | (exfalso;omega)
        | skip
       refine cY (xY a m.an _ ((hm.an.ext x1).ext hx7)) fun w8 x8 => ?_;have hx8:=hx7.trans x8;have hp8:=hp.ext hx8;cases h8:fV m.an with
       | false =>
        refine_lift aX ?_
        all_goals first
         | (exfalso;contradiction)
         | (exfalso;omega)
         | skip
        go_ret;refine ⟨?_,x1.trans hx8⟩;simp [cS,h2,h3,h4,hz,hl,lE h7,h8]
       | true =>
        refine_lift aX ?_
        all_goals first
         | (exfalso;contradiction)
         | (exfalso;omega)
         | skip
        refine cY (xY u m.au _ ((hm.au.ext x1).ext hx8)) fun w9 x9 => ?_;have hx9:=hx8.trans x9;have hp9:=hp.ext hx9;cases h9:fV m.au with
        | false =>
         refine_lift aX ?_
         all_goals first
          | (exfalso;contradiction)
          | (exfalso;omega)
          | skip
         go_ret;refine ⟨?_,x1.trans hx9⟩;simp [cS,h2,h3,h4,hz,hl,lE h7,h8,h9]
        | true =>
         refine_lift aX ?_
         all_goals first
          | (exfalso;contradiction)
          | (exfalso;omega)
          | skip
         refine cY (xY e m.ex _ ((hm.ex.ext x1).ext hx9)) fun w10 x10 => ?_;have hx10:=hx9.trans x10;have hp10:=hp.ext hx10;cases h10:fV m.ex with
         | false =>
          refine_lift aX ?_
          all_goals first
           | (exfalso;contradiction)
           | (exfalso;omega)
           | skip
          go_ret;refine ⟨?_,x1.trans hx10⟩;simp [cS,h2,h3,h4,hz,hl,lE h7,h8,h9,h10]
         | true =>
          refine_lift aX ?_
          all_goals first
           | (exfalso;contradiction)
           | (exfalso;omega)
           | skip
          go_ret;refine ⟨?_,x1.trans hx10⟩;simp [cS,h2,h3,h4,hz,hl,lE h7,h8,h9,h10]
     ·have hl0:¬ ((cR m.qs).length:Int)≤10:=by rw [dC];omega
      refine_lift RO (fun hc _ _ hc => ?_) (fun hc hc _ _ => ?_) (fun hc => ?_)
      all_goals first
       | (exfalso;contradiction)
       | (exfalso;omega)
       | skip
      go_ret;refine ⟨?_,x1.trans hx4⟩;simp [cS,h2,h3,h4,hz,hl]
    ·clear hm0;refine_lift RO (fun hc _ _ hc => ?_) (fun hc hc _ _ => ?_) (fun hc => ?_)
     all_goals first
      | (exfalso;contradiction)
      | (exfalso;omega)
      | skip
     refine cY (sK m.size 512 65535 _) fun w6 x6 => ?_;have hx6:=hx4.trans x6;have hp6:=hp.ext hx6;cases h6:gP m.size 512 65535 with
     | false =>
      refine_lift aX ?_
      all_goals first
       | (exfalso;contradiction)
       | (exfalso;omega)
       | skip
      go_ret;refine ⟨?_,x1.trans hx6⟩;simp [cS,h2,h3,h4,hz,h6]
     | true =>
      by_cases hl:m.qs.length≤10
      ·have hl0:((cR m.qs).length:Int)≤10:=by rw [dC];omega
       refine_lift rT (fun hc _ _ => ?_) (fun _ _ hc => ?_)
       all_goals first
        | (exfalso;contradiction)
        | (exfalso;omega)
        | skip
       refine cY (qY q m.qs _ (fun r => !qG r) _ ((hm.qs.ext x1).ext hx6) (enters_of Tryz.func76 rfl rfl) (fun r _ w'=>FP r w')) fun w8 x8 => ?_;have hx8:=hx6.trans x8;have hp8:=hp.ext hx8;cases h8:m.qs.any (fun r => !qG r) with
       | true =>
        refine_lift aX ?_
        all_goals first
         | (exfalso;contradiction)
         | (exfalso;omega)
         | skip
        go_ret;refine ⟨?_,x1.trans hx8⟩;simp [cS,h2,h3,h4,hz,h6,hl,lE h8]
       | false =>
        refine_lift qQ fun _ _ _ _ => ?_
        all_goals first
         | (exfalso;contradiction)
         | (exfalso;omega)
         | skip
        refine cY (xY a m.an _ ((hm.an.ext x1).ext hx8)) fun w9 x9 => ?_;have hx9:=hx8.trans x9;have hp9:=hp.ext hx9;cases h9:fV m.an with
        | false =>
         refine_lift aX ?_
         all_goals first
          | (exfalso;contradiction)
          | (exfalso;omega)
          | skip
         go_ret;refine ⟨?_,x1.trans hx9⟩;simp [cS,h2,h3,h4,hz,h6,hl,lE h8,h9]
        | true =>
         refine_lift aX ?_
         all_goals first
          | (exfalso;contradiction)
          | (exfalso;omega)
          | skip
         refine cY (xY u m.au _ ((hm.au.ext x1).ext hx9)) fun w10 x10 => ?_;have hx10:=hx9.trans x10;have hp10:=hp.ext hx10;cases h10:fV m.au with
         | false =>
          refine_lift aX ?_
          all_goals first
           | (exfalso;contradiction)
           | (exfalso;omega)
           | skip
          go_ret;refine ⟨?_,x1.trans hx10⟩;simp [cS,h2,h3,h4,hz,h6,hl,lE h8,h9,h10]
         | true =>
          refine_lift aX ?_
          all_goals first
           | (exfalso;contradiction)
           | (exfalso;omega)
           | skip
          refine cY (xY e m.ex _ ((hm.ex.ext x1).ext hx10)) fun w11 x11 => ?_;have hx11:=hx10.trans x11;have hp11:=hp.ext hx11;cases h11:fV m.ex with
          | false =>
           refine_lift aX ?_
           all_goals first
            | (exfalso;contradiction)
            | (exfalso;omega)
            | skip
           go_ret;refine ⟨?_,x1.trans hx11⟩;simp [cS,h2,h3,h4,hz,h6,hl,lE h8,h9,h10,h11]
          | true =>
           refine_lift aX ?_
           all_goals first
            | (exfalso;contradiction)
            | (exfalso;omega)
            | skip
           go_ret;refine ⟨?_,x1.trans hx11⟩;simp [cS,h2,h3,h4,hz,h6,hl,lE h8,h9,h10,h11]
      ·have hl0:¬ ((cR m.qs).length:Int)≤10:=by rw [dC];omega
       refine_lift rT (fun hc _ _ => ?_) (fun _ _ hc => ?_)
       all_goals first
        | (exfalso;contradiction)
        | (exfalso;omega)
        | skip
       go_ret;refine ⟨?_,x1.trans hx6⟩;simp [cS,h2,h3,h4,hz,h6,hl]
theorem zE (q:rC) (w:World):Calls Tryz.prog 48 #[.agg #[aI q.1, .int .i64 q.2]] w (bC w (.bool (qG q))):=by
 go_enter Tryz.func48,Tryz.ntmps48
 refine_lift mS fun _ _ => ?_;refine kN (vs:=[aI q.1, .int .i64 q.2]) fun p w1 x1 hp => ?_;refine aD ?_;refine_lift cC fun _ _ => ?_;refine cY (FO q.1 w1) fun w2 x2 => ?_;have hp2:=hp.ext x2;have hx2:=x1.trans x2;by_cases hcE:dW q.1=0
 ·rw [hcE];refine_lift ED (fun hc hc => ?_) (fun hc => ?_) (fun hc hc => ?_)
  all_goals
   go_ret;refine ⟨?_,hx2⟩;simp [qG,hcE];omega
 ·refine_lift xN (fun hc hc hc => ?_) (fun hc hc => ?_) (fun hc => ?_) (fun hc hc hc => ?_)
  all_goals first
   | (exfalso;contradiction)
   | skip
  go_ret;refine ⟨?_,hx2⟩;simp [qG,hcE]
theorem MM (v:Value) (l:List Rec) (w:World) (hv:Sl 4 w v (aJ l)) (hd:∀ r ∈ l,r.data.length≤4611686018427387904):Calls Tryz.prog 92 #[v] w (bC w (.bool (fV l))):=by
 have hlen:=aN l;have hle:=hv.le;go_enter Tryz.func92,Tryz.ntmps92
 refine_lift RN (fun _ _ _ => ?_) (fun _ => ?_)
 ·have h2:decide (l.length≤200)=false:=decide_eq_false (by have:=‹200 < ((aJ l).length:Int)›;omega);go_ret;refine ⟨?_,Ext.refl _⟩;rw [fV,h2];rfl
 ·have h2:decide (l.length≤200)=true:=decide_eq_true (by have:=‹((aJ l).length:Int)≤200›;omega);go_loopw [3] (fun i wr=>∃ k:Nat,k≤l.length∧i=.int .i64 k∧Ext w wr∧(l.take k).any (fun r => !decide (aU r=0))=false) (fun i _=>l.length - (intOf i).toNat)
  case atStart=>exact ⟨0,Nat.zero_le _,rfl,Ext.refl _,rfl⟩
  case round =>
   obtain ⟨k,hk,rfl,hx,hall⟩:=hrel;have hv2:=hv.ext hx;by_cases hlt:k < l.length
   ·have h1:=hv2.elem (iH hlt);have hdk:=hd _ (List.getElem_mem hlt);refine_lift DI ?_;intro _ _ _ _ _ _;refine cY (BN l[k] _ hdk) fun w4 x4 => ?_;by_cases hc0:aU l[k]=0
    ·rw [hc0];refine_lift aX ?_;exact ⟨⟨k + 1,aE,rfl,hx.trans x4,kF hlt hall (by simp [hc0])⟩,by simp [intOf];omega⟩
    ·refine_lift tK (fun _ => ?_) (fun _ => ?_)
     all_goals first
      | (exfalso;have hh:=‹(!decide (aU l[k]=0))=false›;simp [hc0] at hh;done)
      | skip
     go_ret;refine ⟨?_,hx.trans x4⟩;have:l.any (fun r => !decide (aU r=0))=true:=List.any_eq_true.2 ⟨l[k],List.getElem_mem hlt,by simp [hc0]⟩;rw [fV,this,Bool.not_true,Bool.and_false];rfl
   ·have hk2:k=l.length:=aE;subst hk2;rw [List.take_length] at hall;refine_lift jS fun _ => ?_;go_ret;refine ⟨?_,hx⟩;rw [fV,h2,hall];rfl
theorem CG (m:MsgR) (q a u e:Value) (w:World) (hm:MsgV w m q a u e) (hd:∀ r,r ∈ m.an∨r ∈ m.au∨r ∈ m.ex→r.data.length≤4611686018427387904):Calls Tryz.prog 50 #[.agg (aM m q a u e).toArray] w (bC w (.int .i64 (cS m))):=by
 have hql:=dC m.qs;have hqle:=hm.qs.le;go_enter Tryz.func50,Tryz.ntmps50
 refine_lift mS fun _ _ => ?_;refine kN (vs:=aM m q a u e) fun p w1 x1 hp => ?_;refine aD ?_;unfold aM at hp;have hq1:=hm.qs.ext x1
 (repeat' first | ((with_reducible refine cQ ?_);go_step) | ((with_reducible refine bM ?_);first | refine gR ?_ | (refine cV ?_ ?_ <;> intro hc)) | fail)
 all_goals try simp only [Bool.not_eq_true',decide_eq_false_iff_not,Bool.not_eq_false',decide_eq_true_eq] at *
 all_goals first
  | (go_ret
     refine ⟨?_,x1⟩;rw [cS,if_neg (by simp only [gP,Bool.and_eq_true,decide_eq_true_eq,Bool.or_eq_true];omega)];rfl)
  | skip
 all_goals
  have hA:(gP m.id 0 65535 && gP m.op 0 15 && gP m.rcode 0 15 && (decide (m.size=0) || gP m.size 512 65535))=true:=by
   simp only [gP,Bool.and_eq_true,decide_eq_true_eq,Bool.or_eq_true];omega
  have hB:decide (m.qs.length≤10)=true:=decide_eq_true aE;have hC:cS m=if m.qs.all qG && (fV m.an && fV m.au && fV m.ex) then 0 else 1:=by
   rw [cS,hA,hB,Bool.true_and,Bool.true_and]
  clear hA hB;go_loopw [3] (fun i wr=>∃ k:Nat,k≤m.qs.length∧i=.int .i64 k∧Ext w1 wr∧(m.qs.take k).all qG=true) (fun i _=>m.qs.length - (intOf i).toNat)
  case atStart=>exact ⟨0,Nat.zero_le _,rfl,Ext.refl _,rfl⟩
  case round =>
   obtain ⟨k,hk,rfl,hx,hall⟩:=hrel;have hq2:=hq1.ext hx;have hp2:=hp.ext hx;by_cases hlt:k < m.qs.length
   ·have h1:=hq2.elem (pJ hlt);refine_lift DI ?_;intro _ _ _ _ _ _;refine cY (zE m.qs[k] _) fun w4 x4 => ?_;cases hc0:qG m.qs[k] with
    | true =>
     refine_lift aX ?_;exact ⟨⟨k + 1,aE,rfl,hx.trans x4,rX hlt hall hc0⟩,by simp [intOf];omega⟩
    | false =>
     refine_lift aX ?_;go_ret;refine ⟨?_,x1.trans (hx.trans x4)⟩;rw [hC,xP hlt hc0];rfl
   ·have hk2:k=m.qs.length:=aE;subst hk2;rw [List.take_length] at hall;rw [hall,Bool.true_and] at hC;refine_lift QV fun _ _ _ _ _ => ?_;refine cY (MM a m.an _ ((hm.an.ext x1).ext hx) (fun r hr=>hd r (.inl hr))) fun w4 x4 => ?_;have hx4:=hx.trans x4;have hp4:=hp.ext hx4;cases h4:fV m.an with
    | false =>
     refine_lift aX ?_;go_ret;refine ⟨?_,x1.trans hx4⟩;rw [hC,h4];rfl
    | true =>
     refine_lift aX ?_;refine cY (MM u m.au _ ((hm.au.ext x1).ext hx4) (fun r hr=>hd r (.inr (.inl hr)))) fun w5 x5 => ?_;have hx5:=hx4.trans x5;have hp5:=hp.ext hx5;cases h5:fV m.au with
     | false =>
      refine_lift aX ?_;go_ret;refine ⟨?_,x1.trans hx5⟩;rw [hC,h4,h5];rfl
     | true =>
      refine_lift aX ?_;refine cY (MM e m.ex _ ((hm.ex.ext x1).ext hx5) (fun r hr=>hd r (.inr (.inr hr)))) fun w6 x6 => ?_;have hx6:=hx5.trans x6;cases h6:fV m.ex with
      | false =>
       refine_lift aX ?_;go_ret;refine ⟨?_,x1.trans hx6⟩;rw [hC,h4,h5,h6];rfl
      | true =>
       refine_lift aX ?_;go_ret;refine ⟨?_,x1.trans hx6⟩;rw [hC,h4,h5,h6];rfl
structure MsgsV (B:Nat) (w:World) (v:Value) (ms:List MsgR):Prop where
 out:∃ css,Own B 13 48 w v css∧css.length=ms.length∧∀ (i:Nat) (m:MsgR),ms[i]? = some m→∃ q a,css[i]? = some (aM m q a (.slice none 0 0) (.slice none 0 0))∧Own B 2 45 w q (cR m.qs)∧Own B 4 67 w a (aJ m.an)∧m.au=[]∧m.ex=[]
theorem MsgsV.nil (B:Nat) (w:World):MsgsV B w (.slice none 0 0) []:=⟨[],Own.nil _ _ _ _,rfl,bP⟩
theorem MsgsV.ext {ms:List MsgR} (h:MsgsV B w v ms) (hx:Ext w w'):MsgsV B w' v ms:=by
 obtain ⟨css,h1,h2,h3⟩:=h;exact ⟨css,h1.ext hx,h2,fun i m hi=>let ⟨q,a,b,c,d,e,f⟩:=h3 i m hi;⟨q,a,b,c.ext hx,d.ext hx,e,f⟩⟩
theorem MsgsV.weaken {C:Nat} {ms:List MsgR} (h:MsgsV B w v ms) (hc:C≤B):MsgsV C w v ms:=by
 obtain ⟨css,h1,h2,h3⟩:=h;exact ⟨css,h1.weaken hc,h2,fun i m hi=>let ⟨q,a,b,c,d,e,f⟩:=h3 i m hi;⟨q,a,b,c.weaken hc,d.weaken hc,e,f⟩⟩
theorem MsgsV.put {t:Nat} {ms:List MsgR} {o:Obj} (h:MsgsV B w v ms) (hb:w.heap[b]? = some (.cells cs t fz)) (h1:t≠48) (h2:t≠45) (h3:t≠67) (hp:Put w w' b o):MsgsV B w' v ms:=by
 obtain ⟨css,a,c,e⟩:=h;exact ⟨css,a.mv hp.mv (.inr (a.neBlock hb h1)),c,fun i d hi=>let ⟨g,n,x,y,z,u⟩:=e i d hi;⟨g,n,x,y.mv hp.mv (.inr (y.neBlock hb h2)),z.mv hp.mv (.inr (z.neBlock hb h3)),u⟩⟩
theorem MsgsV.add {v' q a:Value} {ms:List MsgR} {m:MsgR} (h1:Own B 13 48 w v css) (h2:css.length=ms.length)
 (h3:∀ (i:Nat) (m:MsgR),ms[i]? = some m→∃ q a,css[i]? = some (aM m q a (.slice none 0 0) (.slice none 0 0))∧Own B 2 45 w q (cR m.qs)∧Own B 4 67 w a (aJ m.an)∧m.au=[]∧m.ex=[]) (hm:Mv v.ownBlock w w')
 (o:Own B 13 48 w' v' (css ++ [aM m q a (.slice none 0 0) (.slice none 0 0)])) (hq:Own B 2 45 w q (cR m.qs)) (ha:Own B 4 67 w a (aJ m.an)) (hu:m.au=[]) (he:m.ex=[]):MsgsV B w' v' (ms ++ [m]):=by
 refine ⟨_,o,by simp [h2],fun i x hi => ?_⟩;by_cases hlt:i < ms.length
 ·rw [List.getElem?_append_left hlt] at hi;obtain ⟨q',a',b,c,d,e⟩:=h3 i x hi;exact ⟨q',a',by rw [List.getElem?_append_left aE];exact b,c.mv hm (c.ne h1 bG),d.mv hm (d.ne h1 bG),e⟩
 ·rw [List.getElem?_append_right aE] at hi;have hi0:i - ms.length=0:=by
   have:=(List.getElem?_eq_some_iff.1 hi).1;simp only [List.length_cons,List.length_nil] at this;omega
  rw [hi0] at hi;have hx:m=x:=by simpa using hi
  subst hx;have:i=css.length:=aE;subst this;exact ⟨q,a,by rw [List.getElem?_append_right (Nat.le_refl _)];simp,hq.mv hm (hq.ne h1 bG),ha.mv hm (ha.ne h1 bG),hu,he⟩
theorem uQ {l:List rC}:∀ f ∈ cR l,∀ u ∈ f,u.oneCell'=true:=by
 intro f hf u hu;simp only [cR,List.mem_map] at hf;obtain ⟨q,_,rfl⟩:=hf;simp only [List.mem_cons,List.not_mem_nil,or_false] at hu;rcases hu with rfl | rfl <;> rfl
def WA (l:List Rec) (z:List UInt8):List Rec:=l.filter fun r=>decide (aU r=0) && bO r.name z
structure JudR where
 qn:List UInt8
 qt:Int
 zone:List UInt8
 code:Int
 an:List Rec
 au:List Rec
def Al (a b:List UInt8):Bool:=decide (fold a=fold b)
def Am (n:List UInt8):Int:=(((aP n).getD []).length:Nat)
def JudR.step (j:JudR) (s:List UInt8 × Int) (r:Rec):List UInt8 × Int :=
 if r.kind=2∧bO j.qn (fold r.name)=true∧Al (fold r.name) j.zone=false∧s.2 < Am (fold r.name) then (fold r.name,Am (fold r.name)) else s
def JudR.best (j:JudR):List UInt8 × Int:=j.au.foldl j.step ([],-1)
structure ActR where
 kind:Int
 to:Int
 qn:List UInt8
 qt:Int
 code:Int
 ans:List Rec
 auth:List Rec
 deriving DecidableEq
structure TaskR where
 qn:List UInt8
 qt:Int
 roots:List Int
 zone:List UInt8
 servers:List Int
 got:List Rec
 chain:Int
 left:Int
 stop:Option ActR
def TaskR.done (t:TaskR) (code:Int) (ans auth:List Rec):TaskR × ActR:=({ t with stop:=some ⟨2,0,[],0,code,ans,auth⟩ },⟨2,0,[],0,code,ans,auth⟩)
def TaskR.on (t:TaskR):TaskR × ActR:=match t.servers with
 | []=>t.done 2 [] []
 | s :: rest=>if t.left=0 then t.done 2 [] [] else ({ t with servers:=rest,left:=t.left - 1 },⟨1,s,t.qn,t.qt,0,[],[]⟩)
def An (r:Rec):Rec:={ r with name:=fold r.name }
def TaskR.of (t:TaskR) (l:List Rec) (n:List UInt8) (k:Int):List Rec :=
 ((WA l t.zone).map An).filter fun r=>decide (r.name=fold n) && (decide (r.kind=k) || decide (k=255))
structure TaskOk (t:TaskR):Prop where
 left:0≤t.left
 zone:t.zone=[]∨bO t.zone t.zone=true
 stop:∀ a,t.stop=some a→a.kind=2
def YQ (t t':TaskR) (a:ActR):Prop:=(a.kind=1∧t.stop=none∧t'.stop=none∧t'.left=t.left - 1∧1≤t.left)∨(a.kind=2∧t'.stop=some a∧t'.left=t.left)
theorem TaskOk.step {t t':TaskR} {a:ActR} (ht:TaskOk t) (h:YQ t t' a) (hz:t'.zone=[]∨bO t'.zone t.zone=true):TaskOk t':=by
 refine ⟨?_,?_,?_⟩
 ·have:=ht.left;rcases h with ⟨_,_,_,h,k⟩ | ⟨_,_,h⟩ <;> omega
 ·rcases hz with hz | hz
  ·exact .inl hz
  ·exact .inr (pZ (mM hz).1)
 ·intro b hb;rcases h with ⟨_,_,h,_⟩ | ⟨h1,h2,_⟩
  ·rw [h] at hb;cases hb
  ·rw [h2] at hb;cases hb;exact h1
def TM:List Value:=[aI [], .int .i64 0, .int .i64 0,aI []]
def RecFnC (w:World) (f:FuncId) (caps:Array Value) (l:List Rec) (p:Rec→Bool):Prop:=∀ r ∈ l,∀ w',Ext w w'→Calls Tryz.prog f ([Value.agg #[aI r.name, .int .i64 r.kind, .int .i64 r.ttl,aI r.data]].toArray ++ caps) w' (bC w' (.bool (p r)))
theorem RecFnC.ext {f:FuncId} {caps:Array Value} {l:List Rec} {p:Rec→Bool} (h:RecFnC w f caps l p) (hx:Ext w w1):RecFnC w1 f caps l p :=
 fun r hr w' hx'=>h r hr w' (hx.trans hx')
def YR (a:ActR) (v1 v2:Value):List Value:=[.int .i64 a.kind, .int .i64 a.to,aI a.qn, .int .i64 a.qt, .int .i64 a.code,v1,v2]
theorem WB {a:ActR} {v1 v2:Value} (h1:v1.oneCell'=true) (h2:v2.oneCell'=true):(Value.agg (YR a v1 v2).toArray).cells.all (·.oneCell')=true:=by
 have k1:∀ s,(aI s).oneCell'=true:=fun _=>rfl;have k2:∀ n,(Value.int .i64 n).oneCell'=true:=fun _=>rfl;simp [YR,Value.cells,h1,h2,k1,k2]
structure ActV (w:World) (v:Value) (a:ActR):Prop where
 out:∃ v1 v2,v=.agg (YR a v1 v2).toArray∧Own 0 4 67 w v1 (aJ a.ans)∧Own 0 4 67 w v2 (aJ a.auth)
theorem ActV.ext {a:ActR} (h:ActV w v a) (hx:Ext w w'):ActV w' v a:=by
 obtain ⟨v1,v2,h1,h2,h3⟩:=h.out;exact ⟨v1,v2,h1,h2.ext hx,h3.ext hx⟩
theorem Mv.fresh (h:Mv row w w1) (k:Mv (some c) w1 w2) (hc:w.heap.size≤c):Mv row w w2 :=
 ⟨k.os.trans h.os,k.tape.trans h.tape,k.output.trans h.output,Nat.le_trans h.size k.size,
  fun j hj hn=>by rw [k.block j (Nat.lt_of_lt_of_le hj h.size) (by intro e;have:=Option.some.inj e;omega),h.block j hj hn],Nat.le_trans h.drawn k.drawn⟩
theorem ActV.one {a:ActR} (h:ActV w v a):v.cells.all (·.oneCell')=true:=by
 obtain ⟨v1,v2,rfl,h2,h3⟩:=h.out;exact WB h2.one h3.one
theorem ActV.size {a:ActR} (h:ActV w v a):v.cells.size=7:=by
 obtain ⟨v1,v2,rfl,h2,h3⟩:=h.out;rfl
theorem ActV.put {a:ActR} {t:Nat} {o:Obj} (h:ActV w v a) (hp:Put w w' c o) (hc:w.heap[c]? = some (.cells cs t fz)) (ht:t≠67):ActV w' v a:=by
 obtain ⟨v1,v2,h1,h2,h3⟩:=h.out;exact ⟨v1,v2,h1,h2.mv hp.mv (.inr (h2.neBlock hc ht)),h3.mv hp.mv (.inr (h3.neBlock hc ht))⟩
theorem NU:WideMaps.KeyLaw Tryz.prog 32:=WideMaps.string_law Tryz.underlying32
theorem WC (n:List UInt8) (hn:n.length≤1000000):∃ l,keyOf Tryz.prog 32 (aI n)=some l :=
 ⟨_,WideMaps.keyOf_string_mk Tryz.underlying32 (by rw [gG];unfold maxLen;omega)⟩
structure TaskB (t:TaskR) (n:Nat):Prop where
 l0:0≤t.left
 l1:t.left≤1000
 c0:0≤t.chain
 c1:t.chain≤8
 got:t.got.length≤n
 stop:∀ a,t.stop=some a→a.ans.length≤n∧a.auth.length≤1
theorem TaskB.weaken {t:TaskR} {n n':Nat} (h:TaskB t n) (hn:n≤n'):TaskB t n':=⟨h.l0,h.l1,h.c0,h.c1,Nat.le_trans h.got hn,fun a ha=>⟨Nat.le_trans (h.stop a ha).1 hn,(h.stop a ha).2⟩⟩
theorem TaskB.fin {t:TaskR} {n:Nat} (h:TaskB t n) (c:Int) {x y:List Rec} (hx:x.length≤n) (hy:y.length≤1):TaskB (t.done c x y).1 n :=
 ⟨h.l0,h.l1,h.c0,h.c1,h.got,fun a ha=>by cases ha;exact ⟨hx,hy⟩⟩
theorem TaskB.on {t:TaskR} {n:Nat} (h:TaskB t n) (hs:t.stop=none):TaskB t.on.1 n:=by
 unfold TaskR.on;split
 ·exact h.fin 2 (Nat.zero_le _) (Nat.zero_le _)
 ·split
  ·exact h.fin 2 (Nat.zero_le _) (Nat.zero_le _)
  ·rename_i c;have:=h.l0;have:=h.l1;exact ⟨by dsimp only;omega,by dsimp only;omega,h.c0,h.c1,h.got,fun a ha=>h.stop a ha⟩
theorem HG (h:Own B k e w v es) (c:Nat) (hc:w.heap.size≤c):v.ownBlock=none∨v.ownBlock≠some c:=by
 by_cases e:v.ownBlock=some c
 ·have:=(h.block c e).2;omega
 ·exact .inr e
theorem Mv.fresh' {row2:Option Nat} (h:Mv row w w1) (k:Mv row2 w1 w2) (hc:∀ c,row2=some c→w.heap.size≤c):Mv row w w2 :=
 ⟨k.os.trans h.os,k.tape.trans h.tape,k.output.trans h.output,Nat.le_trans h.size k.size,
  fun j hj hn=>by rw [k.block j (Nat.lt_of_lt_of_le hj h.size) (by intro e;have:=hc j e.symm;omega),h.block j hj hn],Nat.le_trans h.drawn k.drawn⟩
theorem MapAt.mvr {P:Program} {kt:TypeId} {m:Nat} {ents:List (Value × Value)} (h:MapAt P kt w m ents) (hm:Mv row w w') (ho:Own B k e w v es) (hr:row=v.ownBlock):MapAt P kt w' m ents:=by
 obtain ⟨es',ck,h1,_⟩:=h.out;exact h.at fun o hh=>hm.at hh (by rw [hr];exact fun e=>ho.neMap h1 e.symm)
structure Fr (b:Nat) (gv:Value) (w w':World):Prop where
 size:w.heap.size≤w'.heap.size
 block:∀ j,j < w.heap.size→j≠b→gv.ownBlock≠some j→w'.heap[j]? = w.heap[j]?
theorem Fr.mv {gv:Value} (h:Fr b gv w w1) (hm:Mv row w1 w2) (hr:∀ c,row=some c→c=b∨gv.ownBlock=some c∨w.heap.size≤c):Fr b gv w w2 :=
 ⟨Nat.le_trans h.size hm.size,fun j hj hb hg=>by
  rw [hm.block j (Nat.lt_of_lt_of_le hj h.size) (by
   intro e;rcases hr j e.symm with e1 | e1 | e1
   ·exact hb e1
   ·exact hg e1
   ·omega),h.block j hj hb hg]⟩
theorem Fr.ext {gv:Value} (h:Fr b gv w w1) (hx:Ext w1 w2):Fr b gv w w2:=h.mv (hx.mv none) (by intro c e;cases e)
theorem Fr.of {gv:Value} (hx:Ext w w1):Fr b gv w w1:=⟨hx.size,fun j hj _ _=>hx.block j hj⟩
section
variable {P:Program} {a:Act} {w:World} {d:Option Nat} {ty:TypeId} {ps:String} {af:Array Edge} {g:Option (Nat × Bool)}
end
section
variable {P:Program} {w:World} {ts:List Value} {df:List Deferred} {d:Option Nat} {ty:TypeId} {ps:String} {af:Array Edge} {g:Option (Nat × Bool)}
end
section
variable {P:Program} {a:Act} {w:World} {d:Option Nat} {ty:TypeId} {ps:String} {af:Array Edge} {g:Option (Nat × Bool)}
end
section
variable {P:Program} {ts:List Value} {df:List Deferred} {w:World} {d:Option Nat} {ty:TypeId} {ps:String} {af:Array Edge} {g:Option (Nat × Bool)}
end
section
variable {P:Program} {ts:List Value} {df:List Deferred} {w:World} {d:Option Nat} {ty:TypeId} {ps:String} {af:Array Edge} {g:Option (Nat × Bool)}
end
abbrev WD:=Bool × MsgR
def Bj (s:WD) (q a u e:Value):List Value:=.bool s.1 :: aM s.2 q a u e
structure RopsAt (w:World) (v:Value) (l:List WD):Prop where
 out:∃ css,Sl 14 w v css∧css.length=l.length∧∀ (i:Nat) (s:WD),l[i]? = some s→∃ q a u e,css[i]? = some (Bj s q a u e)∧MsgV w s.2 q a u e
theorem RopsAt.ext {l:List WD} (h:RopsAt w v l) (hx:Ext w w'):RopsAt w' v l:=by
 obtain ⟨css,h1,h2,h3⟩:=h;exact ⟨css,h1.ext hx,h2,fun i s hi=>let ⟨q,a,u,e,h4,h5⟩:=h3 i s hi;⟨q,a,u,e,h4,h5.ext hx⟩⟩
section
variable {P:Program} {w:World} {ts:List Value} {df:List Deferred}
end
end Go.Proofs.X
