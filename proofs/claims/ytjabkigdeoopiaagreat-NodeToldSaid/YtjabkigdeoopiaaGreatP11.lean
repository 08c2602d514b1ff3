/- Laws and walks that the proof of the statement is made of (part 11). -/
import Derived.Test.YtjabkigdeoopiaaGreatP10
set_option linter.unusedSimpArgs false
set_option linter.unusedVariables false
set_option maxRecDepth 100000
set_option maxHeartbeats 20000000
namespace Go.Proofs.X
open Go.RowKit
variable {cs:Array Value} {held:Bool} {qt:Int} {ps rs:List (List UInt8 × Nat)} {ls:List (List UInt8)} {css css0 es:List (List Value)} {d l m n o qn s t x y z:List UInt8} {B a b base c e fuel i j k p q:Nat} {fz:Nat × Nat} {row:Option Nat} {r u v:Value} {w w' w0 w1 w2:World}
def CacheR.drop (C:CacheR) (n:List UInt8) (k:Int):List EntR:=match C.l.findIdx? (mM n k) with
 | none=>C.l
 | some i=>C.l.eraseIdx i
def CacheR.bars (C:CacheR) (s:RSet) (rank now:Int):Bool:=match C.l.findIdx? (mM s.name s.kind) with
 | none=>false
 | some i=>match C.l[i]? with
   | none=>false
   | some x=>decide (now < x.till) && decide (rank < x.rank)
def CacheR.put (C:CacheR) (s:RSet) (rank now:Int):CacheR × Int :=
 if dT [s]≠0 then (C,1) else if C.bars s rank now=true then (C,9) else
 if s.ttl=0 then ({ C with l:=C.drop s.name s.kind },0) else
 ({ C with calls:=C.calls + 1,l:=C.drop s.name s.kind ++ [⟨s,rank,now + min s.ttl C.most,C.calls + 1⟩] },0)
theorem NT {x:Value} {s:RSet} (h:Sl 4 w u [[aE s.name, .int .i64 s.kind, .int .i64 s.ttl,x]]) (hx:Sl 1 w x (aI s.data)):SetsAt w u [s]:=by
 refine (SetsC.sets ⟨rfl,fun i t ht => ?_⟩ h)
 match i,ht with
 | 0,ht =>
  cases ht
  exact ⟨x,rfl,hx⟩
theorem KO {s:RSet} (h:dT [s]=0):s.name.length≤254∧1≤s.kind∧s.kind≤65535∧s.data.length≤20∧0≤s.ttl∧s.ttl≤2147483647:=by
 have hb:iV [s] 0=false:=by
  cases hb:iV [s] 0 with
  | false=>rfl
  | true=>rw [qV (i:=0) bE hb] at h;cases h
 have hm:lV s=true:=by simpa [iV] using hb
 simp only [lV,Bool.and_eq_true,decide_eq_true_eq,List.all_eq_true,List.mem_range] at hm;obtain ⟨⟨⟨m1,m2⟩,m3⟩,m4⟩:=hm;have h0:=m4 0 aC;simp only [rU,Bool.not_eq_true',Bool.or_eq_false_iff,decide_eq_false_iff_not,Decidable.not_not] at h0;obtain ⟨a1,a2,a3⟩:=iH (n:=[]) h0.1;obtain ⟨b1,b2⟩:=Option.isSome_iff_exists.1 a1;have ht:=h0.1;unfold aW at ht;refine ⟨(gR b2).2.2,a2,a3,m3,?_⟩;split at ht
 ·cases ht
 ·split at ht
  ·cases ht
  ·rename_i hh;simp only [not_or] at hh;omega
theorem EntM.At.ext {g:EntM} (h:g.At B w) (hx:Ext w w'):g.At B w':=⟨h.ge,hx.at h.blk,h.row.ext hx,h.len,h.ok⟩
theorem CacheV.ext {cb em:Nat} {C:CacheR} {gs:List EntM} (h:CacheV B w cb em C gs) (hx:Ext w w'):CacheV B w' cb em C gs :=
 ⟨h.ge,h.eq,hx.at h.blk,h.map.ext hx,fun g hg=>(h.ents g hg).ext hx,h.apart,h.keys⟩
theorem CacheV.dropped {cb em:Nat} {C:CacheR} {gs:List EntM} (h:CacheV B w cb em C gs) {k:Int} {o:Obj} (hp:Put w w' em o)
 (hd:(∃ i u,(gs.map EntM.key)[i]? = some (nS n k,u)∧MapS NS w' em ((gs.map EntM.key).eraseIdx i))∨((∀ e ∈ gs.map EntM.key,e.1≠nS n k)∧MapS NS w' em (gs.map EntM.key))) :
 ∃ gs',CacheV B w' cb em { C with l:=C.drop n k } gs'∧(∀ g ∈ gs',¬ (g.e.s.name=n∧g.e.s.kind=k))∧gs'.length≤gs.length:=by
 have hcell:∀ (c:Nat) (cs:Array Value) (t:TypeId) (fz:Nat × Nat),w.heap[c]? = some (.cells cs t fz)→w'.heap[c]? = some (.cells cs t fz):=fun c cs t fz hc=>hp.mv.at hc (by rintro ⟨⟩;exact h.map.neCells hc rfl);have hent:∀ g ∈ gs,g.At B w':=fun g hg=>by
  have a:=h.ents g hg;refine ⟨a.ge,hcell _ _ _ _ a.blk,a.row.same fun r hr => ?_,a.len,a.ok⟩;obtain ⟨cur,fz,hq⟩:=a.row.type hr;rw [hq,hcell _ _ _ _ hq]
 rcases hd with ⟨i,u,hi,hm⟩ | ⟨hn,hm⟩
 ·rw [List.getElem?_map] at hi;cases hg:gs[i]? with
  | none=>rw [hg] at hi;cases hi
  | some g =>
   rw [hg] at hi;simp only [Option.map_some,Option.some.injEq,EntM.key,Prod.mk.injEq,mN] at hi;obtain ⟨⟨rfl,rfl⟩,-⟩:=hi;obtain ⟨hil,hie⟩:=List.getElem?_eq_some_iff.1 hg;have hfi:C.l.findIdx? (mM g.e.s.name g.e.s.kind)=some i:=by
    rw [List.findIdx?_eq_some_iff_getElem];refine ⟨by rw [h.eq];simpa using hil,by simp [h.eq,hie,mM],fun j hj => ?_⟩;have hjl:j < gs.length:=aC;simp only [h.eq,List.getElem_map,mM,Bool.and_eq_true,decide_eq_true_eq];intro hh;have:=(List.getElem_inj (h₀:=by simpa using hjl) (h₁:=by simpa using hil) h.keys).1 (by simp [hie,hh]);omega
   refine ⟨gs.eraseIdx i,⟨h.ge,?_,hcell _ _ _ _ h.blk,by rw [← jW];exact hm,fun x hx=>hent x ((List.eraseIdx_sublist _ _).subset hx),?_,?_⟩,?_,List.length_eraseIdx_le ..⟩
   ·show C.drop _ _=_;unfold CacheR.drop;rw [hfi];simp only [h.eq,jW]
   ·rw [← jW];exact h.apart.sublist (List.eraseIdx_sublist _ _)
   ·rw [← jW];exact h.keys.sublist (List.eraseIdx_sublist _ _)
   ·intro x hx hh;obtain ⟨j,hj,rfl⟩:=List.mem_iff_getElem.1 hx;rw [List.getElem_eraseIdx] at hh;split at hh
    ·rename_i hji;have:=(List.getElem_inj (h₀:=by simp;omega) (h₁:=by simpa using hil) h.keys (i:=j) (j:=i)).1 (by simp [hie,hh]);omega
    ·rename_i hji;have hj1:j + 1 < gs.length:=by
      rw [List.length_eraseIdx] at hj;split at hj <;> omega
     have:=(List.getElem_inj (h₀:=by simpa using hj1) (h₁:=by simpa using hil) h.keys (i:=j + 1) (j:=i)).1 (by simp [hie,hh]);omega
 ·have hfi:C.l.findIdx? (mM n k)=none:=by
   rw [List.findIdx?_eq_none_iff];intro e he;rw [h.eq] at he;obtain ⟨g,hg,rfl⟩:=List.mem_map.1 he;have:=hn _ (List.mem_map.2 ⟨g,hg,rfl⟩);simp only [EntM.key,ne_eq,mN] at this;cases hb:mM n k g.e with
   | false=>rfl
   | true=>simp only [mM,Bool.and_eq_true,decide_eq_true_eq] at hb;exact absurd hb this
  refine ⟨gs,⟨h.ge,(show C.drop n k=_ by unfold CacheR.drop;rw [hfi];exact h.eq),hcell _ _ _ _ h.blk,hm,hent,h.apart,h.keys⟩,fun g hg hh => ?_,Nat.le_refl _⟩;exact hn _ (List.mem_map.2 ⟨g,hg,rfl⟩) (by simp [EntM.key,mN,hh])
theorem MapS.mvc {ok:Value→Prop} {m:Nat} {ents:List (Value × Value)} {t:TypeId} {o:Obj} (h:MapS ok w m ents) (hp:Put w w' b o) (hb:w.heap[b]? = some (.cells cs t fz)):MapS ok w' m ents :=
 h.at fun _ _ x=>hp.mv.at x (by intro e;exact h.neCells hb (Option.some.inj e))
theorem CacheV.add {cb em:Nat} {C:CacheR} {gs:List EntM} {e:EntR} (h:CacheV B w cb em C gs)
 (hcb:w'.heap[cb]? = some (.cells #[.int .i64 C.room, .int .i64 C.most, .map (some em), .int .i64 (C.calls + 1)] 115 (0,0)))
 (hm:MapS NS w' em (gs.map EntM.key ++ [(nS e.s.name e.s.kind, .pointer (some ⟨b,0,none⟩))])) (hnew:(EntM.mk e b v).At B w') (hb:w.heap.size≤b)
 {x0 t0:Nat} {cs0:Array Value} {fz0:Nat × Nat} (hx0:w.heap[x0]? = some (.cells cs0 t0 fz0)) (ht0:t0≠190) (ht1:t0≠9)
 (hoth:∀ c,c < w.heap.size→c≠cb→c≠em→c≠x0→w'.heap[c]? = w.heap[c]?) (hfr:∀ g ∈ gs,¬ (g.e.s.name=e.s.name∧g.e.s.kind=e.s.kind)) :
 CacheV B w' cb em { C with calls:=C.calls + 1,l:=C.l ++ [e] } (gs ++ [⟨e,b,v⟩]):=by
 have hold:∀ g ∈ gs,g.At B w':=fun g hg=>by
  have a:=h.ents g hg;refine a.same (hoth _ (Array.getElem?_eq_some_iff.1 a.blk).1 (kE a.blk h.blk aH) (fun e=>h.map.neCells a.blk e.symm) (kE a.blk hx0 (fun e=>ht0 e.symm))) fun r hr=>hoth r (a.row.block r hr).2 ?_ ?_ ?_
  ·intro e;rw [e] at hr;exact a.row.neBlock h.blk aH hr
  ·intro e;rw [e] at hr;obtain ⟨cur,fz,hq⟩:=a.row.type hr;exact h.map.neCells hq rfl
  ·intro e;rw [e] at hr;exact a.row.neBlock hx0 ht1 hr
 refine ⟨h.ge,by simp [h.eq],hcb,by simpa [EntM.key] using hm,fun g hg => ?_,?_,?_⟩
 ·rcases List.mem_append.1 hg with hg | hg
  ·exact hold g hg
  ·rw [List.mem_singleton.1 hg];exact hnew
 ·rw [List.map_append,List.nodup_append];refine ⟨h.apart,bE,fun x hx y hy => ?_⟩;obtain ⟨g,hg,rfl⟩:=List.mem_map.1 hx;simp only [List.map_cons,List.map_nil,List.mem_singleton] at hy;have:=(Array.getElem?_eq_some_iff.1 (h.ents g hg).blk).1;intro hh;have hb2:g.b=b:=hh.trans hy;omega
 ·rw [List.map_append,List.nodup_append];refine ⟨h.keys,bE,fun x hx y hy => ?_⟩;obtain ⟨g,hg,rfl⟩:=List.mem_map.1 hx;simp only [List.map_cons,List.map_nil,List.mem_singleton] at hy;intro hh;exact hfr g hg (by have:=hh.trans hy;simpa using this)
theorem TP {cb em:Nat} {C:CacheR} (h:CacheAt B w cb em C) (s:RSet) (v:Value) (rank now:Int) (hva:∀ w',w.heap.size≤w'.heap.size→(∀ c,c < w.heap.size→c≠cb→c≠em→w'.heap[c]? = w.heap[c]?)→Sl 1 w' v (aI s.data)) (h0:0≤now) (h1:now≤1099511627776) (r1:1≤rank) (r2:rank≤5) (hc:0≤C.calls∧C.calls≤1000000000) (hroom:(C.l.length:Int) < C.room) (hmost:1≤C.most∧C.most≤2147483647) :
 Calls Tryz.prog 58 #[.pointer (some ⟨cb,0,none⟩), .agg #[aE s.name, .int .i64 s.kind, .int .i64 s.ttl,v], .int .i64 rank, .int .i64 now] w (fun e w'=>e=.returned (.int .i64 (C.put s rank now).2)∧CacheAt B w' cb em (C.put s rank now).1∧Kf cT [em] w w'∧Lo B w w'):=by
 have hA:dT [s]≠0→C.put s rank now=(C,1):=fun a=>by unfold CacheR.put;rw [if_pos a]
 have hB:dT [s]=0→C.bars s rank now=true→C.put s rank now=(C,9):=fun a b=>by unfold CacheR.put;rw [if_neg aC,if_pos b]
 have hC1:dT [s]=0→C.bars s rank now=false→s.ttl=0→C.put s rank now=({ C with l:=C.drop s.name s.kind },0):=fun a b c=>by unfold CacheR.put;rw [if_neg aC,if_neg (by rw [b];simp),if_pos c]
 have hC2:dT [s]=0→C.bars s rank now=false→s.ttl≠0→C.put s rank now=({ C with calls:=C.calls + 1,l:=C.drop s.name s.kind ++ [⟨s,rank,now + min s.ttl C.most,C.calls + 1⟩] },0):=fun a b c=>by unfold CacheR.put;rw [if_neg aC,if_neg (by rw [b];simp),if_neg c]
 generalize C.put s rank now=RES at *;have hv:Sl 1 w v (aI s.data):=hva w (Nat.le_refl _) (fun _ _ _ _=>rfl);obtain ⟨gs,hC⟩:=h;have hb:=hC.blk;have hp:=aA (cs:=[.int .i64 C.room, .int .i64 C.most, .map (some em), .int .i64 C.calls]) hb;have e1:(decide (0≤now) && decide (now≤1099511627776))=true:=by simp;omega
 have e2:(decide (1≤rank) && decide (rank≤5))=true:=by simp;omega
 have hzv:∀ w,(zeroValue 187).run Tryz.prog w=.ok (.pointer none) w:=fun w=>by kernel_rfl
 have htm:dZ Tryz.prog 113 186 187=true:=zDk;go_enter Tryz.func58,Tryz.ntmps58
 refine_lift yQ ?_;intro _ _ _;refine jS (vs:=[aE s.name, .int .i64 s.kind, .int .i64 s.ttl,v]) fun w1 x1 s1 b1 => ?_;refine aB ?_;have hpS1:=aA (cs:=[aE s.name, .int .i64 s.kind, .int .i64 s.ttl,v]) b1;have hp1:=hp.ext x1;refine_lift jH fun _ _ _ _ => ?_;refine qP (e:=137) (k:=4) (bytes:=56) (xs:=[.agg #[aE s.name, .int .i64 s.kind, .int .i64 s.ttl,v]]) (by simp [Value.cells]) fun v2 w2 x2 _ sl2 o2 => ?_;refine aB ?_;have hset:=NT (x:=v) sl2 ((hv.ext x1).ext x2);refine bX (YQ _ [s] _ hset) fun w3 x3 => ?_;by_cases hck:dT [s]=0
 ·rw [hck];refine_lift aL ?_;refine bX (AX rank 1 5 _) fun w4 x4 => ?_;rw [e2];refine_lift aL ?_;refine bX (AX now 0 1099511627776 _) fun w5 x5 => ?_;rw [e1];have hx25:=(x2.trans x3).trans (x4.trans x5);have hpS5:=hpS1.ext hx25;have hp5:=hp1.ext hx25;obtain ⟨q1,q2,q3,q4,q5,q6⟩:=KO hck;have hok:NS (nS s.name s.kind):=HA _ _ aC aC;refine_lift bK fun _ _ => ?_;refine aG (v:=nS s.name s.kind) (Runs.build (vals:=[(0,aE s.name),(1, .int .i64 s.kind)]) rfl (by kernel_rfl)) ?_;refine aB ?_;refine eX (z:=[aE [], .int .i64 0]) fun w6 x6 s6 b6 => ?_;refine aB ?_;refine fG (v:=.agg #[aE s.name, .int .i64 s.kind]) b6 (NP rfl rfl) fun w7 p7 => ?_;have x57:=eC x6 p7;have x17:=hx25.trans x57;have hpS7:=hpS5.ext x57;have hp7:=hp5.ext x57;have hpK7:=aA (cs:=[aE s.name, .int .i64 s.kind]) p7.this;have hm7:=hC.map.ext (x1.trans x17);obtain ⟨xv,isb,hlk,hcase⟩:∃ xv isb,(∀ w',Ext w7 w'→(Instr.lookup 113 (.map (some em)) (nS s.name s.kind) true).run Tryz.prog w'=.ok (.tuple #[xv, .bool isb]) w')∧((isb=false∧xv=.pointer none∧C.bars s rank now=false)∨∃ g,g ∈ gs∧isb=true∧xv=.pointer (some ⟨g.b,0,none⟩)∧C.bars s rank now=(decide (now < g.e.till) && decide (rank < g.e.rank))):=by
   cases hfi:C.l.findIdx? (mM s.name s.kind) with
   | none=>exact ⟨.pointer none,false,fun w' x'=>oD tS htm hzv (hm7.ext x') hok (hC.miss hfi) true, .inl ⟨rfl,rfl,by simp [CacheR.bars,hfi]⟩⟩
   | some i =>
    obtain ⟨g,hg,hgk,hgA,hgl⟩:=hC.look hfi;exact ⟨.pointer (some ⟨g.b,0,none⟩),true,fun w' x'=>eO tS htm hzv (hm7.ext x') hok hgk hC.uniq true, .inr ⟨g,List.mem_of_getElem? hg,rfl,rfl,by simp [CacheR.bars,hfi,hgl]⟩⟩
  repeat' (first | ((with_reducible refine eN ?_);go_step) | fail)
  refine eB zDk zDk ?_;refine_lift vF ?_;refine fH (v:=.tuple #[xv, .bool isb]) (fun w' x'=>Runs.lookup rfl rfl (hlk w' x')) ?_;refine aB ?_;refine_lift vF ?_;intro w8 x8;have hp8:=hp7.ext x8;have hpS8:=hpS7.ext x8;have hpK8:=hpK7.ext x8;have x18:=x17.trans x8;have xw8:=x1.trans x18;rcases hcase with ⟨rfl,rfl,hbar⟩ | ⟨g,hg,rfl,rfl,hbar⟩
  all_goals first
   | (have hpg:=aA (cs:=ES g.e g.v) (xw8.at (hC.ents g hg).blk);(repeat' first | ((with_reducible refine eN ?_);go_step) | ((with_reducible refine cB ?_);first | refine iF ?_ | (refine fA ?_ ?_ <;> intro hc)) | fail))
   | refine_lift bK fun _ _ => ?_
  all_goals first
   | (go_ret;rw [hB hck (by rw [hbar];simp;omega)];exact ⟨rfl,⟨gs,hC.ext xw8⟩,Kf.of xw8,Lo.of xw8⟩)
   | skip
  all_goals have hbar0:C.bars s rank now=false:=by first | exact hbar | (rw [hbar];simp;omega)
  all_goals
   refine aV 5 (Ext w8) zDk ?_;intro w9 x9 _;refine ⟨x9,?_⟩;refine bH 0 ?_;refine bH 1 ?_;refine bH 2 ?_;refine bH 3 ?_;refine bH 4 ?_;refine eF 5 ?_;refine oY tS rfl rfl hok (hm7.ext (x8.trans x9)) (fun w10 o10 p10 hd => ?_) (ht:=htm);refine aD ⟨aQ rfl,?_⟩;refine nX ?_;obtain ⟨gs',hV,hfr,hlen'⟩:=(hC.ext (xw8.trans x9)).dropped p10 hd;have hlC:C.l.length=gs.length:=by rw [hC.eq];simp
   have hL:¬ (C.room≤((gs'.length:Nat):Int)):=aC;have lem:em < w.heap.size:=hC.map.lt;have lcb:cb < w.heap.size:=(Array.getElem?_eq_some_iff.1 hb).1;have bS10:=p10.mv.at (x9.at (x8.at (x57.at (hx25.at b1)))) (by intro e;have:=Option.some.inj e;omega);have bK10:=p10.mv.at (x9.at (x8.at p7.this)) (by intro e;have:=Option.some.inj e;have:=x1.size;have:=hx25.size;omega);have hpS10:=aA (cs:=[aE s.name, .int .i64 s.kind, .int .i64 s.ttl,v]) bS10;have hpK10:=aA (cs:=[aE s.name, .int .i64 s.kind]) bK10;have hpC10:=aA (cs:=[.int .i64 C.room, .int .i64 C.most, .map (some em), .int .i64 C.calls]) hV.blk;clear hpS8 hpK8 hp8 hpS7 hpK7 hp7 hpS5 hp5 hpS1 hp1 hp;have lo10:Lo B w w10:=(Lo.of (xw8.trans x9)).trans (Lo.put p10 hC.ge.2);have kf10:Kf cT [em] w w10:=(Kf.of (xw8.trans x9)).trans (Kf.putMap p10 (hC.map.ext (xw8.trans x9)) bE)
   (repeat' first | ((with_reducible refine eN ?_);go_step) | ((with_reducible refine cB ?_);first | refine iF ?_ | (refine fA ?_ ?_ <;> intro hc)) | fail)
  all_goals first
   | (go_ret;rw [hC1 hck hbar0 (by assumption)];exact ⟨rfl,⟨gs',hV⟩,kf10,lo10⟩)
   | skip
  all_goals
   refine eB zDk zDk ?_;refine_lift vF ?_;refine fH (v:=.int .i64 (((gs'.map EntM.key).length:Nat):Int)) (fun w' x'=>Runs.lenM rfl (hV.map.ext x') htm) ?_;refine aB ?_;refine_lift vF ?_;intro w11 x11;rw [decide_eq_false hL];have hpS11:=hpS10.ext x11;have hpK11:=hpK10.ext x11;have hpC11:=hpC10.ext x11;refine_lift bK fun _ _ => ?_;refine fZ 3 (.int .i64 (C.calls + 1)) (x11.at hV.blk) rfl fun w12 p12 => ?_;have z1:=x1.size;have z2:=x17.size;have z3:=x8.size;have z4:=x9.size;have z5:=p10.size;have z6:=x11.size;have z7:=p12.size;have bS12:=p12.mv.at (x11.at bS10) (by intro e;have:=Option.some.inj e;omega);have bK12:=p12.mv.at (x11.at bK10) (by intro e;have:=Option.some.inj e;have:=hx25.size;omega);have hpS12:=aA (cs:=[aE s.name, .int .i64 s.kind, .int .i64 s.ttl,v]) bS12;have hoth:∀ c,c < w.heap.size→c≠cb→c≠em→w12.heap[c]? = w.heap[c]? := fun c h1 h2 h3=>by
    rw [p12.other c h2,x11.block c aC,p10.other c h3,(xw8.trans x9).block c h1]
   have hv12:Sl 1 w12 v (aI s.data):=hva w12 aC hoth;clear hpS11 hpC11 hpC10 hpS10;refine_lift bK fun _ _ => ?_;refine pZ (XM v s.data _ hv12 aC) fun v13 w13 x13 o13 => ?_;refine aB ?_;refine_lift aL ?_;refine fZ 3 v13 (x13.at bS12) o13.one fun w14 p14 => ?_;have z8:=x13.size;have z9:=p14.size;have bK14:=p14.mv.at (x13.at bK12) (by intro e;have:=Option.some.inj e;have:=hx25.size;have:=x1.size;omega);have bC14:=p14.mv.at (x13.at p12.this) (by intro e;have:=Option.some.inj e;omega);have hpK14:=aA (cs:=[aE s.name, .int .i64 s.kind]) bK14;have hpS14:=aA (cs:=[aE s.name, .int .i64 s.kind, .int .i64 s.ttl,v13]) p14.this;have hpC14:=aA (cs:=[.int .i64 C.room, .int .i64 C.most, .map (some em), .int .i64 (C.calls + 1)]) bC14;have hmin:0≤min s.ttl C.most∧min s.ttl C.most≤2147483647:=aC;have oth14:∀ c,c < w.heap.size→c≠cb→c≠em→w14.heap[c]? = w.heap[c]? := fun c h1 h2 h3=>by
    rw [p14.other c aC,x13.block c aC,hoth c h1 h2 h3]
   have o14:Own w12.heap.size 1 9 w14 v13 (aI s.data):=iM o13 p14 (x13.at bS12);clear hpS12 hpK11 hpK10;refine_lift lQ fun _ _ => ?_;refine aV 22 (Ext w14) zDk ?_;intro w15 x15 _;refine ⟨x15,?_⟩;refine eH 0 ?_;refine eH 1 ?_;refine eH 2 ?_;refine bH 3 ?_;refine bH 4 ?_;refine bH 5 ?_;refine eH 6 ?_;refine eH 7 ?_;refine eH 8 ?_;refine bH 9 ?_;refine eH 10 ?_;refine eH 11 ?_;refine eH 12 ?_;refine bH 13 ?_;refine eH 14 ?_;refine eH 15 ?_;refine eH 16 ?_;refine eH 17 ?_;refine eH 18 ?_;refine bH 19 ?_;refine FP (i:=20) (v:=.agg (ES ⟨s,rank,now + min s.ttl C.most,C.calls + 1⟩ v13).toArray) rfl rfl (fun _=>Runs.build (vals:=[(0, .agg #[aE s.name, .int .i64 s.kind, .int .i64 s.ttl,v13]),(1, .int .i64 rank),(2, .int .i64 (now + min s.ttl C.most)),(3, .int .i64 (C.calls + 1))]) rfl (by kernel_rfl)) ?_;refine aB ?_;refine eF 21 ?_;refine jS (vs:=ES ⟨s,rank,now + min s.ttl C.most,C.calls + 1⟩ v13) fun w16 x16 s16 b16 => ?_;refine aB ?_;refine aD ⟨aZ (x15.trans x16),?_⟩;have m16:MapS NS w16 em (gs'.map EntM.key):=((((hV.map.ext x11).mvc p12 (x11.at hV.blk)).ext x13).mvc p14 (x13.at bS12)).ext (x15.trans x16);obtain ⟨w17,o17,hr17,p17,m17⟩:=oX tS htm m16 (v:=.pointer (some ⟨w15.heap.size,0,none⟩)) hok (fun e he=>by
    obtain ⟨g,hg,rfl⟩:=List.mem_map.1 he;simp only [EntM.key,ne_eq,mN];exact hfr g hg)
   refine eF 22 ?_;refine fS rfl rfl rfl rfl hr17 ?_;refine aD ⟨aQ rfl,?_⟩;refine nX ?_;refine_lift aL ?_;go_ret;have z10:=x15.size;have z11:=x16.size;have b17:=p17.mv.at b16 (by intro e;have:=Option.some.inj e;omega);have c17:=p17.mv.at ((x15.trans x16).at bC14) (by intro e;exact hC.map.neCells hb (Option.some.inj e).symm);have o17':Own B 1 9 w17 v13 (aI s.data):=((o14.ext (x15.trans x16)).same fun r hr=>p17.other r (by intro e;rw [e] at hr;exact absurd ((o14.block em hr).1) aC)).weaken (by have:=hC.ge;omega);rw [hC2 hck hbar0 (by assumption)];refine ⟨rfl,⟨_,hV.add c17 m17 ⟨(show B≤w15.heap.size by have:=hC.ge;omega),b17,o17',(show s.data.length≤1000000 by omega),hok⟩ aC bS10 aH aH (fun c h1 h2 h3 h4 => ?_) hfr⟩,?_,lo10.trans ((Lo.of x11).trans ((Lo.put p12 hC.ge.1).trans ((Lo.of x13).trans ((Lo.put p14 (by have:=hC.ge;omega)).trans ((Lo.of (x15.trans x16)).trans (Lo.put p17 hC.ge.2))))))⟩
   ·rw [p17.other c h3,(x15.trans x16).block c aC,p14.other c h4,x13.block c aC,p12.other c h2,x11.block c h1]
   ·have all17:∀ c,c < w.heap.size→c≠cb→c≠em→w17.heap[c]? = w.heap[c]? := fun c h1 h2 h3=>by
     rw [p17.other c h3,(x15.trans x16).block c aC,oth14 c h1 h2 h3]
    refine ⟨fun c cs t fz hc ht => ?_,fun c es q hc hq => ?_⟩
    ·rw [all17 c (Array.getElem?_eq_some_iff.1 hc).1 (by rintro rfl;rw [hb] at hc;cases hc;exact ht aH) (fun e=>hC.map.neCells hc e.symm)];exact hc
    ·rw [all17 c (Array.getElem?_eq_some_iff.1 hc).1 (by rintro rfl;rw [hb] at hc;cases hc) (by rintro rfl;exact hq bE)];exact hc
 ·have hne:dT [s]=1:=by
   unfold dT at hck ⊢;split
   ·rfl
   ·split
    ·rename_i h1 h2;rw [if_neg h1,if_pos h2] at hck;exact absurd rfl hck
    ·rfl
  rw [hne];refine_lift aL ?_;go_ret;have hx3:=(x1.trans x2).trans x3;rw [hA hck];exact ⟨rfl,⟨gs,hC.ext hx3⟩,Kf.of hx3,Lo.of hx3⟩
theorem RY (n:Int) (w:World):Calls Tryz.prog 48 #[.int .i64 n] w (bG w (.bool (decide (1≤n) && decide (n≤100)))):=by
 go_enter Tryz.func48,Tryz.ntmps48
 refine_lift iU (fun hc => ?_) (fun hc => ?_)
 all_goals
  go_ret;refine ⟨?_,Ext.refl _⟩;simp;omega
structure CliR where
 node:Int
 id:Int
 name:List UInt8
def CJ (c:CliR):List Value:=[.int .i64 c.node, .int .i64 c.id,aE c.name]
def jN (l:List CliR):List (List Value):=l.map CJ
structure WaitR where
 n:Int
 qn:List UInt8
 qt:Int
 l:List CliR
def FE (v:Value):Prop:=∃ n,v=.int .i64 n
theorem nV:KL Tryz.prog 3 FE:=KL.int Tryz.underlying3
def yK (t:Option (WaitR × Nat)):List (Value × Value):=match t with
 | none=>[]
 | some (x,b)=>[(.int .i64 x.n, .pointer (some ⟨b,0,none⟩))]
structure WaitV (B:Nat) (w:World) (x:WaitR) (b:Nat) (v:Value):Prop where
 ge:B≤b
 blk:w.heap[b]? = some (.cells #[aE x.qn, .int .i64 x.qt,v] 202 (0,0))
 row:Own B 3 142 w v (jN x.l)
structure TabV (B:Nat) (w:World) (tb tm:Nat) (last:Int) (t:Option WaitR) (tbk:Option (WaitR × Nat)):Prop where
 ge:B≤tb∧B≤tm
 eq:t=tbk.map (·.1)
 blk:w.heap[tb]? = some (.cells #[.int .i64 20, .int .i64 10, .int .i64 last, .map (some tm)] 121 (0,0))
 map:MapS FE w tm (yK tbk)
 task:∀ x b,tbk=some (x,b)→∃ v,WaitV B w x b v
def TabAt (B:Nat) (w:World) (tb tm:Nat) (last:Int) (t:Option WaitR):Prop:=∃ tbk,TabV B w tb tm last t tbk
abbrev oT:List TypeId:=[121,202,142]
theorem WaitV.keep {x:WaitR} {T:List TypeId} {M:List Nat} (h:WaitV B w x b v) (hk:Kf T M w w') (h1:202 ∉ T) (h2:142 ∉ T):WaitV B w' x b v :=
 ⟨h.ge,hk.cells _ _ _ _ h.blk h1,h.row.keep hk.keep h2⟩
theorem TabAt.keep {tb tm:Nat} {last:Int} {t:Option WaitR} {T:List TypeId} {M:List Nat} (h:TabAt B w tb tm last t) (hk:Kf T M w w') (h0:tm ∉ M) (h1:121 ∉ T) (h2:202 ∉ T) (h3:142 ∉ T):TabAt B w' tb tm last t:=by
 obtain ⟨tbk,a⟩:=h;refine ⟨tbk,a.ge,a.eq,hk.cells _ _ _ _ a.blk h1,a.map.keep hk h0,fun x b e => ?_⟩;obtain ⟨v,c⟩:=a.task x b e;exact ⟨v,c.keep hk h2 h3⟩
theorem TabV.ext {tb tm:Nat} {last:Int} {t:Option WaitR} {tbk:Option (WaitR × Nat)} (a:TabV B w tb tm last t tbk) (hx:Ext w w'):TabV B w' tb tm last t tbk:=by
 refine ⟨a.ge,a.eq,hx.at a.blk,a.map.ext hx,fun x b e => ?_⟩;obtain ⟨v,c⟩:=a.task x b e;exact ⟨v,c.ge,hx.at c.blk,c.row.ext hx⟩
theorem TQ (w:World):Calls Tryz.prog 27 #[.int .i64 20, .int .i64 10] w (pX w fun r w'=>∃ tb tm,r=.tuple #[.pointer (some ⟨tb,0,none⟩), .int .i64 0]∧tb≠tm∧TabAt w.heap.size w' tb tm 0 none):=by
 go_enter Tryz.func27,Tryz.ntmps27
 refine_lift FV ?_;intro _ _ _ _ _;refine bX (RY 20 _) fun w1 x1 => ?_;rw [show (decide ((1:Int)≤20) && decide ((20:Int)≤100))=true from rfl];refine_lift aL ?_;refine bX (RY 10 _) fun w2 x2 => ?_;rw [show (decide ((1:Int)≤10) && decide ((10:Int)≤100))=true from rfl];refine_lift bK fun _ _ => ?_;refine nO (ok:=FE) rfl ?_;intro w3 x3 s3 m3;refine aB ?_;refine aG (v:=.agg #[.int .i64 20, .int .i64 10, .int .i64 0, .map (some w2.heap.size)]) (Runs.build (vals:=[(0, .int .i64 20),(1, .int .i64 10),(3, .map (some w2.heap.size))]) rfl (by kernel_rfl)) ?_;refine aB ?_;refine jS (vs:=[.int .i64 20, .int .i64 10, .int .i64 0, .map (some w2.heap.size)]) fun w4 x4 s4 b4 => ?_;refine aB ?_;refine_lift aL ?_;go_ret2;have hx:=x1.trans (x2.trans (x3.trans x4));have z1:=x1.size;have z2:=x2.size;exact ⟨_,rfl,hx,w3.heap.size,w2.heap.size,rfl,aC,none,⟨aC,aC⟩,rfl,b4,m3.ext x4,bE⟩
theorem QB {tb tm:Nat} {last:Int} (h:TabAt B w tb tm last none) (qn:List UInt8) (qt:Int) (c:CliR) (h1:(aM qn).isSome=true) (h2:(aM c.name).isSome=true) (hl:0≤last∧last≤1000000000) :
 Calls Tryz.prog 61 #[.pointer (some ⟨tb,0,none⟩), .agg #[aE qn, .int .i64 qt], .agg (CJ c).toArray] w (fun e w'=>e=.returned (.tuple #[.int .i64 (last + 1), .bool true, .int .i64 0])∧TabAt B w' tb tm (last + 1) (some ⟨last + 1,fold qn,qt,[c]⟩)∧Kf oT [tm] w w'∧Lo B w w'∧∀ j,j < w.heap.size→j≠tb→j≠tm→w'.heap[j]? = w.heap[j]?):=by
 obtain ⟨tbk,hT⟩:=h;obtain rfl:tbk=none:=by
  cases tbk with
  | none=>rfl
  | some x=>have:=hT.eq;cases this
 have hb:=hT.blk;have hp:=aA (cs:=[.int .i64 20, .int .i64 10, .int .i64 last, .map (some tm)]) hb;have htm:dZ Tryz.prog 119 3 200=true:=zDk;go_enter Tryz.func61,Tryz.ntmps61
 refine_lift yQ ?_;intro _ _ _;refine jS (vs:=[aE qn, .int .i64 qt]) fun w1 x1 s1 b1 => ?_;refine aB ?_;refine jS (vs:=CJ c) fun w2 x2 s2 b2 => ?_;refine aB ?_;have b12:=x2.at b1;have hpQ:=aA (cs:=[aE qn, .int .i64 qt]) b12;have hpC:=aA (cs:=CJ c) b2;have hp2:=hp.ext (x1.trans x2);refine_lift jH fun _ _ _ _ => ?_;refine bX (OW qn _) fun w3 x3 => ?_;rw [if_pos h1];have hpQ3:=hpQ.ext x3;have hpC3:=hpC.ext x3;refine_lift aL ?_;refine bX (OW c.name _) fun w4 x4 => ?_;rw [if_pos h2];have hpQ4:=hpQ3.ext x4;have hpC4:=hpC3.ext x4;refine_lift bK fun _ _ => ?_;refine bX (zS qn _) fun w5 x5 => ?_;have hx25:=(x3.trans x4).trans x5;refine_lift aL ?_;have z1:=x1.size;have z2:=x2.size;have z3:=hx25.size;have lb:tb < w.heap.size:=(Array.getElem?_eq_some_iff.1 hb).1;have lm:tm < w.heap.size:=hT.map.lt;refine fZ 0 (aE (fold qn)) (hx25.at b12) rfl fun w6 p6 => ?_;have z4:=p6.size;have hx5:=(x1.trans x2).trans hx25;have bT6:=p6.mv.at (hx5.at hb) (by intro e;have:=Option.some.inj e;omega);have bC6:=p6.mv.at (hx25.at b2) (by intro e;have:=Option.some.inj e;omega);have m6:=(hT.map.ext hx5).mvc p6 (hx25.at b12);have hp6:=aA (cs:=[.int .i64 20, .int .i64 10, .int .i64 last, .map (some tm)]) bT6;clear hp2 hp hpQ hpQ3 hpQ4 hpC hpC3 hpC4;refine_lift jH fun _ _ _ _ => ?_;refine nP rfl m6 (fun w7 x7 s7 i7 => ?_) (ht:=htm);refine aB ?_;refine_lift aL ?_;refine wp_loop_once ?_;refine_lift yQ ?_;intro _ _ _;refine aG (Runs.next0 rfl i7) ?_;refine aB ?_;refine_lift FV fun _ _ _ _ _ => ?_;have hp7:=hp6.ext x7;have m7:=m6.ext x7;refine eB zDk zDk ?_;refine_lift vF ?_;refine fH (v:=.int .i64 ((0:Nat):Int)) (fun w' x'=>Runs.lenM rfl (m7.ext x') htm) ?_;refine aB ?_;refine_lift vF ?_;intro w8 x8;have hp8:=hp7.ext x8;have hQ8:=aA (cs:=[aE (fold qn), .int .i64 qt]) ((x7.trans x8).at p6.this);have hC8:=aA (cs:=CJ c) ((x7.trans x8).at bC6);have b8:=(x7.trans x8).at bT6;have m8:=m7.ext x8;refine_lift mS fun _ _ _ => ?_;refine fZ 2 (.int .i64 (last + 1)) b8 rfl fun w9 p9 => ?_;have bQ9:=p9.mv.at ((x7.trans x8).at p6.this) (by intro e;have:=Option.some.inj e;omega);have bC9:=p9.mv.at ((x7.trans x8).at bC6) (by intro e;have:=Option.some.inj e;omega);have hQ9:=aA (cs:=[aE (fold qn), .int .i64 qt]) bQ9;have hC9:=aA (cs:=[.int .i64 c.node, .int .i64 c.id,aE c.name]) bC9;have hT9:=aA (cs:=[.int .i64 20, .int .i64 10, .int .i64 (last + 1), .map (some tm)]) p9.this;have m9:=m8.mvc p9 b8;clear hp6 hp7 hp8 hQ8 hC8;refine_lift lQ fun _ _ => ?_;refine aV 13 (Ext w9) zDk ?_;intro w10 x10 _;refine ⟨x10,?_⟩;refine eH 0 ?_;refine eH 1 ?_;refine eH 2 ?_;refine bH 3 ?_;refine eH 4 ?_;refine eH 5 ?_;refine eH 6 ?_;refine bH 7 ?_;refine bH 8 ?_;refine bH 9 ?_;refine eF 10 ?_;refine qP (e:=142) (k:=3) (bytes:=32) (xs:=[.agg #[.int .i64 c.node, .int .i64 c.id,aE c.name]]) (by simp [Value.cells]) fun v11 w11 x11 s11 sl11 o11 => ?_;refine aB ?_;refine aD ⟨aZ (x10.trans x11),?_⟩;obtain ⟨ad11,cap11,hv11⟩:∃ a n,v11=.slice a 1 n:=by
  obtain ⟨a,n,e,_⟩:=sl11;exact ⟨a,n,e⟩
 refine FP (i:=11) (v:=.agg #[aE (fold qn), .int .i64 qt,v11]) rfl rfl (fun _=>Runs.build (vals:=[(0, .agg #[aE (fold qn), .int .i64 qt]),(1,v11)]) rfl (by rw [hv11];kernel_rfl)) ?_;refine aB ?_;refine eF 12 ?_;refine jS (vs:=[aE (fold qn), .int .i64 qt,v11]) fun w12 x12 s12 b12' => ?_;refine aB ?_;refine aD ⟨aZ ((x10.trans x11).trans x12),?_⟩;have x912:=(x10.trans x11).trans x12;obtain ⟨w13,o13,hr13,p13,m13⟩:=oX nV htm (m9.ext x912) (x:=.int .i64 (last + 1)) (v:=.pointer (some ⟨w11.heap.size,0,none⟩)) ⟨_,rfl⟩ (by simp [yK]);refine eF 13 ?_;refine fS rfl rfl rfl rfl hr13 ?_;refine aD ⟨aQ rfl,?_⟩;refine nX ?_;have bT13:=p13.mv.at (x912.at p9.this) (by intro e;exact hT.map.neCells hb (Option.some.inj e).symm);have hT13:=aA (cs:=[.int .i64 20, .int .i64 10, .int .i64 (last + 1), .map (some tm)]) bT13;clear hT9 hQ9 hC9;refine_lift aL ?_;refine bodyPost_ret (results_tmp3 rfl _ _ _) rfl ⟨rfl,⟨some (⟨last + 1,fold qn,qt,[c]⟩,w11.heap.size),hT.ge,rfl,bT13,m13,?_⟩,?_⟩
 ·rintro x b hxb;cases hxb
  have z5:=p9.size;have z6:=x10.size;have z7:=x11.size;have z8:=x12.size;have z9:=x7.size;have z10:=x8.size;have hge:=hT.ge;refine ⟨v11,(show B≤w11.heap.size by omega),p13.mv.at b12' (by intro e;have:=Option.some.inj e;omega),((o11.ext x12).same fun r hr=>p13.other r (by intro e;rw [e] at hr;exact absurd ((o11.block tm hr).1) aC)).weaken aC⟩
 ·have z5:=p9.size;have z6:=x10.size;have z7:=x11.size;have z8:=x12.size;have z9:=x7.size;have z10:=x8.size;have all13:∀ j,j < w.heap.size→j≠tb→j≠tm→w13.heap[j]? = w.heap[j]? := fun j h1 h2 h3=>by
   rw [p13.other j h3,x912.block j aC,p9.other j h2,(x7.trans x8).block j aC,p6.other j aC,hx5.block j h1]
  have hge:=hT.ge;refine ⟨⟨fun c cs t fz hc ht => ?_,fun c es q hc hq => ?_⟩,(Lo.of hx5).trans ((Lo.put p6 aC).trans ((Lo.of (x7.trans x8)).trans ((Lo.put p9 hge.1).trans ((Lo.of x912).trans (Lo.put p13 hge.2))))),all13⟩
  ·rw [all13 c (Array.getElem?_eq_some_iff.1 hc).1 (by rintro rfl;rw [hb] at hc;cases hc;exact ht aH) (fun e=>hT.map.neCells hc e.symm)];exact hc
  ·rw [all13 c (Array.getElem?_eq_some_iff.1 hc).1 (by rintro rfl;rw [hb] at hc;cases hc) (by rintro rfl;exact hq bE)];exact hc
theorem NU (n a b:Int) (w:World):Calls Tryz.prog 47 #[.int .i64 n, .int .i64 a, .int .i64 b] w (bG w (.bool (decide (a≤n) && decide (n≤b)))):=by
 go_enter Tryz.func47,Tryz.ntmps47
 refine_lift iU (fun hc => ?_) (fun hc => ?_)
 all_goals
  go_ret;refine ⟨?_,Ext.refl _⟩;simp;omega
structure DenE (B:Nat) (w:World) (db:Nat) (room most:Int):Prop where
 ge:B≤db
 blk:w.heap[db]? = some (.cells #[.int .i64 room, .int .i64 most, .slice none 0 0] 118 (0,0))
theorem DenE.keep {db:Nat} {room most:Int} {T:List TypeId} {M:List Nat} (h:DenE B w db room most) (hk:Kf T M w w') (h1:118 ∉ T):DenE B w' db room most:=⟨h.ge,hk.cells _ _ _ _ h.blk h1⟩
theorem TR (room most:Int) (w:World) (h1:1≤room) (h2:room≤200) (h3:1≤most) (h4:most≤2147483647):Calls Tryz.prog 26 #[.int .i64 room, .int .i64 most] w (pX w fun r w'=>∃ db,r=.tuple #[.pointer (some ⟨db,0,none⟩), .int .i64 0]∧DenE w.heap.size w' db room most):=by
 have e1:(decide (1≤room) && decide (room≤200))=true:=by simp;omega
 have e2:(decide (1≤most) && decide (most≤2147483647))=true:=by simp;omega
 go_enter Tryz.func26,Tryz.ntmps26
 refine_lift FV ?_;intro _ _ _ _ _;refine bX (NU room 1 200 _) fun w1 x1 => ?_;rw [e1];refine_lift aL ?_;refine bX (NU most 1 2147483647 _) fun w2 x2 => ?_;rw [e2];refine_lift bK fun _ _ => ?_;refine aG (v:=.agg #[.int .i64 room, .int .i64 most, .slice none 0 0]) (Runs.build (vals:=[(0, .int .i64 room),(1, .int .i64 most)]) rfl (by kernel_rfl)) ?_;refine aB ?_;refine jS (vs:=[.int .i64 room, .int .i64 most, .slice none 0 0]) fun w4 x4 s4 b4 => ?_;refine aB ?_;refine_lift aL ?_;go_ret2;have z1:=x1.size;have z2:=x2.size;exact ⟨_,rfl,x1.trans (x2.trans x4),w2.heap.size,rfl,aC,b4⟩
theorem QC (w:World):Calls Tryz.prog 130 #[.slice none 0 0] w fun e w'=>e=.returned (.func (.func 156) #[] #[.pointer (some ⟨w.heap.size,0,none⟩)])∧Ext w w'∧w'.heap.size=w.heap.size + 1∧w'.heap[w.heap.size]? = some (.cells #[.slice none 0 0] 116 (0,0)):=by
 go_enter Tryz.func130,Tryz.ntmps130
 refine_lift yQ ?_;intro _ _ _;refine jS (vs:=[.slice none 0 0]) fun w1 x1 s1 h1 => ?_;refine aB ?_;refine_lift aL ?_;go_ret;exact ⟨rfl,x1,s1,h1⟩
theorem NV (l b:Nat) (W:World) (hb:W.heap[b]? = some (.cells #[.slice none 0 0] 116 (0,0))) :
 Calls Tryz.prog 156 #[.func (.yield l) #[] #[], .pointer (some ⟨b,0,none⟩)] W (bG W (.tuple #[])):=by
 have hp:=aA (cs:=[.slice none 0 0]) hb;have hs:Sl 8 W (.slice none 0 0) []:=Sl.nil _ _;go_enter Tryz.func156,Tryz.ntmps156
 refine_lift bK fun _ _ => ?_;rw [show ((([]:List (List Value)).length:Nat):Int)=0 from rfl];refine_lift aL ?_;refine wp_loop_once ?_;refine_lift lS fun _ => ?_
 go_end0
 exact ⟨rfl,Ext.refl _⟩
theorem yL {P:Program} {fn:Func} {p q r:Tmp} {t u s tv tx ty:TypeId} {fv fx fy:Nat × Nat} (h:fn.results=#[.cell p t, .cell q u, .cell r s]) {ts:List Value} {d:Nat} {y:Value} {cs:List Value}
 (hp:ts.getD p undef=.pointer (some ⟨b,0,none⟩)) (hq:ts.getD q undef=.pointer (some ⟨c,0,none⟩)) (hr:ts.getD r undef=.pointer (some ⟨d,0,none⟩)) (hv:w.heap[b]? = some (.cells #[v] tv fv)) (hx:w.heap[c]? = some (.cells cs.toArray tx fx)) (hy:w.heap[d]? = some (.cells #[y] ty fy)) (ht:iB P t=true) (hu:dM P u cs.length=true) (hs:iB P s=true) :
 (results fn ts.toArray).run P w=.ok (.tuple #[v, .agg cs.toArray,y]) w:=by
 have h1:=gO (P:=P) hv ht;have h3:=gO (P:=P) hy hs;obtain ⟨u2,ie,hu,hn,hie,hz⟩:=iO hu;have hl:=run_loadCells_list (P:=P) w ⟨c,0,none⟩ cs (fun j v hv=>by rw [dB,Nat.zero_add,cell_of_row w c j _ _ _ hx];simpa using hv);have hp':ts[p]?.getD undef=.pointer (some ⟨b,0,none⟩):=by simpa using hp
 have hq':ts[q]?.getD undef=.pointer (some ⟨c,0,none⟩):=by simpa using hq
 have hr':ts[r]?.getD undef=.pointer (some ⟨d,0,none⟩):=by simpa using hr
 have h2:(loadVar u ⟨c,0,none⟩).run P w=.ok (.agg cs.toArray) w:=by
  simp [loadVar,Sem.run_bind,iP hu hn,sizeOf,typeInfo,hie,hz,hl,Result.andThen]
 simp [results,h,hp',hq',hr',asAddr,Sem.run_bind,Result.andThen,h1,h2,h3]
theorem CK {db:Nat} {room most:Int} (h:DenE B w db room most) (qn:List UInt8) (qt now:Int) (h0:0≤now) (h1:now≤1099511627776) :
 Calls Tryz.prog 95 #[.pointer (some ⟨db,0,none⟩), .agg #[aE qn, .int .i64 qt], .int .i64 now] w (bG w (.tuple #[.int .i64 0, .agg tE.toArray, .bool false])):=by
 have hp:=aA (cs:=[.int .i64 room, .int .i64 most, .slice none 0 0]) h.blk;have e1:(decide (0≤now) && decide (now≤1099511627776))=true:=by simp;omega
 refine iC Tryz.func95 rfl ?_;simp only [Tryz.ntmps95,List.size_toArray,List.length_cons,List.length_nil,Nat.reduceAdd,Nat.reduceSub,Array.replicate_succ,Array.replicate_zero,List.push_toArray,List.append_toArray,List.nil_append,List.cons_append];refine_lift lQ fun _ _ => ?_;refine jS (vs:=[aE qn, .int .i64 qt]) fun w1 x1 s1 b1 => ?_;refine aB ?_;refine jS (vs:=[.int .i64 now]) fun w2 x2 s2 b2 => ?_;refine aB ?_;refine eX (z:=[.int .i64 0]) fun w3 x3 s3 b3 => ?_;refine aB ?_;refine eX (z:=tE) fun w4 x4 s4 b4 => ?_;refine aB ?_;refine eX (z:=[.bool false]) fun w5 x5 s5 b5 => ?_;refine aB ?_;have x25:=x3.trans (x4.trans x5);have hpN:=aA (cs:=[.int .i64 now]) (x25.at b2);have hpQ:=aA (cs:=[aE qn, .int .i64 qt]) (x25.at (x2.at b1));have hp5:=hp.ext (x1.trans (x2.trans x25));refine_lift jH fun _ _ _ _ => ?_;refine bX (NU now 0 1099511627776 _) fun w6 x6 => ?_;rw [e1];have hpQ6:=hpQ.ext x6;have hp6:=hp5.ext x6;refine_lift bK fun _ _ => ?_;refine bX (zS qn _) fun w7 x7 => ?_;refine eX (z:=[aE []]) fun w8 x8 s8 b8 => ?_;refine aB ?_;refine dN (v:=aE (fold qn)) rfl rfl rfl b8 zDk rfl ?_;intro w9 p9;have x79:=eC x8 p9;have hp9:=(hp6.ext x7).ext x79;refine_lift jH fun _ _ _ _ => ?_;refine UH (QC _) fun w10 x10 s10 b10 => ?_;refine_lift SI ?_;refine jI (caps:=#[.pointer (some ⟨w9.heap.size,0,none⟩)]) rfl (enters_of Tryz.func156 rfl rfl) rfl ?_;intro fn W lp hlp xW k4 k5 sW;refine (NV (w10.heap.size + 1) w9.heap.size W (xW.at b10)).mono ?_;rintro e W' ⟨rfl,xW'⟩;refine ⟨⟨_,rfl⟩,lp,xW'.at k5,by subst hlp;simp,?_⟩;intro W2 hput;rw [show lp.pending=none from by subst hlp;rfl];simp only;refine_lift bK fun _ _ => ?_;have z1:=x1.size;have z2:=x2.size;have z6:=x6.size;have z7:=x7.size;have z8:=x79.size;have z10:=x10.size;have z11:=xW.size;have z12:=xW'.size;have z13:=hput.mv.size;have x5W:=(x6.trans (x7.trans x79)).trans ((x10.trans xW).trans xW');have c3:=hput.at (x5W.at ((x4.trans x5).at b3)) aC;have c4:=hput.at (x5W.at (x5.at b4)) aC;have c5:=hput.at (x5W.at b5) aC;have kd:=hput.at (xW'.at k4) aC;have xw0:Ext w W':=(x1.trans (x2.trans x25)).trans x5W;refine aG (v:=.agg tE.toArray) (Runs.build0 (by kernel_rfl)) ?_;refine aB ?_;refine dN (v:=.int .i64 0) rfl rfl rfl c3 zDk rfl ?_;intro W3 p3;refine fG (v:=.agg tE.toArray) (p3.at c4 aC) zDk fun W4 p4 => ?_;refine dN (v:=.bool false) rfl rfl rfl (p4.at (p3.at c5 aC) aC) zDk rfl ?_;intro W5 p5;have q3:=p5.at (p4.at p3.this aC) aC;have q4:=p5.at p4.this aC;have q5:=p5.this;have qd:=p5.at (p4.at (p3.at kd aC) aC) aC;have qx:Ext w W5:=(((xw0.move hput.mv (by rintro k ⟨⟩;omega)).move p3.mv (by rintro k ⟨⟩;omega)).move p4.mv (by rintro k ⟨⟩;omega)).move p5.mv (by rintro k ⟨⟩;omega);refine_lift aL ?_;refine kQ qd fun W6 p6=>⟨_,yL (cs:=tE) rfl rfl rfl rfl (p6.at q3 aC) (p6.at q4 aC) (p6.at q5 aC) zDk zDk zDk,rfl,qx.move p6.mv (by rintro k ⟨⟩;omega)⟩
structure AppMid (w1:World) (c s:Nat) (lp:Loop) (l:List Int) (W:World):Prop where
 ext:Ext w1 W
 hc:c=w1.heap.size∧c < s
 df:W.heap[s]? = some (.deferred (some []))
 lp:W.heap[s + 1]? = some (.loop lp)
 cell:∃ v,W.heap[c]? = some (.cells #[v] 31 (0,0))∧Own (s + 2) 1 3 W v (aY l)∧(l=[]→v=.slice none 0 0)
 size:s + 2≤W.heap.size
theorem AppMid.grow {W W':World} {s:Nat} {lp:Loop} {l:List Int} (h:AppMid w1 c s lp l W) (hx:Ext W W'):AppMid w1 c s lp l W':=by
 obtain ⟨v,a,b,g⟩:=h.cell;exact ⟨h.ext.trans hx,h.hc,hx.at h.df,hx.at h.lp,⟨v,hx.at a,b.ext hx,g⟩,Nat.le_trans h.size hx.size⟩
theorem AppMid.iter {W W':World} {s it:Nat} {lp:Loop} {l:List Int} {o:Obj} {a:Option Nat} {d:Nat} {e:Array Nat} (h:AppMid w1 c s lp l W) (hp:Put W W' it o) (hi:W.heap[it]? = some (.mapIter a b e d)) (hs:s + 2≤it):AppMid w1 c s lp l W':=by
 obtain ⟨v,x,y,g⟩:=h.cell;have:=h.hc;refine ⟨h.ext.move hp.mv (by rintro k ⟨⟩;omega),h.hc,hp.mv.at h.df (by intro e;have:=Option.some.inj e;omega),hp.mv.at h.lp (by intro e;have:=Option.some.inj e;omega),⟨v,hp.mv.at x (by intro e;have:=Option.some.inj e;omega),y.mv hp.mv (.inr fun e => ?_),g⟩,by rw [hp.size];exact h.size⟩;obtain ⟨cur,fz,hq⟩:=y.type e;rw [hi] at hq;cases hq
theorem ET {it m:Nat} {x:Value} (h:ItS k w it m [(x,v)]):(w.iterSeen it).size=min k 1:=by
 obtain ⟨e,c,_,_,_,_,h4⟩:=vQ h;unfold World.iterSeen;rw [h4];simp
theorem TS (m:Nat) (w:World):Calls Tryz.prog 68 #[.map (some m)] w fun e w'=>e=.returned (.func (.func 106) #[] #[.pointer (some ⟨w.heap.size,0,none⟩)])∧Ext w w'∧w'.heap.size=w.heap.size + 1∧w'.heap[w.heap.size]? = some (.cells #[.map (some m)] 66 (0,0)):=by
 go_enter Tryz.func68,Tryz.ntmps68
 refine_lift yQ ?_;intro _ _ _;refine jS (vs:=[.map (some m)]) fun w1 x1 s1 h1 => ?_;refine aB ?_;refine_lift aL ?_;go_ret;exact ⟨rfl,x1,s1,h1⟩
theorem NW (l b m:Nat) (W:World) (hb:W.heap[b]? = some (.cells #[.map (some m)] 66 (0,0))) (hm:MapS FE W m []) :
 Calls Tryz.prog 106 #[.func (.yield l) #[] #[], .pointer (some ⟨b,0,none⟩)] W (bG W (.tuple #[])):=by
 have hp:=aA (cs:=[.map (some m)]) hb;have htm:dZ Tryz.prog 66 3 104=true:=zDk;go_enter Tryz.func106,Tryz.ntmps106
 refine_lift bK fun _ _ => ?_;refine nP rfl hm (fun w7 x7 s7 i7 => ?_) (ht:=htm);refine aB ?_;refine_lift aL ?_;refine wp_loop_once ?_;refine_lift yQ ?_;intro _ _ _;refine aG (Runs.next0 rfl i7) ?_;refine aB ?_;refine_lift lS fun _ => ?_
 go_end0
 exact ⟨rfl,x7⟩
theorem NX {s:Nat} {lp:Loop} (b m:Nat) (k:Int) (p:Value) (hp:lp.params.size=1) (W:World) (hb1:b < s) (hbc:b≠c) (hb:W.heap[b]? = some (.cells #[.map (some m)] 66 (0,0))) (hm:MapS FE W m [(.int .i64 k,p)]) (hmc:m < s) (hmc2:m≠c)
 (hy:∀ W,AppMid w1 c s lp [] W→RoundIn Fence.wide 0 Tryz.prog (s + 1) lp.fn ((lp.params.zip #[.int .i64 k]).foldl (fun tmps (t,a)=>tmps.setIfInBounds t a) lp.tmps) lp.assign lp.body W
   fun e W'=>e=.returned (.bool true)∧AppMid w1 c s lp [k] W'∧∀ j,j < W.heap.size→j≠c→j≠s + 1→W'.heap[j]? = W.heap[j]?) (h0:AppMid w1 c s lp [] W) :
 Calls Tryz.prog 106 #[.func (.yield (s + 1)) #[] #[], .pointer (some ⟨b,0,none⟩)] W fun e w'=>e=.returned (.tuple #[])∧AppMid w1 c s lp [k] w':=by
 have hpb:=aA (cs:=[.map (some m)]) hb;have htm:dZ Tryz.prog 66 3 104=true:=zDk;go_enter Tryz.func106,Tryz.ntmps106
 refine_lift mS ?_;intro _ _ _;refine nP rfl hm (fun w7 x7 s7 i7 => ?_) (ht:=htm);refine aB ?_;have hz:=h0.size;have ha7:=h0.grow x7;refine_lift aL ?_;go_loopw [3] (fun _ wr=>(AppMid w1 c s lp [] wr∧ItS 0 wr W.heap.size m [(.int .i64 k,p)])∨(AppMid w1 c s lp [k] wr∧ItS 1 wr W.heap.size m [(.int .i64 k,p)])) (fun _ wr=>1 - (wr.iterSeen W.heap.size).size)
 case atStart=>exact .inl ⟨ha7,i7⟩
 case round =>
  rcases hrel with ⟨hA,hI⟩ | ⟨hA,hI⟩
  ·refine_lift yQ ?_;intro _ _ _;refine AN rfl hI aC (fun w8 o8 p8 i8 => ?_);refine aB ?_;have hI0:=hI;obtain ⟨_,_,_,_,_,hI4⟩:=hI0;have hA8:=hA.iter p8 hI4 aC;refine_lift mS fun _ _ _ => ?_;refine aG (Runs.entry1 rfl i8) ?_;refine aB ?_
   repeat' (first | (refine dP (id:=3) ?_) | (refine dP (id:=4) ?_) | ((with_reducible apply oI);(rfl);exact DF;refine aB ?_) | (with_reducible (apply oJ)) | ((with_reducible refine cB ?_);(first | (refine jO ?_;refine fX ?_) | (refine nC ?_;first | refine pI ?_ | refine CS ?_ | refine CU ?_ | refine CT ?_ | ((first | refine BE ?_ ?_ | refine BF ?_ ?_) <;> intro hc)))) | ((fail_if_success (with_reducible refine cB ?_));go_step))
   refine qK (lp:=lp) (vs:=[.int .i64 k]) rfl rfl rfl hA8.lp (by simp [hp]) (hy _ hA8) ?_;rintro e W' ⟨rfl,hA',hF⟩;refine ⟨_,rfl,?_⟩;simp only [List.set_cons_succ,List.set_cons_zero]
   repeat' (first | (refine dP (id:=3) ?_) | (refine dP (id:=4) ?_) | ((with_reducible apply oI);(rfl);exact DF;refine aB ?_) | (with_reducible (apply oJ)) | ((with_reducible refine cB ?_);(first | (refine jO ?_;refine fX ?_) | (refine nC ?_;first | refine pI ?_ | refine CS ?_ | refine CU ?_ | refine CT ?_ | ((first | refine BE ?_ ?_ | refine BF ?_ ?_) <;> intro hc)))) | ((fail_if_success (with_reducible refine cB ?_));go_step))
   go_roundw
   case rel =>
    have hhc:=hA.hc;have zr:=hA8.size;have lit:=(Array.getElem?_eq_some_iff.1 hI4).1;have z8:=p8.size;exact .inr ⟨hA',i8.at (fun es q x=>by rw [hF m aC hmc2 aC];exact x) (fun a1 a2 a3 a4 x=>by rw [hF W.heap.size aC aC aC];exact x)⟩
   case measure =>
    have zr:=hA8.size;have lit:=(Array.getElem?_eq_some_iff.1 hI4).1;have z8:=p8.size;have hhc:=hA.hc;have j8:ItS 1 W' W.heap.size m [(.int .i64 k,p)]:=i8.at (fun es q x=>by rw [hF m aC hmc2 aC];exact x) (fun a1 a2 a3 a4 x=>by rw [hF W.heap.size aC aC aC];exact x);rw [ET j8,ET hI];omega
  ·refine_lift yQ ?_;intro _ _ _;refine aG (Runs.next2 rfl hI) ?_;refine aB ?_;refine_lift lS fun _ => ?_
   go_end0
   exact ⟨rfl,hA⟩
structure KeysIn (B:Nat) (w:World) (b m:Nat) (l:List Int):Prop where
 box:w.heap[b]? = some (.cells #[.map (some m)] 66 (0,0))
 out:(l=[]∧MapS FE w m [])∨∃ k p,l=[k]∧MapS FE w m [(.int .i64 k,p)]
theorem Own.below {o:Obj} (h:Own B k e w v es) (hp:Put w w' b o) (hb:b < B):Own B k e w' v es :=
 h.same fun r hr=>hp.other r (by have:=(h.block r hr).1;omega)
theorem NY (b m:Nat) (l:List Int) (w:World) (h:KeysIn 0 w b m l):Calls Tryz.prog 136 #[.slice none 0 0, .func (.func 106) #[] #[.pointer (some ⟨b,0,none⟩)]] w (pX w fun r w'=>Own w.heap.size 1 3 w' r (aY l)):=by
 have lb:b < w.heap.size:=(Array.getElem?_eq_some_iff.1 h.box).1;have lm:m < w.heap.size:=by
  rcases h.out with ⟨_,hm⟩ | ⟨_,_,_,hm⟩
  ·exact hm.lt
  ·exact hm.lt
 refine iC Tryz.func136 rfl ?_;simp only [Tryz.ntmps136,List.size_toArray,List.length_cons,List.length_nil,Nat.reduceAdd,Nat.reduceSub,Array.replicate_succ,Array.replicate_zero,List.push_toArray,List.append_toArray,List.nil_append,List.cons_append];refine_lift yQ ?_;intro _ _ _;refine jS (vs:=[.slice none 0 0]) fun w1 x1 s1 b1 => ?_;refine aB ?_;refine_lift bK fun _ _ => ?_;refine jI (caps:=#[.pointer (some ⟨b,0,none⟩)]) rfl (enters_of Tryz.func106 rfl rfl) rfl ?_;intro fn W lp hlp xW k4 k5 sW;have hA0:AppMid w w.heap.size w1.heap.size lp [] W:=⟨x1.trans xW,⟨rfl,aC⟩,k4,k5,⟨.slice none 0 0,xW.at b1,Own.nil _ _ _ _,fun _=>rfl⟩,aC⟩;have hrdy:lp.pending=none∧lp.state≠.busy:=by subst hlp;exact ⟨rfl,bE⟩
 have hcall:Calls Tryz.prog 106 #[.func (.yield (w1.heap.size + 1)) #[] #[], .pointer (some ⟨b,0,none⟩)] W fun e W'=>e=.returned (.tuple #[])∧AppMid w w.heap.size w1.heap.size lp l W':=by
  rcases h.out with ⟨rfl,hm⟩ | ⟨k,p,rfl,hm⟩
  ·refine (NW _ b m W ((x1.trans xW).at h.box) (hm.ext (x1.trans xW))).mono ?_;rintro e W' ⟨rfl,x'⟩;exact ⟨rfl,hA0.grow x'⟩
  ·refine NX b m k p (by subst hlp;rfl) W aC aC ((x1.trans xW).at h.box) (hm.ext (x1.trans xW)) aC aC ?_ hA0;clear hA0 k4 k5 sW xW hrdy W;intro W hM;subst hlp;simp only [List.zip_toArray,List.zip_cons_cons,List.zip_nil_right,List.foldl_toArray',List.foldl_cons,List.foldl_nil,List.setIfInBounds_toArray,List.set_cons_succ,List.set_cons_zero,List.foldl_toArray,List.size_toArray,List.zip_toArray,List.length_cons,List.length_nil];have xM:=hM.ext;have md:=hM.df;have ml:=hM.lp;have ms:=hM.size;obtain ⟨v,mv,ov,hv0⟩:=hM.cell;obtain rfl:=hv0 rfl;clear hM;refine wG ?_
   repeat' (first | refine fM (by rfl) (by intro _ _ h;exact h) ?_ | ((with_reducible refine cB ?_);(first | (refine jO ?_;refine fX ?_) | (refine nC ?_;first | refine pI ?_ | refine CS ?_ | refine CU ?_ | refine CT ?_ | ((first | refine BE ?_ ?_ | refine BF ?_ ?_) <;> intro hc)))) | ((fail_if_success (with_reducible refine cB ?_));first | go_step | gi_step))
   refine ⟨_,ml,rfl,?_⟩;intro wA pA;have nv:=pA.mv.at mv (by intro e;have:=Option.some.inj e;omega);have nd:=pA.mv.at md (by intro e;have:=Option.some.inj e;omega);have nl:=pA.this;have oA:=ov.below pA aC;have xA:=eC xM pA;have sA:wA.heap.size=W.heap.size:=pA.size;have hpc:=aA (cs:=[.slice none 0 0]) nv
   repeat' (first | refine fM (by rfl) (by intro _ _ h;exact h) ?_ | ((with_reducible refine cB ?_);(first | (refine jO ?_;refine fX ?_) | (refine nC ?_;first | refine pI ?_ | refine CS ?_ | refine CU ?_ | refine CT ?_ | ((first | refine BE ?_ ?_ | refine BF ?_ ?_) <;> intro hc)))) | ((fail_if_success (with_reducible refine cB ?_));first | go_step | gi_step))
   refine qP (e:=3) (k:=1) (bytes:=8) (xs:=[.int .i64 k]) (by simp [Value.cells]) fun v2 w2 x2 _ sl2 _ => ?_;refine aB ?_;refine dA (B:=w1.heap.size + 2) (e:=3) (k:=1) rfl (oA.ext x2) rfl sl2 (by simp [Value.cells,Value.oneCell']) (by have:=x2.size;omega) (by simp [aY]) ?_;intro v3 w3 o3 m3 hk3;refine aB ?_;have m3':Mv none w2 w3:=m3;have z2:=x2.size;have z3:=m3'.size;have tM:∀ (j:Nat) (ob:Obj),wA.heap[j]? = some ob→w3.heap[j]? = some ob:=fun j ob h=>m3'.at (x2.at h) bE;have bC3:=tM _ _ nv;refine dN (v:=v3) rfl rfl rfl bC3 zDk o3.one ?_;intro w4 p4;have z4:=p4.mv.size;have nl4:=p4.at (tM _ _ nl) aC;have x4:=eC ((xA.trans x2).move m3' bE) p4
   repeat' (first | refine fM (by rfl) (by intro _ _ h;exact h) ?_ | ((with_reducible refine cB ?_);(first | (refine jO ?_;refine fX ?_) | (refine nC ?_;first | refine pI ?_ | refine CS ?_ | refine CU ?_ | refine CT ?_ | ((first | refine BE ?_ ?_ | refine BF ?_ ?_) <;> intro hc)))) | ((fail_if_success (with_reducible refine cB ?_));first | go_step | gi_step))
   exact rK nl4 fun w' p'=>⟨rfl,⟨x4.move p'.mv (by rintro k ⟨⟩;omega),⟨rfl,aC⟩,p'.at (p4.at (tM _ _ nd) aC) aC,p'.this,⟨v3,p'.at p4.this aC,(iM o3 p4 bC3).below p' aC,bE⟩,by have:=p'.mv.size;omega⟩,fun j h1 h2 h3=>by
    rw [p'.other j h3,p4.other j h2,m3'.block j aC bE,x2.block j aC,pA.other j h3]⟩
 refine hcall.mono ?_;rintro e W' ⟨rfl,hA⟩;refine ⟨⟨_,rfl⟩,lp,hA.lp,hrdy.2,?_⟩;intro W2 hput;rw [hrdy.1];simp only;obtain ⟨v,c1,c2,_⟩:=hA.cell;have z1:=x1.size;have hzA:=hA.size;have q1:=hput.at c1 aC;have q2:=hput.at hA.df aC;have q3:=c2.below hput aC;have hpv:=aA (cs:=[v]) q1;have hx:=eC hA.ext hput;refine_lift aL ?_;refine kQ q2 fun W5 p5=>⟨_,results_tmp rfl _ _ _,v,rfl,hx.move p5.mv (by rintro k ⟨⟩;omega),(q3.below p5 aC).weaken aC⟩
theorem KP (b m:Nat) (l:List Int) (w:World) (h:KeysIn 0 w b m l):Calls Tryz.prog 104 #[.func (.func 106) #[] #[.pointer (some ⟨b,0,none⟩)]] w (pX w fun r w'=>Own w.heap.size 1 3 w' r (aY l)):=by
 go_enter Tryz.func104,Tryz.ntmps104
 refine_lift mS ?_;intro _ _ _;refine uD (NY b m l _ h) fun v w1 x1 o1 => ?_;refine_lift aL ?_;go_ret;exact ⟨_,rfl,x1,o1⟩
theorem QD {l:List Int} (h:Own B 1 3 w v (aY l)) (hl:l.length≤1):Calls Tryz.prog 105 #[v] w fun e w'=>e=.returned (.tuple #[])∧Own B 1 3 w' v (aY l)∧Mv v.ownBlock w w':=by
 have hlen:(aY l).length=l.length:=List.length_map ..;rcases h.form with ⟨rfl,h0⟩ | ⟨g,cap,rfl,hg,hB,hc,hm⟩
 ·have:l=[]:=by simpa [aY] using h0
  subst this;refine (Tryz.slices_Sort_int_none none 0 w).mono ?_;rintro e w' ⟨rfl,rfl⟩;exact ⟨rfl,h,Mv.refl _ _⟩
 ·rw [hlen] at h hm ⊢;refine (Tryz.slices_Sort_int g 0 cap l w (Own.holds (enc:=Value.int .i64) h) hg aC).mono ?_;rintro e w' ⟨rfl,n,os,rfl⟩;have hs:(l.mergeSort fun x y=>decide (x≤y))=l:=by
   match l,hl with
   | [],_=>simp
   | [a],_=>simp
  have:=Own.putRow (enc:=Value.int .i64) (ys:=l.mergeSort fun x y=>decide (x≤y)) h (List.length_mergeSort _) n os;rw [hs] at this ⊢;exact ⟨rfl,this.1,this.2⟩
theorem NZ (b m:Nat) (l:List Int) (w:World) (h:KeysIn 0 w b m l):Calls Tryz.prog 67 #[.func (.func 106) #[] #[.pointer (some ⟨b,0,none⟩)]] w (pX w fun r w'=>Own w.heap.size 1 3 w' r (aY l)):=by
 have hl:l.length≤1:=by
  rcases h.out with ⟨rfl,_⟩ | ⟨k,p,rfl,_⟩ <;> simp
 go_enter Tryz.func67,Tryz.ntmps67
 refine_lift mS ?_;intro _ _ _;refine uD (KP b m l _ h) fun v w1 x1 o1 => ?_;refine_lift bK fun _ _ => ?_;refine fY (QD o1 hl) ?_;rintro e w2 ⟨rfl,o2,m2⟩;refine ⟨_,rfl,?_⟩;refine aB ?_;refine_lift aL ?_;go_ret;exact ⟨_,rfl,o1.mvx m2 x1 (Nat.le_refl _),o2⟩
theorem OA (n a b:Int) (w:World):Calls Tryz.prog 21 #[.int .i64 n, .int .i64 a, .int .i64 b] w (bG w (.bool (decide (a≤n) && decide (n≤b)))):=by
 go_enter Tryz.func21,Tryz.ntmps21
 refine_lift iU (fun hc => ?_) (fun hc => ?_)
 all_goals
  go_ret;refine ⟨?_,Ext.refl _⟩;simp;omega
abbrev gN:=Int × List UInt8
def bU (l:List gN):List (List Value):=l.map fun x=>[.int .i64 x.1,aE x.2]
structure NodC where
 rv:Value
 bud:Int
 room:Int
 most:Int
 wt:Int
 cb:Nat
 db:Nat
 tb:Nat
 mb:Nat
 sent:Int
 ov:Value
def NodC.cells (x:NodC):List Value:=[x.rv, .int .i64 x.bud, .int .i64 x.room, .int .i64 x.most, .int .i64 x.wt, .pointer (some ⟨x.cb,0,none⟩), .pointer (some ⟨x.db,0,none⟩), .pointer (some ⟨x.tb,0,none⟩), .map (some x.mb), .int .i64 x.sent,x.ov]
abbrev nT:List TypeId:=[71,50]
structure NodV (B Bo:Nat) (w:World) (nb:Nat) (x:NodC) (l:List gN):Prop where
 ge:B≤nb
 blk:w.heap[nb]? = some (.cells x.cells.toArray 71 (0,0))
 row:Own Bo 2 50 w x.ov (bU l)
 le:B≤Bo∧Bo≤w.heap.size
theorem NodV.keep {Bo:Nat} {nb:Nat} {x:NodC} {l:List gN} {T:List TypeId} {M:List Nat} (h:NodV B Bo w nb x l) (hk:Kf T M w w') (hs:w.heap.size≤w'.heap.size) (h1:71 ∉ T) (h2:50 ∉ T):NodV B Bo w' nb x l :=
 ⟨h.ge,hk.cells _ _ _ _ h.blk h1,h.row.keep hk.keep h2,h.le.1,Nat.le_trans h.le.2 hs⟩
theorem NodV.ext {Bo:Nat} {nb:Nat} {x:NodC} {l:List gN} (h:NodV B Bo w nb x l) (hx:Ext w w'):NodV B Bo w' nb x l:=⟨h.ge,hx.at h.blk,h.row.ext hx,h.le.1,Nat.le_trans h.le.2 hx.size⟩
def Bf (Bo nb:Nat) (w w':World):Prop:=∀ j,j < w.heap.size→j < Bo→j≠nb→w'.heap[j]? = w.heap[j]?
theorem Bf.of {Bo nb:Nat} (h:Ext w w'):Bf Bo nb w w':=fun j hj _ _=>h.block j hj
theorem Bf.trans {Bo nb:Nat} {a b c:World} (h:Bf Bo nb a b) (hs:a.heap.size≤b.heap.size) (k:Bf Bo nb b c):Bf Bo nb a c:=fun j h1 h2 h3=>(k j aC h2 h3).trans (h j h1 h2 h3)
theorem OB {Bo:Nat} {nb:Nat} {x:NodC} {l:List gN} (h:NodV B Bo w nb x l) (to:Int) (s:List UInt8) (hl:l.length≤100000) :
 Calls Tryz.prog 69 #[.pointer (some ⟨nb,0,none⟩), .int .i64 to,aE s] w (fun e w'=>e=.returned (.tuple #[])∧∃ ov,NodV B Bo w' nb { x with ov:=ov } (l ++ [(to,s)])∧Kf nT [] w w'∧Lo B w w'∧Bf Bo nb w w'):=by
 obtain ⟨rv,bud,room,most,wt,cb,db,tb,mb,sent,ov⟩:=x;have hp:=aA (cs:=[rv, .int .i64 bud, .int .i64 room, .int .i64 most, .int .i64 wt, .pointer (some ⟨cb,0,none⟩), .pointer (some ⟨db,0,none⟩), .pointer (some ⟨tb,0,none⟩), .map (some mb), .int .i64 sent,ov]) h.blk;go_enter Tryz.func69,Tryz.ntmps69
 refine_lift lS ?_;intro _;refine aG (v:=.agg #[.int .i64 to,aE s]) (Runs.build (vals:=[(0, .int .i64 to),(1,aE s)]) rfl (by kernel_rfl)) ?_;refine aB ?_;refine qP (e:=50) (k:=2) (bytes:=24) (xs:=[.agg #[.int .i64 to,aE s]]) (by simp [Value.cells]) fun v2 w2 x2 _ sl2 _ => ?_;refine aB ?_;have hge:=h.ge;have lb:nb < w.heap.size:=(Array.getElem?_eq_some_iff.1 h.blk).1;have z2:=x2.size;refine dA (B:=Bo) (e:=50) (k:=2) rfl (h.row.ext x2) rfl sl2 (by simp [Value.cells,aE,Value.oneCell']) (by have:=h.le;omega) (by simp [bU];omega) ?_;intro v3 w3 o3 m3 hk3;refine aB ?_;have m3':Mv ov.ownBlock w2 w3:=m3;have hrow:Own Bo 2 50 w2 ov (bU l):=h.row.ext x2;have b3:=m3'.at (x2.at h.blk) (fun e=>hrow.neBlock (x2.at h.blk) aH e.symm);refine_lift aL ?_;refine fZ 10 v3 b3 o3.one fun w4 p4 => ?_;refine_lift aL ?_
 go_end0
 have hle:=h.le;have z3:=m3'.size;have z4:=p4.size;refine ⟨rfl,v3,⟨hge,p4.this,?_,aC⟩,(Kf.of x2).trans ((Kf.row hrow m3' aH).trans (Kf.put p4 b3 aH)),(Lo.of x2).trans ((Lo.mv m3' fun k hk=>Nat.le_trans hle.1 (hrow.block k hk).1).trans (Lo.put p4 hge)),fun j g1 g2 g3=>by
  rw [p4.other j g3,m3'.block j aC (fun e=>by have:=(hrow.block j e.symm).1;omega),x2.block j g1]⟩
 have e1:bU (l ++ [(to,s)])=bU l ++ [[.int .i64 to,aE s]]:=by simp [bU]
 rw [e1];exact iM o3 p4 b3
theorem TT {Bo:Nat} {nb:Nat} {x:NodC} {l:List gN} (h:NodV B Bo w nb x l) :
 Calls Tryz.prog 36 #[.pointer (some ⟨nb,0,none⟩)] w (fun e w'=>e=.returned x.ov∧NodV B Bo w' nb { x with ov:=.slice none 0 0 } []∧Own Bo 2 50 w' x.ov (bU l)∧Kf nT [] w w'∧Lo B w w'∧Bf Bo nb w w'):=by
 obtain ⟨rv,bud,room,most,wt,cb,db,tb,mb,sent,ov⟩:=x;have hp:=aA (cs:=[rv, .int .i64 bud, .int .i64 room, .int .i64 most, .int .i64 wt, .pointer (some ⟨cb,0,none⟩), .pointer (some ⟨db,0,none⟩), .pointer (some ⟨tb,0,none⟩), .map (some mb), .int .i64 sent,ov]) h.blk;go_enter Tryz.func36,Tryz.ntmps36
 refine_lift mS ?_;intro _ _ _;refine fZ 10 (.slice none 0 0) h.blk rfl fun w4 p4 => ?_;refine_lift aL ?_;go_ret;exact ⟨rfl,⟨h.ge,p4.this,Own.nil _ _ _ _,by rw [p4.size];exact h.le⟩,iM h.row p4 h.blk,Kf.put p4 h.blk aH,Lo.put p4 h.ge,fun j _ _ g3=>p4.other j g3⟩
def eP (c:CliR) (kind code:Int) (an au:List Rec):MsgR:={ zeroM with id:=c.id,resp:=true,avail:=true,want:=true,rcode:=code,qs:=[(c.name,kind)],an:=an,au:=au }
def gT (c:CliR) (kind code:Int) (an au:List Rec):List gN:=if (vK (eP c kind code an au) 512).2.2=0 then [(c.node,(vK (eP c kind code an au) 512).2.1)] else []
theorem CL {Bo:Nat} {nb:Nat} {x:NodC} {l:List gN} (h:NodV B Bo w nb x l) (c:CliR) (kind code:Int) (va vu:Value) (an au:List Rec) (ha:Sl 4 w va (aF an)) (hu:Sl 4 w vu (aF au)) (hl:l.length≤100000) :
 Calls Tryz.prog 59 #[.pointer (some ⟨nb,0,none⟩), .agg #[.int .i64 c.node, .int .i64 c.id,aE c.name], .int .i64 kind, .int .i64 code,va,vu] w (fun e w'=>e=.returned (.tuple #[])∧∃ ov,NodV B Bo w' nb { x with ov:=ov } (l ++ gT c kind code an au)∧Kf nT [] w w'∧Lo B w w'∧Bf Bo nb w w'):=by
 obtain ⟨aa,na,ca,hva⟩:∃ a n c,va=.slice a n c:=by
  obtain ⟨a,n,e,_⟩:=ha;exact ⟨_,_,_,e⟩
 obtain ⟨aU,nu,cu,hvu⟩:∃ a n c,vu=.slice a n c:=by
  obtain ⟨a,n,e,_⟩:=hu;exact ⟨_,_,_,e⟩
 go_enter Tryz.func59,Tryz.ntmps59
 refine_lift yQ ?_;intro _ _ _;refine jS (vs:=[.int .i64 c.node, .int .i64 c.id,aE c.name]) fun w1 x1 s1 b1 => ?_;refine aB ?_;have hpc:=aA (cs:=[.int .i64 c.node, .int .i64 c.id,aE c.name]) b1;refine_lift bK fun _ _ => ?_;refine aG (v:=.agg #[aE c.name, .int .i64 kind]) (Runs.build (vals:=[(0,aE c.name),(1, .int .i64 kind)]) rfl (by kernel_rfl)) ?_;refine aB ?_;refine qP (e:=28) (k:=2) (bytes:=24) (xs:=[.agg #[aE c.name, .int .i64 kind]]) (by simp [Value.cells]) fun v2 w2 x2 _ sl2 o2 => ?_;refine aB ?_;obtain ⟨ad2,cap2,hv2⟩:∃ a n,v2=.slice a 1 n:=by
  obtain ⟨a,n,e,_⟩:=sl2;exact ⟨a,n,e⟩
 refine_lift aL ?_;refine aG (v:=.agg (aX (eP c kind code an au) v2 va vu cI).toArray) (Runs.build (vals:=[(0, .int .i64 c.id),(1, .bool true),(6, .bool true),(5, .bool true),(7, .int .i64 code),(8,v2),(9,va),(10,vu)]) rfl (by rw [hv2,hva,hvu];kernel_rfl)) ?_;refine aB ?_;have hx2:=x1.trans x2;have hm2:MsgV w2 (eP c kind code an au) v2 va vu cI:=⟨sl2,ha.ext hx2,hu.ext hx2,Sl.nil _ _⟩;refine eX (z:=jL) fun w3 x3 s3 b3 => ?_;refine aB ?_;refine fG (v:=.agg (aX (eP c kind code an au) v2 va vu cI).toArray) b3 (gP (hm2.ext x3)) fun w4 p4 => ?_;have x24:=eC x3 p4;have hpm:=aA (cs:=aX (eP c kind code an au) v2 va vu cI) p4.this;unfold aX at hpm;have hm4:=hm2.ext x24;have hpc4:=(hpc.ext x2).ext x24;refine_lift bK fun _ _ => ?_;refine pZ (VI (eP c kind code an au) v2 va vu cI 512 _ hm4) fun r w5 x5 hr => ?_;obtain ⟨q5,a5,u5,e5,rfl,hm5⟩:=hr;refine aB ?_;refine_lift aL ?_;refine eX (z:=jL) fun w6 x6 s6 b6 => ?_;refine aB ?_;refine fG (v:=.agg (aX (vK (eP c kind code an au) 512).1 q5 a5 u5 e5).toArray) b6 (gP (hm5.ext x6)) fun w7 p7 => ?_;have x57:=eC x6 p7;have hx7:=(hx2.trans x24).trans (x5.trans x57);have hpc7:=(hpc4.ext x5).ext x57;have h7:=h.ext hx7;refine_lift iU (fun _ => ?_) (fun _ => ?_)
 ·refine fY (OB h7 c.node (vK (eP c kind code an au) 512).2.1 hl) ?_;rintro _ w8 ⟨rfl,ov,h8,k8,l8,f8⟩;refine ⟨_,rfl,?_⟩;refine aB ?_;refine_lift aL ?_
  go_end0
  refine ⟨rfl,ov,?_,(Kf.of hx7).trans k8,(Lo.of hx7).trans l8,(Bf.of hx7).trans hx7.size f8⟩;rw [gT,if_pos (by assumption)];exact h8
 ·go_end0
  refine ⟨rfl,x.ov,?_,Kf.of hx7,Lo.of hx7,Bf.of hx7⟩;rw [gT,if_neg (by assumption),List.append_nil];exact h7
end Go.Proofs.X
namespace Go.Proofs.X
open Go.RowKit
structure NTask where
 n:Int
 t:TaskR
 an:List UInt8
 at_:Int
 fn:List UInt8
 ft:Int
 to:Int
 q:MsgR
 late:Int
def QE (x:NTask) (rb:Nat) (qv:Value):List Value:=[.pointer (some ⟨rb,0,none⟩),aE x.an, .int .i64 x.at_,aE x.fn, .int .i64 x.ft, .int .i64 x.to,
 .int .i64 x.q.id, .bool x.q.resp, .int .i64 x.q.op, .bool x.q.auth, .bool x.q.trunc, .bool x.q.want, .bool x.q.avail, .int .i64 x.q.rcode,qv,cI,cI,cI, .int .i64 x.q.size, .int .i64 x.late]
structure NTV (wL w:World) (x:NTask) (sb rb:Nat) (qv:Value):Prop where
 ge:wL.heap.size≤sb
 blk:w.heap[sb]? = some (.cells (QE x rb qv).toArray 107 (0,0))
 tsk:TaskAt wL w rb x.t
 row:Own wL.heap.size 2 28 w qv (cG x.q.qs)
 nil:x.q.an=[]∧x.q.au=[]∧x.q.ex=[]
structure NodeR where
 roots:List Int
 bud:Int
 room:Int
 most:Int
 wt:Int
 C:CacheR
 last:Int
 tt:Option WaitR
 nt:Option NTask
 sent:Nat
 out:List gN
structure NodeM where
 nb:Nat
 rv:Value
 ov:Value
 cb:Nat
 em:Nat
 db:Nat
 tb:Nat
 tm:Nat
 mb:Nat
 sb:Nat
def NodeM.c (M:NodeM) (S:NodeR):NodC:=⟨M.rv,S.bud,S.room,S.most,S.wt,M.cb,M.db,M.tb,M.mb,(S.sent:Nat),M.ov⟩
def OK (t:Option NTask) (sb:Nat):List (Value × Value):=match t with
 | none=>[]
 | some x=>[(.int .i64 x.n, .pointer (some ⟨sb,0,none⟩))]
structure NodeW (wL:World) (Bo:Nat) (w:World) (M:NodeM) (S:NodeR):Prop where
 ext:Ext wL w
 nod:NodV wL.heap.size Bo w M.nb (M.c S) S.out
 rts:Own wL.heap.size 1 3 w M.rv (aY S.roots)
 cac:CacheAt wL.heap.size w M.cb M.em S.C
 den:DenE wL.heap.size w M.db S.room S.most
 tab:TabAt wL.heap.size w M.tb M.tm S.last S.tt
 gm:wL.heap.size≤M.mb
 map:MapS FE w M.mb (OK S.nt M.sb)
 tsk:∀ x,S.nt=some x→∃ rb qv,NTV wL w x M.sb rb qv
 ne:M.em≠M.tm∧M.em≠M.mb∧M.tm≠M.mb
def NodeAt (wL:World) (Bo:Nat) (w:World) (nb:Nat) (S:NodeR):Prop:=∃ M,M.nb=nb∧NodeW wL Bo w M S
theorem CacheAt.ext {B:Nat} {w w':World} {cb em:Nat} {C:CacheR} (h:CacheAt B w cb em C) (hx:Ext w w'):CacheAt B w' cb em C:=by
 obtain ⟨gs,h⟩:=h;exact ⟨gs,h.ext hx⟩
theorem TabAt.ext {B:Nat} {w w':World} {tb tm:Nat} {last:Int} {t:Option WaitR} (h:TabAt B w tb tm last t) (hx:Ext w w'):TabAt B w' tb tm last t:=by
 obtain ⟨k,h⟩:=h;exact ⟨k,h.ext hx⟩
theorem NTV.ext {wL w w':World} {x:NTask} {sb rb:Nat} {qv:Value} (h:NTV wL w x sb rb qv) (hx:Ext w w'):NTV wL w' x sb rb qv:=⟨h.ge,hx.at h.blk,h.tsk.grow hx,h.row.ext hx,h.nil⟩
theorem NodeW.grow {wL w w':World} {Bo:Nat} {M:NodeM} {S:NodeR} (h:NodeW wL Bo w M S) (hx:Ext w w'):NodeW wL Bo w' M S :=
 ⟨h.ext.trans hx,h.nod.ext hx,h.rts.ext hx,h.cac.ext hx,⟨h.den.ge,hx.at h.den.blk⟩,h.tab.ext hx,h.gm,h.map.ext hx,fun x e=>by obtain ⟨rb,qv,a⟩:=h.tsk x e;exact ⟨rb,qv,a.ext hx⟩,h.ne⟩
theorem NodeAt.grow {wL w w':World} {Bo nb:Nat} {S:NodeR} (h:NodeAt wL Bo w nb S) (hx:Ext w w'):NodeAt wL Bo w' nb S:=by
 obtain ⟨M,e,h⟩:=h;exact ⟨M,e,h.grow hx⟩
theorem StopV.keep {B:Nat} {w w':World} {v:Value} {s:Option ActR} {T:List TypeId} {M:List Nat} (h:StopV B w v s) (hk:Kf T M w w') (h1:110 ∉ T) (h2:61 ∉ T):StopV B w' v s:=by
 cases s with
 | none=>exact h
 | some a =>
  obtain ⟨c,v1,v2,g1,g2,g3,g4,g5,g6⟩:=h;exact ⟨c,v1,v2,g1,g2,hk.cells _ _ _ _ g3 h1,g4.keep hk.keep h2,g5.keep hk.keep h2,g6⟩
theorem TaskAt.keep {wL w w':World} {b:Nat} {t:TaskR} {T:List TypeId} {M:List Nat} (h:TaskAt wL w b t) (hk:Kf T M w w') (hx:Ext wL w') (h0:164 ∉ T) (h1:110 ∉ T) (h2:61 ∉ T) (h3:3 ∉ T):TaskAt wL w' b t:=by
 obtain ⟨rv,sv,gv,ev,h⟩:=h;exact ⟨rv,sv,gv,ev,h.ge,hx,hk.cells _ _ _ _ h.blk h0,h.rs.keep hk.keep h3,h.ss.keep hk.keep h3,h.gs.keep hk.keep h2,h.es.keep hk h1 h2⟩
theorem NTV.keep {wL w w':World} {x:NTask} {sb rb:Nat} {qv:Value} {T:List TypeId} {M:List Nat} (h:NTV wL w x sb rb qv) (hk:Kf T M w w') (hx:Ext wL w') (h0:164 ∉ T) (h1:110 ∉ T) (h2:61 ∉ T) (h3:3 ∉ T) (h4:107 ∉ T) (h5:28 ∉ T):NTV wL w' x sb rb qv :=
 ⟨h.ge,hk.cells _ _ _ _ h.blk h4,h.tsk.keep hk hx h0 h1 h2 h3,h.row.keep hk.keep h5,h.nil⟩
theorem NodeW.outs {wL w w':World} {Bo:Nat} {M:NodeM} {S:NodeR} {ov:Value} {l:List gN} (h:NodeW wL Bo w M S) (hn:NodV wL.heap.size Bo w' M.nb { M.c S with ov:=ov } l) (hk:Kf nT [] w w') (hl:Lo wL.heap.size w w'):NodeW wL Bo w' { M with ov:=ov } { S with out:=l }:=by
 have hx:Ext wL w':=hl.ext h.ext (Nat.le_refl _);refine ⟨hx,hn,h.rts.keep hk.keep aH,h.cac.keep hk bE aH aH aH,h.den.keep hk aH,h.tab.keep hk bE aH aH aH,h.gm,h.map.keep hk bE,fun x e => ?_,h.ne⟩;obtain ⟨rb,qv,a⟩:=h.tsk x e;exact ⟨rb,qv,a.keep hk hx aH aH aH aH aH aH⟩
def pF (S:NodeR):List Int:=match S.nt with
 | none=>[]
 | some x=>[x.n]
theorem pP {wL w:World} {Bo:Nat} {M:NodeM} {S:NodeR} (h:NodeW wL Bo w M S):Calls Tryz.prog 42 #[.pointer (some ⟨M.nb,0,none⟩)] w (pX w fun r w'=>Own w.heap.size 1 3 w' r (aY (pF S))):=by
 have hb:=h.nod.blk;have hp:=aA (cs:=[M.rv, .int .i64 S.bud, .int .i64 S.room, .int .i64 S.most, .int .i64 S.wt, .pointer (some ⟨M.cb,0,none⟩), .pointer (some ⟨M.db,0,none⟩), .pointer (some ⟨M.tb,0,none⟩), .map (some M.mb), .int .i64 (S.sent:Nat),M.ov]) hb;go_enter Tryz.func42,Tryz.ntmps42
 refine_lift mS ?_;intro _ _ _;refine UH (TS M.mb _) fun w1 x1 s1 b1 => ?_;have hK:KeysIn 0 w1 w.heap.size M.mb (pF S):=by
  refine ⟨b1,?_⟩;have hm:=h.map.ext x1;unfold pF;cases hn:S.nt with
  | none=>rw [hn] at hm;exact .inl ⟨rfl,hm⟩
  | some y=>rw [hn] at hm;exact .inr ⟨y.n,_,rfl,hm⟩
 refine uD (NZ w.heap.size M.mb _ _ hK) fun v w2 x2 o2 => ?_;refine_lift aL ?_;go_ret;exact ⟨v,rfl,x1.trans x2,o2.weaken x1.size⟩
variable {cs:Array Value} {held:Bool} {qt:Int} {ps rs:List (List UInt8 × Nat)} {ls:List (List UInt8)} {css css0 es:List (List Value)} {d l m n o qn s t x y z:List UInt8} {B a b base c e fuel i j k p q:Nat} {fz:Nat × Nat} {row:Option Nat} {r u v:Value} {w w' w0 w1 w2:World}
def mO (sent:Nat) (a:ActR):MsgR:={ zeroM with id:=((sent &&& 65535:Nat):Int),qs:=[(a.qn,a.qt)],size:=1232 }
def NTask.send (x:NTask) (sent:Nat) (a:ActR) (late:Int):NTask:={ x with an:=a.qn,at_:=a.qt,to:=a.to,q:=mO sent a,late:=late }
def NodeR.send (S:NodeR) (x:NTask) (a:ActR) (now:Int):NodeR:={ S with nt:=some (x.send S.sent a (now + S.wt)),sent:=S.sent + 1,out:=S.out ++ [(a.to,(aT (mO S.sent a)).1)] }
def Bn (Bo:Nat) (l:List Nat) (w w':World):Prop:=∀ j,j < w.heap.size→j < Bo→j ∉ l→w'.heap[j]? = w.heap[j]?
theorem IQ {wL:World} {Bo:Nat} {M:NodeM} {S:NodeR} (h:NodeW wL Bo w M S) {x:NTask} (hx:S.nt=some x) (a:ActR) (u:Value) (hu:ActV w u a) (hk:a.kind=1) (now:Int) (h0:0≤now) (h1:now≤1099511627776) (h2:0≤S.wt∧S.wt≤2147483647) (h3:S.sent≤1000000) (h4:S.out.length≤100000) :
 Calls Tryz.prog 43 #[.pointer (some ⟨M.nb,0,none⟩), .int .i64 x.n,u, .int .i64 now] w (fun e w'=>e=.returned (.tuple #[])∧∃ ov,NodeW wL Bo w' { M with ov:=ov } (S.send x a now)∧Bn Bo [M.nb,M.sb] w w'∧Lo wL.heap.size w w'):=by
 obtain ⟨v1,v2,rfl,o1,o2⟩:=hu.out;obtain ⟨rb,qv,hN⟩:=h.tsk x hx;have hb:=h.nod.blk;have hp:=aA (cs:=[M.rv, .int .i64 S.bud, .int .i64 S.room, .int .i64 S.most, .int .i64 S.wt, .pointer (some ⟨M.cb,0,none⟩), .pointer (some ⟨M.db,0,none⟩), .pointer (some ⟨M.tb,0,none⟩), .map (some M.mb), .int .i64 (S.sent:Nat),M.ov]) hb;have hmap:=h.map;rw [hx] at hmap;have htm:dZ Tryz.prog 66 3 104=true:=zDk;have hzv:∀ w,(zeroValue 104).run Tryz.prog w=.ok (.pointer none) w:=fun w=>by kernel_rfl
 go_enter Tryz.func43,Tryz.ntmps43
 refine_lift mS ?_;intro _ _ _;refine jS (vs:=cY a v1 v2) fun w1 x1 s1 b1 => ?_;refine aB ?_;have hpa:=aA (cs:=[.int .i64 a.kind, .int .i64 a.to,aE a.qn, .int .i64 a.qt, .int .i64 a.code,v1,v2]) b1;have hp1:=hp.ext x1;have hlk:=eO (i:=0) nV htm hzv (hmap.ext x1) (x:=.int .i64 x.n) (v:=.pointer (some ⟨M.sb,0,none⟩)) ⟨_,rfl⟩ rfl (by simp [OK]) false;refine_lift bK fun _ _ => ?_;refine aG (v:=.pointer (some ⟨M.sb,0,none⟩)) (Runs.lookup rfl rfl hlk) ?_;refine aB ?_;refine_lift FV fun _ _ _ _ _ => ?_;rw [hk];refine_lift aL ?_;have nB:M.nb≠M.sb:=by
  intro e;have h9:=hN.blk;rw [← e,hb] at h9;injection (Option.some.inj h9) with _ e2
  exact absurd e2 aH
 have lN:M.sb < w.heap.size:=(Array.getElem?_eq_some_iff.1 hN.blk).1;have lB:M.nb < w.heap.size:=(Array.getElem?_eq_some_iff.1 hb).1;refine aV 22 (fun w'=>Pts w' (.pointer (some ⟨w.heap.size,0,none⟩)) [.int .i64 a.kind, .int .i64 a.to,aE a.qn, .int .i64 a.qt, .int .i64 a.code,v1,v2]∧Pts w' (.pointer (some ⟨M.nb,0,none⟩)) [M.rv, .int .i64 S.bud, .int .i64 S.room, .int .i64 S.most, .int .i64 S.wt, .pointer (some ⟨M.cb,0,none⟩), .pointer (some ⟨M.db,0,none⟩), .pointer (some ⟨M.tb,0,none⟩), .map (some M.mb), .int .i64 (S.sent:Nat),M.ov]) zDk ?_;intro w2 x2 _;refine ⟨⟨hpa.ext x2,hp1.ext x2⟩,?_⟩;refine eH 0 ?_;refine eH 1 ?_;refine eH 2 ?_;refine eH 3 ?_;refine BG (i:=4) (v:=.agg #[aE a.qn, .int .i64 a.qt]) rfl rfl (fun w' hF=>by
  have hq:Pts w' (aP (.pointer (some ⟨w.heap.size,0,none⟩)) 2) [aE a.qn, .int .i64 a.qt]:=(hF.1.part 2).front 2;clear hF;exact DF) ?_
 refine aB ?_;refine eH 5 ?_;refine BG (i:=6) (v:=.int .i64 a.to) rfl rfl (fun w' hF=>by obtain ⟨hF,_⟩:=hF;exact DF) ?_;refine aB ?_;refine eH 7 ?_;refine eH 8 ?_;refine eH 9 ?_;refine eH 10 ?_;refine eH 11 ?_;refine BG (i:=12) (v:=.int .i64 S.wt) rfl rfl (fun w' hF=>by obtain ⟨_,hF⟩:=hF;exact DF) ?_;refine aB ?_;refine eH 13 ?_;refine eH 14 ?_;refine eH 15 ?_;refine eF 16 ?_;refine xS (n:=1) (vs:=[aE a.qn, .int .i64 a.qt]) (x2.at (x1.at hN.blk)) rfl rfl rfl rfl (by simp [QE]) (zDk:dE Tryz.prog 28 2=true) (by simp [aE,Value.oneCell']) fun w3 p3 => ?_;have b3:w3.heap[M.sb]? = some (.cells (QE { x with an:=a.qn,at_:=a.qt } rb qv).toArray 107 (0,0)):=p3.this;have a3:=(p3.other _ (by omega:w.heap.size≠M.sb)).trans (x2.at b1);have n3:=(p3.other _ nB).trans (x2.at (x1.at hb));refine aD ⟨aZ ⟨aA (cs:=[.int .i64 a.kind, .int .i64 a.to,aE a.qn, .int .i64 a.qt, .int .i64 a.code,v1,v2]) a3,aA (cs:=[M.rv, .int .i64 S.bud, .int .i64 S.room, .int .i64 S.most, .int .i64 S.wt, .pointer (some ⟨M.cb,0,none⟩), .pointer (some ⟨M.db,0,none⟩), .pointer (some ⟨M.tb,0,none⟩), .map (some M.mb), .int .i64 (S.sent:Nat),M.ov]) n3⟩,?_⟩;refine eH 17 ?_;refine FP (i:=18) (v:=aP (.pointer (some ⟨M.sb,0,none⟩)) 5) rfl rfl (fun w'=>by apply Runs.fieldLitK (k:=2);rfl;decide +kernel) ?_;refine aB ?_;refine eF 19 ?_;refine fZ 5 (.int .i64 a.to) b3 rfl fun w4 p4 => ?_;have b4:w4.heap[M.sb]? = some (.cells (QE { x with an:=a.qn,at_:=a.qt,to:=a.to } rb qv).toArray 107 (0,0)):=p4.this;have a4:=(p4.other _ (by omega:w.heap.size≠M.sb)).trans a3;have n4:=(p4.other _ nB).trans n3;refine aD ⟨aZ ⟨aA (cs:=[.int .i64 a.kind, .int .i64 a.to,aE a.qn, .int .i64 a.qt, .int .i64 a.code,v1,v2]) a4,aA (cs:=[M.rv, .int .i64 S.bud, .int .i64 S.room, .int .i64 S.most, .int .i64 S.wt, .pointer (some ⟨M.cb,0,none⟩), .pointer (some ⟨M.db,0,none⟩), .pointer (some ⟨M.tb,0,none⟩), .map (some M.mb), .int .i64 (S.sent:Nat),M.ov]) n4⟩,?_⟩;refine eH 20 ?_;refine FP (i:=21) (v:=aP (.pointer (some ⟨M.sb,0,none⟩)) 19) rfl rfl (fun w'=>by apply Runs.fieldLitK (k:=14);rfl;decide +kernel) ?_;refine aB ?_;refine eF 22 ?_;refine fZ 19 (.int .i64 (now + S.wt)) b4 rfl fun w5 p5 => ?_;have b5:w5.heap[M.sb]? = some (.cells (QE { x with an:=a.qn,at_:=a.qt,to:=a.to,late:=now + S.wt } rb qv).toArray 107 (0,0)):=p5.this;have a5:=(p5.other _ (by omega:w.heap.size≠M.sb)).trans a4;have n5:=(p5.other _ nB).trans n4;refine aD ⟨aQ rfl,?_⟩;refine nX ?_;have hpa5:=aA (cs:=[.int .i64 a.kind, .int .i64 a.to,aE a.qn, .int .i64 a.qt, .int .i64 a.code,v1,v2]) a5;have hp5:=aA (cs:=[M.rv, .int .i64 S.bud, .int .i64 S.room, .int .i64 S.most, .int .i64 S.wt, .pointer (some ⟨M.cb,0,none⟩), .pointer (some ⟨M.db,0,none⟩), .pointer (some ⟨M.tb,0,none⟩), .map (some M.mb), .int .i64 (S.sent:Nat),M.ov]) n5;clear hpa hp1;refine_lift lQ fun _ _ => ?_;have hq5:Pts w5 (aP (.pointer (some ⟨w.heap.size,0,none⟩)) 2) [aE a.qn, .int .i64 a.qt]:=(hpa5.part 2).front 2;clear hpa5;refine aV 12 (Ext w5) zDk ?_;intro w6 x6 _;refine ⟨x6,?_⟩;refine eH 0 ?_;refine eH 1 ?_;refine eH 2 ?_;refine eH 3 ?_;refine bH 4 ?_;refine FP (i:=5) (v:=.int .i64 ((S.sent &&& 65535:Nat):Int)) rfl rfl (fun _=>Runs.andN (m:=S.sent) (n:=65535) rfl rfl aC aH) ?_;refine aB ?_;refine eH 6 ?_;refine bH 7 ?_;refine eF 8 ?_;refine qP (e:=28) (k:=2) (bytes:=24) (xs:=[.agg #[aE a.qn, .int .i64 a.qt]]) (by simp [Value.cells]) fun v7 w7 x7 _ sl7 o7 => ?_;refine aB ?_;obtain ⟨ad7,cap7,rfl⟩:∃ a n,v7=.slice a 1 n:=by
  obtain ⟨a,n,e,_⟩:=sl7;exact ⟨a,n,e⟩
 have x57:=x6.trans x7;refine aD ⟨aZ x57,?_⟩;refine FP (i:=9) (v:=.agg (aX (mO S.sent a) (.slice ad7 1 cap7) cI cI cI).toArray) rfl rfl (fun _=>Runs.build (vals:=[(0, .int .i64 ((S.sent &&& 65535:Nat):Int)),(8, .slice ad7 1 cap7),(12, .int .i64 1232)]) rfl (by kernel_rfl)) ?_;refine aB ?_;refine eH 10 ?_;refine FP (i:=11) (v:=aP (.pointer (some ⟨M.sb,0,none⟩)) 6) rfl rfl (fun w'=>by apply Runs.fieldLitK (k:=2);rfl;decide +kernel) ?_;refine aB ?_;refine eF 12 ?_;refine xS (n:=6) (vs:=aX (mO S.sent a) (.slice ad7 1 cap7) cI cI cI) (x57.at b5) rfl rfl rfl rfl (by simp [QE,aX]) (zDk:dE Tryz.prog 25 13=true) (by simp [aX,aE,Value.oneCell',cI]) fun w8 p8 => ?_;have b8:w8.heap[M.sb]? = some (.cells (QE (x.send S.sent a (now + S.wt)) rb (.slice ad7 1 cap7)).toArray 107 (0,0)):=p8.this;have n8:=(p8.other _ nB).trans (x57.at n5);refine aD ⟨aQ rfl,?_⟩;refine nX ?_;clear hp5;have hp8:=aA (cs:=[M.rv, .int .i64 S.bud, .int .i64 S.room, .int .i64 S.most, .int .i64 S.wt, .pointer (some ⟨M.cb,0,none⟩), .pointer (some ⟨M.db,0,none⟩), .pointer (some ⟨M.tb,0,none⟩), .map (some M.mb), .int .i64 (S.sent:Nat),M.ov]) n8;refine_lift bK fun _ _ => ?_;refine fZ 9 (.int .i64 ((S.sent:Nat) + 1)) n8 rfl fun w9 p9 => ?_;have n9:w9.heap[M.nb]? = some (.cells (NodC.cells { M.c S with sent:=(S.sent:Nat) + 1 }).toArray 71 (0,0)):=p9.this;have b9:=(p9.other _ nB.symm).trans b8;have hq9:Pts w9 (aP (.pointer (some ⟨M.sb,0,none⟩)) 6) (aX (mO S.sent a) (.slice ad7 1 cap7) cI cI cI):=((aA b9).part 6).front 13;have oq9:=(iM (iM o7 p8 (x57.at b5)) p9 n8);have hm9:MsgV w9 (mO S.sent a) (.slice ad7 1 cap7) cI cI cI:=⟨oq9.sl,Sl.nil _ _,Sl.nil _ _,Sl.nil _ _⟩;clear hp8 hq5;unfold aX at hq9;refine_lift bK fun _ _ => ?_;refine aG (v:=aP (.pointer (some ⟨M.sb,0,none⟩)) 6) (by apply Runs.fieldLitK (k:=2);rfl;decide +kernel) ?_;refine aB ?_;refine_lift aL ?_;refine bX (kN hm9) fun w10 x10 => ?_;have a10:=x10.at ((p9.other _ (by omega:w.heap.size≠M.nb)).trans ((p8.other _ (by omega:w.heap.size≠M.sb)).trans (x57.at a5)));have hpa10:=aA (cs:=[.int .i64 a.kind, .int .i64 a.to,aE a.qn, .int .i64 a.qt, .int .i64 a.code,v1,v2]) a10;have bN:=hN.blk;have z1:=x1.size;have z57:=x57.size;have z2:=x2.size;have z3:=p3.size;have z4:=p4.size;have z5:=p5.size;have z8:=p8.size;have z9:=p9.size;have z10:=x10.size;have k1:Kf [107,71] [] w w10:=(Kf.of (x1.trans x2)).trans ((Kf.put p3 (x2.at (x1.at bN)) aH).trans ((Kf.put p4 b3 aH).trans ((Kf.put p5 b4 aH).trans ((Kf.of x57).trans ((Kf.put p8 (x57.at b5) aH).trans ((Kf.put p9 n8 aH).trans (Kf.of x10)))))));have hg:=hN.ge;have hgn:=h.nod.ge;have l1:Lo wL.heap.size w w10:=(Lo.of (x1.trans x2)).trans ((Lo.put p3 hg).trans ((Lo.put p4 hg).trans ((Lo.put p5 hg).trans ((Lo.of x57).trans ((Lo.put p8 hg).trans ((Lo.put p9 hgn).trans (Lo.of x10)))))));have f1:Bn Bo [M.nb,M.sb] w w10:=fun j j1 _ j3=>by
  have e1:j≠M.nb:=fun e=>j3 (by simp [e]);have e2:j≠M.sb:=fun e=>j3 (by simp [e]);rw [x10.block j aC,p9.other j e1,p8.other j e2,x57.block j aC,p5.other j e2,p4.other j e2,p3.other j e2,x2.block j aC,x1.block j j1]
 have hE:Ext wL w10:=l1.ext h.ext (Nat.le_refl _);have hv10:NodV wL.heap.size Bo w10 M.nb { M.c S with sent:=(S.sent:Nat) + 1 } S.out:=⟨h.nod.ge,x10.at n9,h.nod.row.keep k1.keep aH,h.nod.le.1,by have:=h.nod.le;omega⟩;refine_lift bK fun _ _ => ?_;refine fY (OB hv10 a.to (aT (mO S.sent a)).1 h4) ?_;rintro _ w11 ⟨rfl,ov,h11,k11,l11,f11⟩;refine ⟨_,rfl,?_⟩;refine aB ?_;refine_lift aL ?_;refine bodyPost_ret (results_none rfl _ _ _) rfl ?_;have kk:Kf [107,71,50] [] w w11:=(k1.mono bE bE).trans (k11.mono bE bE);have hE11:Ext wL w11:=l11.ext hE (Nat.le_refl _);refine ⟨rfl,ov,⟨hE11,?_,h.rts.keep kk.keep aH,h.cac.keep kk bE aH aH aH,h.den.keep kk aH,h.tab.keep kk bE aH aH aH,h.gm,?_,?_,h.ne⟩,fun j j1 j2 j3 => ?_,l1.trans l11⟩
 ·exact h11
 ·have:=h.map.keep kk bE;rw [hx] at this;exact this
 ·rintro y ⟨⟩;refine ⟨rb,_,hN.ge,k11.cells _ _ _ _ (x10.at b9) aH,hN.tsk.keep kk hE11 aH aH aH aH,?_,rfl,rfl,rfl⟩;have:=(oq9.ext x10).keep k11.keep aH;exact this.weaken (by have:=h.ext.size;omega)
 ·rw [f11 j aC j2 (fun e=>j3 (by simp [e])),f1 j j1 j2 j3]
theorem QF {tb tm:Nat} {last:Int} {x:WaitR} (h:TabAt B w tb tm last (some x)) (qn:List UInt8) (qt:Int) (c:CliR) (h1:(aM qn).isSome=true) (h2:(aM c.name).isSome=true) (hq1:x.qn=fold qn) (hq2:x.qt=qt) (hl:x.l.length < 10) :
 Calls Tryz.prog 61 #[.pointer (some ⟨tb,0,none⟩), .agg #[aE qn, .int .i64 qt], .agg (CJ c).toArray] w (fun e w'=>e=.returned (.tuple #[.int .i64 x.n, .bool false, .int .i64 0])∧TabAt B w' tb tm last (some { x with l:=x.l ++ [c] })∧Kf oT [] w w'∧Lo B w w'):=by
 obtain ⟨xn,xqn,xqt,xl⟩:=x;obtain rfl:xqn=fold qn:=hq1;obtain rfl:xqt=qt:=hq2;dsimp only at hl ⊢;obtain ⟨tbk,hT⟩:=h;obtain ⟨b,rfl⟩:∃ b,tbk=some (⟨xn,fold qn,xqt,xl⟩,b):=by
  cases hh:tbk with
  | none=>have:=hT.eq;rw [hh] at this;cases this
  | some y =>
   have:=hT.eq;rw [hh] at this;obtain ⟨y1,y2⟩:=y;cases this
   exact ⟨y2,rfl⟩
 obtain ⟨v,hW⟩:=hT.task _ b rfl;have hb:=hT.blk;have hp:=aA (cs:=[.int .i64 20, .int .i64 10, .int .i64 last, .map (some tm)]) hb;have htm:dZ Tryz.prog 119 3 200=true:=zDk;go_enter Tryz.func61,Tryz.ntmps61
 refine_lift yQ ?_;intro _ _ _;refine jS (vs:=[aE qn, .int .i64 xqt]) fun w1 x1 s1 b1 => ?_;refine aB ?_;refine jS (vs:=[.int .i64 c.node, .int .i64 c.id,aE c.name]) fun w2 x2 s2 b2 => ?_;refine aB ?_;have b12:=x2.at b1;have hpQ:=aA (cs:=[aE qn, .int .i64 xqt]) b12;have hpC:=aA (cs:=[.int .i64 c.node, .int .i64 c.id,aE c.name]) b2;have hp2:=hp.ext (x1.trans x2);refine_lift jH fun _ _ _ _ => ?_;refine bX (OW qn _) fun w3 x3 => ?_;rw [if_pos h1];have hpQ3:=hpQ.ext x3;have hpC3:=hpC.ext x3;refine_lift aL ?_;refine bX (OW c.name _) fun w4 x4 => ?_;rw [if_pos h2];have hpQ4:=hpQ3.ext x4;have hpC4:=hpC3.ext x4;refine_lift bK fun _ _ => ?_;refine bX (zS qn _) fun w5 x5 => ?_;have hx25:=(x3.trans x4).trans x5;refine_lift aL ?_;have z1:=x1.size;have z2:=x2.size;have z3:=hx25.size;have lb:tb < w.heap.size:=(Array.getElem?_eq_some_iff.1 hb).1;have lw:b < w.heap.size:=(Array.getElem?_eq_some_iff.1 hW.blk).1;have lm:tm < w.heap.size:=hT.map.lt;refine fZ 0 (aE (fold qn)) (hx25.at b12) rfl fun w6 p6 => ?_;have z4:=p6.size;have hx5:=(x1.trans x2).trans hx25;have bT6:=p6.mv.at (hx5.at hb) (by intro e;have:=Option.some.inj e;omega);have bW6:=p6.mv.at (hx5.at hW.blk) (by intro e;have:=Option.some.inj e;omega);have bC6:=p6.mv.at (hx25.at b2) (by intro e;have:=Option.some.inj e;omega);have o6:=iM (hW.row.ext hx5) p6 (hx25.at b12);have m6:=(hT.map.ext hx5).mvc p6 (hx25.at b12);have hp6:=aA (cs:=[.int .i64 20, .int .i64 10, .int .i64 last, .map (some tm)]) bT6;clear hp2 hp hpQ hpQ3 hpQ4 hpC hpC3 hpC4;refine_lift jH fun _ _ _ _ => ?_;refine nP rfl m6 (fun w7 x7 s7 i7 => ?_) (ht:=htm);refine aB ?_;refine_lift aL ?_;refine wp_loop_once ?_;refine_lift yQ ?_;intro _ _ _;refine AN rfl i7 aC (fun w8 o8 p8 i8 => ?_);refine aB ?_;refine_lift mS fun _ _ _ => ?_;refine aG (Runs.entry1 rfl i8) ?_;refine aB ?_;refine_lift bK fun _ _ => ?_;have z5:=x7.size;have z6:=p8.size;have bT8:=p8.mv.at (x7.at bT6) (by intro e;have:=Option.some.inj e;omega);have bW8:=p8.mv.at (x7.at bW6) (by intro e;have:=Option.some.inj e;omega);have bC8:=p8.mv.at (x7.at bC6) (by intro e;have:=Option.some.inj e;omega);have bQ8:=p8.mv.at (x7.at p6.this) (by intro e;have:=Option.some.inj e;omega);have ow8:=(o6.ext x7).mv p8.mv (GT o6 _ (Nat.le_refl _));have sl8:=ow8.sl;have hT8:=aA (cs:=[.int .i64 20, .int .i64 10, .int .i64 last, .map (some tm)]) bT8;have hW8:=aA (cs:=[aE (fold qn), .int .i64 xqt,v]) bW8;have hW8a:Pts w8 (aP (.pointer (some ⟨b,0,none⟩)) 0) [aE (fold qn), .int .i64 xqt]:=(hW8.part 0).front 2;have hW8b:Pts w8 (aP (.pointer (some ⟨b,0,none⟩)) 2) [v]:=hW8.part 2;have hQ8:=aA (cs:=[aE (fold qn), .int .i64 xqt]) bQ8;have hC8:=aA (cs:=[.int .i64 c.node, .int .i64 c.id,aE c.name]) bC8;clear hp6;refine eB zDk zDk ?_;refine_lift vF ?_;refine fH (v:=.bool (!decide (((fold qn,xqt):gE)=(fold qn,xqt)))) (fun w' x'=>Runs.neqQst rfl rfl) ?_;rw [decide_eq_true rfl];refine aB ?_;refine_lift vF ?_;intro w9 x9;refine_lift bK fun _ _ => ?_;clear hW8a hW8b hQ8;have hW9:=hW8.ext x9;have hT9:=hT8.ext x9;have hC9:=hC8.ext x9;have sl9:=sl8.ext x9;refine eB zDk zDk ?_;refine_lift vF ?_;intro w10 x10;rw [show (jN xl).length=xl.length from List.length_map ..];rw [decide_eq_false (show ¬ (10:Int)≤(xl.length:Nat) by omega)];have hW10:=hW9.ext x10;have hC10:=hC9.ext x10;have x810:=x9.trans x10;have ow10:=ow8.ext x810;clear hT9 hT8 hW8 hC8 hW9 hC9 sl8 sl9;refine_lift bK fun _ _ => ?_;refine aV 7 (Ext w10) zDk ?_;intro w11 x11 _;refine ⟨x11,?_⟩;refine eH 0 ?_;refine eH 1 ?_;refine eH 2 ?_;refine eH 3 ?_;refine bH 4 ?_;refine bH 5 ?_;refine eF 6 ?_;refine qP (e:=142) (k:=3) (bytes:=32) (xs:=[.agg #[.int .i64 c.node, .int .i64 c.id,aE c.name]]) (by simp [Value.cells]) fun v12 w12 x12 s12 sl12 o12 => ?_;refine aB ?_;have x1012:=x11.trans x12;refine aD ⟨aZ x1012,?_⟩;refine eF 7 ?_;have hge:=hT.ge;have z7:=x810.size;have z8:=x1012.size;refine dA (e:=142) (k:=3) rfl (ow10.ext x1012) rfl sl12 (by simp [Value.cells,aE,Value.oneCell']) aC (by simp [jN];omega) ?_;intro v13 w13 o13 m13 hk13;refine aB ?_;refine aD ⟨aQ rfl,?_⟩;refine eH 8 ?_;refine eH 9 ?_;refine eF 10 ?_;have bW13:=m13.at (x1012.at (x810.at bW8)) (fun e=>(ow10.ext x1012).neBlock (x1012.at (x810.at bW8)) aH e.symm);refine fZ 2 v13 bW13 o13.one fun w14 p14 => ?_;refine aD ⟨aQ rfl,?_⟩;refine nX ?_;refine_lift aL ?_;have m13':Mv v.ownBlock w12 w13:=m13;have all14:∀ j,j < w.heap.size→j≠b→v.ownBlock≠some j→w14.heap[j]? = w.heap[j]? := fun j g1 g2 g3=>by
  rw [p14.other j g2,m13'.block j aC (fun e=>g3 e.symm),(x810.trans x1012).block j aC,p8.other j aC,x7.block j aC,p6.other j aC,hx5.block j g1]
 have hnv:∀ (j:Nat) (cs:Array Value) (t:TypeId) (fz:Nat × Nat),w.heap[j]? = some (.cells cs t fz)→t≠142→v.ownBlock≠some j:=fun j cs t fz hj ht=>hW.row.neBlock hj ht;have hnm:∀ (j:Nat) (es:Array MapEntry) (k:Nat),w.heap[j]? = some (.map es k)→v.ownBlock≠some j:=fun j es k hj e=>by
  obtain ⟨cur,fz,hq⟩:=hW.row.type e;rw [hq] at hj;cases hj
 refine bodyPost_ret (results_tmp3 rfl _ _ _) rfl ⟨rfl,⟨some (⟨xn,fold qn,xqt,xl ++ [c]⟩,b),hT.ge,rfl,?_,?_,?_⟩,?_,(Lo.of hx5).trans ((Lo.put p6 aC).trans ((Lo.of x7).trans ((Lo.put p8 aC).trans ((Lo.of (x810.trans x1012)).trans ((Lo.mv m13' (fun k hk=>(ow8.block k hk).1)).trans (Lo.put p14 hW.ge))))))⟩
 ·rw [all14 tb lb (kE hb hW.blk aH) (hnv _ _ _ _ hb aH)];exact hb
 ·exact hT.map.at fun es k hm=>by
   rw [all14 tm lm (hT.map.neCells hW.blk) (hnm _ _ _ hm)];exact hm
 ·rintro y b' hyb;cases hyb
  refine ⟨v13,hW.ge,p14.this,?_⟩;have e1:jN (xl ++ [c])=jN xl ++ [[.int .i64 c.node, .int .i64 c.id,aE c.name]]:=by simp [jN,CJ]
  show Own B 3 _ w14 v13 (jN (xl ++ [c]));rw [e1];exact iM o13 p14 bW13
 ·refine ⟨fun j cs t fz hj ht => ?_,fun j es k hj _ => ?_⟩
  ·rw [all14 j (Array.getElem?_eq_some_iff.1 hj).1 (by rintro rfl;rw [hW.blk] at hj;cases hj;exact ht aH) (hnv _ _ _ _ hj (by rintro rfl;exact ht aH))];exact hj
  ·rw [all14 j (Array.getElem?_eq_some_iff.1 hj).1 (by rintro rfl;rw [hW.blk] at hj;cases hj) (hnm _ _ _ hj)];exact hj
theorem QH {tb tm:Nat} {last:Int} {x:WaitR} (h:TabAt B w tb tm last (some x)) :
 Calls Tryz.prog 70 #[.pointer (some ⟨tb,0,none⟩), .int .i64 x.n] w (fun e w'=>∃ v,e=.returned (.tuple #[v, .bool true])∧Own B 3 142 w' v (jN x.l)∧TabAt B w' tb tm last none∧Kf [] [tm] w w'∧Lo B w w'):=by
 obtain ⟨tbk,hT⟩:=h;obtain ⟨b,rfl⟩:∃ b,tbk=some (x,b):=by
  cases hh:tbk with
  | none=>have:=hT.eq;rw [hh] at this;cases this
  | some y =>
   have:=hT.eq;rw [hh] at this;obtain ⟨y1,y2⟩:=y;cases this
   exact ⟨y2,rfl⟩
 obtain ⟨v,hW⟩:=hT.task _ b rfl;have hb:=hT.blk;have hp:=aA (cs:=[.int .i64 20, .int .i64 10, .int .i64 last, .map (some tm)]) hb;have hpW:=aA (cs:=[aE x.qn, .int .i64 x.qt,v]) hW.blk;have htm:dZ Tryz.prog 119 3 200=true:=zDk;have hzv:∀ w,(zeroValue 200).run Tryz.prog w=.ok (.pointer none) w:=fun w=>by kernel_rfl
 have hlk:=eO (i:=0) nV htm hzv hT.map (x:=.int .i64 x.n) (v:=.pointer (some ⟨b,0,none⟩)) ⟨_,rfl⟩ rfl (by simp [yK]) false;go_enter Tryz.func70,Tryz.ntmps70
 refine_lift FV ?_;intro _ _ _ _ _;refine dD (v:=.pointer (some ⟨b,0,none⟩)) rfl (Runs.lookup rfl rfl hlk) ?_;refine aB ?_;refine_lift bK fun _ _ => ?_;refine aG (v:=.pointer (some ⟨b,0,none⟩)) (Runs.lookup rfl rfl hlk) ?_;refine aB ?_;refine_lift bK fun _ _ => ?_;refine oY nV rfl rfl ⟨_,rfl⟩ hT.map (fun w1 o1 p1 hd => ?_) (ht:=htm);refine_lift aL ?_;go_ret2;have hd':(∃ i u,(yK (some (x,b)))[i]? = some (.int .i64 x.n,u)∧MapS FE w1 tm ((yK (some (x,b))).eraseIdx i))∨((∀ e ∈ yK (some (x,b)),e.1≠.int .i64 x.n)∧MapS FE w1 tm (yK (some (x,b)))):=hd;have hm:MapS FE w1 tm []:=by
  rcases hd' with ⟨i,u,hi,hm⟩ | ⟨hn,_⟩
  ·match i,hi,hm with
   | 0,_,hm=>exact hm
  ·exact absurd rfl (hn _ (List.mem_singleton.2 rfl))
 have hc:∀ (j:Nat) (cs:Array Value) (t:TypeId) (fz:Nat × Nat),w.heap[j]? = some (.cells cs t fz)→w1.heap[j]? = some (.cells cs t fz):=fun j cs t fz hj=>p1.mv.at hj (by intro e;exact hT.map.neCells hj (Option.some.inj e).symm);refine ⟨v,rfl,hW.row.same fun r hr => ?_,⟨none,hT.ge,rfl,hc _ _ _ _ hb,hm,bE⟩,Kf.putMap p1 hT.map bE,Lo.put p1 hT.ge.2⟩;obtain ⟨cur,fz,hq⟩:=hW.row.type hr;rw [hq,hc _ _ _ _ hq]
def qF (x:NTask) (a:ActR) (l:List CliR):List gN:=l.flatMap fun c=>gT c x.ft a.code a.ans a.auth
def NodeR.done (S:NodeR) (x:NTask) (y:WaitR) (a:ActR):NodeR:={ S with nt:=none,tt:=none,out:=S.out ++ qF x a y.l }
abbrev kT:List TypeId:=[71,107,164,61,121,202,142,115,190,110,137]
def Ko (Bo:Nat) (w w':World):Prop:=∀ j cs t fz,j < Bo→t ∉ kT→w.heap[j]? = some (.cells cs t fz)→w'.heap[j]? = some (.cells cs t fz)
theorem Ko.of {Bo:Nat} (h:Ext w w'):Ko Bo w w':=fun _ _ _ _ _ _ a=>h.at a
theorem Ko.trans {Bo:Nat} {a b c:World} (h:Ko Bo a b) (k:Ko Bo b c):Ko Bo a c:=fun j cs t fz h1 h2 h3=>k j cs t fz h1 h2 (h j cs t fz h1 h2 h3)
theorem Ko.kf {Bo:Nat} {T:List TypeId} {N:List Nat} (h:Kf T N w w') (ht:∀ t ∈ T,t ∈ kT):Ko Bo w w':=fun _ _ _ _ _ a b=>h.cells _ _ _ _ b (fun e=>a (ht _ e))
theorem Ko.bn {Bo:Nat} {l:List Nat} (h:Bn Bo l w w') (hl:∀ j ∈ l,∀ cs t fz,w.heap[j]? = some (.cells cs t fz)→t ∈ kT):Ko Bo w w':=fun j cs t fz h1 h2 h3=>by
 rw [h j (Array.getElem?_eq_some_iff.1 h3).1 h1 (fun e=>h2 (hl j e cs t fz h3))];exact h3
theorem Ko.bf {Bo nb:Nat} (hb:w.heap[nb]? = some (.cells cs 71 fz)) (f:Bf Bo nb w w'):Ko Bo w w':=fun j cs' t fz' h1 h2 h3=>by
 rw [f j (Array.getElem?_eq_some_iff.1 h3).1 h1 (by
  rintro rfl;rw [hb] at h3;injection (Option.some.inj h3) with _ e2
  exact h2 (by rw [← e2];decide))]
 exact h3
theorem HB (c:CliR) (k d:Int) (p q:List Rec):(gT c k d p q).length≤1:=by
 unfold gT;split <;> simp
theorem AY (x:NTask) (a:ActR):∀ l:List CliR,(qF x a l).length≤l.length
 | []=>Nat.le_refl _
 | c :: l=>by
   have h1:=AY x a l;have h2:=HB c x.ft a.code a.ans a.auth;simp [qF] at h1 ⊢;omega
theorem IR {wL:World} {Bo:Nat} {M:NodeM} {S:NodeR} (h:NodeW wL Bo w M S) {x:NTask} (hx:S.nt=some x) {y:WaitR} (hy:S.tt=some y) (hn:y.n=x.n) (a:ActR) (u:Value) (hu:ActV w u a) (hk:a.kind=2) (ha:a.auth=[]) (now:Int) (hl:y.l.length≤10) (h4:S.out.length≤90000) :
 Calls Tryz.prog 43 #[.pointer (some ⟨M.nb,0,none⟩), .int .i64 x.n,u, .int .i64 now] w (fun e w'=>e=.returned (.tuple #[])∧∃ ov,NodeW wL Bo w' { M with ov:=ov } (S.done x y a)∧Ko Bo w w'∧Lo wL.heap.size w w'):=by
 obtain ⟨v1,v2,rfl,o1,o2⟩:=hu.out;obtain ⟨rb,qv,hN⟩:=h.tsk x hx;have hb:=h.nod.blk;have hp:=aA (cs:=[M.rv, .int .i64 S.bud, .int .i64 S.room, .int .i64 S.most, .int .i64 S.wt, .pointer (some ⟨M.cb,0,none⟩), .pointer (some ⟨M.db,0,none⟩), .pointer (some ⟨M.tb,0,none⟩), .map (some M.mb), .int .i64 (S.sent:Nat),M.ov]) hb;have hmap:=h.map;rw [hx] at hmap;have htm:dZ Tryz.prog 66 3 104=true:=zDk;have hzv:∀ w,(zeroValue 104).run Tryz.prog w=.ok (.pointer none) w:=fun w=>by kernel_rfl
 go_enter Tryz.func43,Tryz.ntmps43
 refine_lift mS ?_;intro _ _ _;refine jS (vs:=cY a v1 v2) fun w1 x1 s1 b1 => ?_;refine aB ?_;have hpa:=aA (cs:=[.int .i64 a.kind, .int .i64 a.to,aE a.qn, .int .i64 a.qt, .int .i64 a.code,v1,v2]) b1;have hp1:=hp.ext x1;have m1:=hmap.ext x1;have hlk:=eO (i:=0) nV htm hzv m1 (x:=.int .i64 x.n) (v:=.pointer (some ⟨M.sb,0,none⟩)) ⟨_,rfl⟩ rfl (by simp [OK]) false;refine_lift bK fun _ _ => ?_;refine aG (v:=.pointer (some ⟨M.sb,0,none⟩)) (Runs.lookup rfl rfl hlk) ?_;refine aB ?_;refine_lift mS fun _ _ _ => ?_;refine oY nV rfl rfl ⟨_,rfl⟩ m1 (fun w2 d2 p2 hd => ?_) (ht:=htm);have hd':(∃ i u,(OK (some x) M.sb)[i]? = some (.int .i64 x.n,u)∧MapS FE w2 M.mb ((OK (some x) M.sb).eraseIdx i))∨((∀ e ∈ OK (some x) M.sb,e.1≠.int .i64 x.n)∧MapS FE w2 M.mb (OK (some x) M.sb)):=hd;have hm2:MapS FE w2 M.mb []:=by
  rcases hd' with ⟨i,u,hi,hm⟩ | ⟨hn,_⟩
  ·match i,hi,hm with
   | 0,_,hm=>exact hm
  ·exact absurd rfl (hn _ (List.mem_singleton.2 rfl))
 have k2:Kf [] [M.mb,M.tm] w w2:=(Kf.of x1).trans (Kf.putMap p2 m1 bE);have b2:=k2.cells _ _ _ _ hb bE;have hp2:=aA (cs:=[M.rv, .int .i64 S.bud, .int .i64 S.room, .int .i64 S.most, .int .i64 S.wt, .pointer (some ⟨M.cb,0,none⟩), .pointer (some ⟨M.db,0,none⟩), .pointer (some ⟨M.tb,0,none⟩), .map (some M.mb), .int .i64 (S.sent:Nat),M.ov]) b2;clear hp hp1 hpa;have t2:TabAt wL.heap.size w2 M.tb M.tm S.last (some y):=by
  have:=(h.tab.ext x1).keep (Kf.putMap (T:=[]) (M:=[M.mb]) p2 m1 bE) (by simp [h.ne.2.2]) aH aH aH;rw [hy] at this;exact this
 have hD:=QH t2;rw [hn] at hD;refine_lift bK fun _ _ => ?_;refine fY hD ?_;rintro _ w3 ⟨v3,rfl,r3,t3,k3,l3⟩;refine ⟨_,rfl,?_⟩;refine aB ?_;refine_lift jH fun _ _ _ _ => ?_;have hcl:(jN y.l).length=y.l.length:=List.length_map ..;have sl3:=r3.sl;have k03:Kf [] [M.mb,M.tm] w w3:=k2.trans (k3.mono bE bE);have l03:Lo wL.heap.size w w3:=(Lo.of x1).trans ((Lo.put p2 h.gm).trans l3);have z03:=l03.size;have b3:=k03.cells _ _ _ _ hb bE;have s3:=k03.cells _ _ _ _ hN.blk bE;have hv3:NodV wL.heap.size Bo w3 M.nb (M.c S) S.out:=⟨h.nod.ge,b3,h.nod.row.keep k03.keep bE,h.nod.le.1,by have:=h.nod.le;omega⟩;have oa3:Own 0 4 61 w3 v1 (aF a.ans):=o1.keep k03.keep bE;have ou3:Own 0 4 61 w3 v2 (aF a.auth):=o2.keep k03.keep bE;have a3:w3.heap[w.heap.size]? = some (.cells (cY a v1 v2).toArray 110 (0,0)):=(k3.cells _ _ _ _ ((Kf.putMap (T:=[]) (M:=[M.mb]) p2 m1 bE).cells _ _ _ _ b1 bE) bE);refine_lift aL ?_;clear hp2;go_loopw [14,95] (fun _ iv wr=>∃ (k:Nat) (ov:Value),k≤y.l.length∧iv=.int .i64 k∧NodV wL.heap.size Bo wr M.nb { M.c S with ov:=ov } (S.out ++ qF x a (y.l.take k))∧Kf nT [] w3 wr∧Lo wL.heap.size w3 wr∧Bf Bo M.nb w3 wr) (fun _ iv _=>y.l.length - (intOf iv).toNat)
 case atStart=>exact ⟨0,M.ov,Nat.zero_le _,rfl,by rw [show S.out ++ qF x a (y.l.take 0)=S.out by simp [qF]];exact hv3,Kf.of (Ext.refl _),Lo.of (Ext.refl _),Bf.of (Ext.refl _)⟩
 case round =>
  obtain ⟨k,ov,hkl,rfl,hv,hK,hL,hF⟩:=hrel;have slr:Sl 3 wr v3 (jN y.l):=(r3.keep hK.keep aH).sl;have ar:=hK.cells _ _ _ _ a3 aH;have sr:=hK.cells _ _ _ _ s3 aH;have oar:=oa3.keep hK.keep aH;have our:=ou3.keep hK.keep aH;have zr:=hL.size;by_cases hlt:k < y.l.length
  ·have hel:=slr.elem (show (jN y.l)[k]? = some (CJ y.l[k]) by simp [jN,hlt]);have hT:qF x a (y.l.take (k + 1))=qF x a (y.l.take k) ++ gT y.l[k] x.ft a.code a.ans a.auth:=by
    unfold qF;rw [List.take_succ_eq_append_getElem hlt,List.flatMap_append];simp only [List.flatMap_cons,List.flatMap_nil,List.append_nil]
   have hTl:=AY x a (y.l.take k);rw [List.length_take] at hTl;generalize y.l[k]=c at *;unfold CJ at hel;clear sl3;refine_lift rR ?_;intro _ _ _ _ _ _;refine eX (z:=[.int .i64 0, .int .i64 0,aE []]) fun w4 x4 s4 b4 => ?_;refine aB ?_;refine fG (v:=.agg #[.int .i64 c.node, .int .i64 c.id,aE c.name]) b4 (by simp [Value.cells,aE,Value.oneCell']) fun w5 p5 => ?_;have x5:=eC x4 p5;have hpc:=aA (cs:=[.int .i64 c.node, .int .i64 c.id,aE c.name]) p5.this;have hpa5:=aA (cs:=[.int .i64 a.kind, .int .i64 a.to,aE a.qn, .int .i64 a.qt, .int .i64 a.code,v1,v2]) (x5.at ar);have hq5:Pts w5 (aP (.pointer (some ⟨M.sb,0,none⟩)) 3) [aE x.fn, .int .i64 x.ft]:=((aA (x5.at sr)).part 3).front 2;clear hel;refine_lift SI ?_;refine aV 13 (Ext w5) zDk ?_;intro w6 x6 _;refine ⟨x6,?_⟩;refine bH 0 ?_;refine bH 1 ?_;refine bH 2 ?_;refine bH 3 ?_;refine bH 4 ?_;refine bH 5 ?_;refine bH 6 ?_;refine bH 7 ?_;refine bH 8 ?_;refine bH 9 ?_;refine bH 10 ?_;refine bH 11 ?_;refine bH 12 ?_;refine eF 13 ?_;refine fY (CL (hv.ext (x5.trans x6)) c x.ft a.code v1 v2 a.ans a.auth (oar.ext (x5.trans x6)).sl (our.ext (x5.trans x6)).sl (by rw [List.length_append];omega)) ?_;rintro _ w7 ⟨rfl,ov7,h7,k7,l7,f7⟩;refine ⟨_,rfl,?_⟩;refine aB ?_;refine aD ⟨aQ rfl,?_⟩;refine nX ?_;refine_lift aL ?_;refine ⟨⟨k + 1,ov7,aC,by go_num,?_,hK.trans ((Kf.of (x5.trans x6)).trans k7),hL.trans ((Lo.of (x5.trans x6)).trans l7),hF.trans zr ((Bf.of (x5.trans x6)).trans (x5.trans x6).size f7)⟩,by simp [intOf];omega⟩;rw [hT,← List.append_assoc];exact h7
  ·have hkq:k=y.l.length:=aC;subst hkq;rw [List.take_length] at hv;have hpa9:=aA (cs:=[.int .i64 a.kind, .int .i64 a.to,aE a.qn, .int .i64 a.qt, .int .i64 a.code,v1,v2]) ar;have ur:=our.sl;rw [ha] at ur;have ul:(aF ([]:List Rec)).length=0:=rfl;refine_lift lS fun _ => ?_;go_loopw [16,17,117] (fun _ _ iv w9=>iv=.int .i64 0∧w9=wr) (fun _ _ _ _=>0)
   case atStart=>exact ⟨rfl,rfl⟩
   case round =>
    obtain ⟨rfl,rfl⟩:=hrel;refine_lift lS fun _ => ?_
    go_end0
    have kk:Kf nT [M.mb,M.tm] w wr:=(k03.mono bE bE).trans (hK.mono bE bE);have hE9:Ext wL wr:=(l03.trans hL).ext h.ext (Nat.le_refl _);have t9:=t3.keep hK bE aH aH aH;refine ⟨rfl,ov,⟨hE9,hv,h.rts.keep kk.keep aH,h.cac.keep kk (by simp [h.ne.1,h.ne.2.1]) aH aH aH,h.den.keep kk aH,t9,h.gm,?_,?_,h.ne⟩,(Ko.kf k03 bE).trans (Ko.bf b3 hF),l03.trans hL⟩
    ·exact (hm2.keep k3 (by simp [h.ne.2.2.symm])).keep hK bE
    ·rintro z ⟨⟩
theorem OC {wL:World} {Bo:Nat} {M:NodeM} {S:NodeR} (h:NodeW wL Bo w M S) (c:CliR) (qn:List UInt8) (hn:qn.length≤100000) (qt now:Int) (h0:0≤now) (h1:now≤1099511627776) (hk:-9223372036854775808≤qt∧qt≤9223372036854775807) (hfi:S.C.l.findIdx? (mM (fold qn) qt)=none) :
 Calls Tryz.prog 60 #[.pointer (some ⟨M.nb,0,none⟩), .agg #[.int .i64 c.node, .int .i64 c.id,aE c.name], .agg #[aE qn, .int .i64 qt], .int .i64 now] w (bG w (.bool false)):=by
 have hb:=h.nod.blk;have hp:=aA (cs:=[M.rv, .int .i64 S.bud, .int .i64 S.room, .int .i64 S.most, .int .i64 S.wt, .pointer (some ⟨M.cb,0,none⟩), .pointer (some ⟨M.db,0,none⟩), .pointer (some ⟨M.tb,0,none⟩), .map (some M.mb), .int .i64 (S.sent:Nat),M.ov]) hb;go_enter Tryz.func60,Tryz.ntmps60
 refine_lift lQ fun _ _ => ?_;refine jS (vs:=[.int .i64 c.node, .int .i64 c.id,aE c.name]) fun w1 x1 s1 b1 => ?_;refine aB ?_;refine jS (vs:=[aE qn, .int .i64 qt]) fun w2 x2 s2 b2 => ?_;refine aB ?_;have hpq:=aA (cs:=[aE qn, .int .i64 qt]) b2;have x02:=x1.trans x2;have hp2:=hp.ext x02;clear hp;refine_lift jH fun _ _ _ _ => ?_;refine cZ (S:=fun w'=>Ext w2 w') zDk ?_;intro w3 x3 hh3;refine dI 0 ?_;refine aB ?_;refine dI 1 ?_;refine aB ?_;refine dI 2 ?_;refine aB ?_;refine dI 3 ?_;refine aB ?_;refine dI 4 ?_;refine aB ?_;refine dI 5 ?_;refine aB ?_;have y3:=x3.size;apply HP (F:=fun (b:Nat) w'=>Ext w2 w'∧w2.heap.size≤b∧w'.heap[b]? = some (.cells tE.toArray 61 (0,0)))
 ·intro hG;refine rM (i:=6) (j:=11) zDk rfl rfl rfl ?_ ?_
  ·refine uC (CK (h.grow (x02.trans x3)).den qn qt now h0 h1) fun w4 x4 => ?_;refine aB ?_;have x24:=x3.trans x4;have y4:=x24.size;refine aD ⟨x24,?_⟩;refine dI 7 ?_;refine aB ?_;refine dI 8 ?_;refine aB ?_;refine dI 9 ?_;refine aB ?_;refine dI 10 ?_;refine aB ?_;refine bW (i:=11) zDk rfl rfl ?_;refine eX (z:=tE) fun w5 x5 s5 b5 => ?_;refine aB ?_;refine aD ⟨x24.trans x5,?_⟩;generalize w4.heap.size=b at *;exact hG b w5 ⟨x24.trans x5,y4,b5⟩
  ·refine eX (z:=tE) fun w4 x4 s4 b4 => ?_;refine aB ?_;have x24:=x3.trans x4;refine aD ⟨x24,?_⟩;refine bW (i:=6) zDk rfl rfl ?_;refine uC (CK (h.grow (x02.trans x24)).den qn qt now h0 h1) fun w5 x5 => ?_;refine aB ?_;refine aD ⟨x24.trans x5,?_⟩;refine dI 7 ?_;refine aB ?_;refine dI 8 ?_;refine aB ?_;refine dI 9 ?_;refine aB ?_;refine dI 10 ?_;refine aB ?_;have b5:=x5.at b4;generalize w3.heap.size=b at *;exact hG b w5 ⟨x24.trans x5,y3,b5⟩
 clear hh3;rintro b3 w6 ⟨x6,g6,c6⟩;refine dI 12 ?_;refine aB ?_;refine bW (i:=13) zDk rfl rfl ?_;refine fG (v:=.agg tE.toArray) c6 zDk fun w7 p7 => ?_;have x27:=eC x6 p7;refine aD ⟨x27,?_⟩;refine dI 14 ?_;refine aB ?_;refine cJ zDk ?_;have hpq7:=hpq.ext x27;have hp7:=hp2.ext x27;have x07:=x02.trans x27;clear hpq hp2 c6 p7 x6 x3 g6 y3;refine_lift mS fun _ _ _ => ?_;refine cZ (S:=fun w'=>Ext w7 w') zDk ?_;intro w3 x3 hh3;refine dI 0 ?_;refine aB ?_;refine dI 1 ?_;refine aB ?_;refine dI 2 ?_;refine aB ?_;refine dI 3 ?_;refine aB ?_;refine dI 4 ?_;refine aB ?_;refine dI 5 ?_;refine aB ?_;refine dI 6 ?_;refine aB ?_;refine dI 7 ?_;refine aB ?_;refine dI 8 ?_;refine aB ?_;have y3:=x3.size;apply HP (F:=fun (b:Nat) w'=>Ext w7 w'∧w7.heap.size≤b∧w'.heap[b]? = some (.cells oR.toArray 137 (0,0)))
 ·intro hG;refine rM (i:=9) (j:=14) zDk rfl rfl rfl ?_ ?_
  ·refine uC (IN (h.grow (x07.trans x3)).cac qn hn qt now h0 h1 hk hfi) fun w4 x4 => ?_;refine aB ?_;have x24:=x3.trans x4;have y4:=x24.size;refine aD ⟨x24,?_⟩;refine dI 10 ?_;refine aB ?_;refine dI 11 ?_;refine aB ?_;refine dI 12 ?_;refine aB ?_;refine dI 13 ?_;refine aB ?_;refine bW (i:=14) zDk rfl rfl ?_;refine eX (z:=oR) fun w5 x5 s5 b5 => ?_;refine aB ?_;refine aD ⟨x24.trans x5,?_⟩;generalize w4.heap.size=b at *;exact hG b w5 ⟨x24.trans x5,y4,b5⟩
  ·refine eX (z:=oR) fun w4 x4 s4 b4 => ?_;refine aB ?_;have x24:=x3.trans x4;refine aD ⟨x24,?_⟩;refine bW (i:=9) zDk rfl rfl ?_;refine uC (IN (h.grow (x07.trans x24)).cac qn hn qt now h0 h1 hk hfi) fun w5 x5 => ?_;refine aB ?_;refine aD ⟨x24.trans x5,?_⟩;refine dI 10 ?_;refine aB ?_;refine dI 11 ?_;refine aB ?_;refine dI 12 ?_;refine aB ?_;refine dI 13 ?_;refine aB ?_;have b5:=x5.at b4;generalize w3.heap.size=b at *;exact hG b w5 ⟨x24.trans x5,y3,b5⟩
 clear hh3;rintro b4 w8 ⟨x8,g8,c8⟩;refine bW (i:=15) zDk rfl rfl ?_;refine fG (v:=.agg oR.toArray) c8 zDk fun w9 p9 => ?_;have x79:=eC x8 p9;refine aD ⟨x79,?_⟩;refine dI 16 ?_;refine aB ?_;refine dI 17 ?_;refine aB ?_;refine cJ zDk ?_;refine_lift aL ?_;go_ret;exact ⟨rfl,x07.trans x79⟩
end Go.Proofs.X
