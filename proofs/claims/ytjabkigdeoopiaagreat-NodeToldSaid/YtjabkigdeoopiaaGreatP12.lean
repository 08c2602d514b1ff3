/- Laws and walks that the proof of the statement is made of (part 12). -/
import Derived.Test.YtjabkigdeoopiaaGreatP11
set_option linter.unusedSimpArgs false
set_option linter.unusedVariables false
set_option maxRecDepth 100000
set_option maxHeartbeats 20000000
namespace Go.Proofs.X
open Go.RowKit
variable {cs:Array Value} {held:Bool} {qt:Int} {ps rs:List (List UInt8 × Nat)} {ls:List (List UInt8)} {css css0 es:List (List Value)} {d l m n o qn s t x y z:List UInt8} {B a b base c e fuel i j k p q:Nat} {fz:Nat × Nat} {row:Option Nat} {r u v:Value} {w w' w0 w1 w2:World}
theorem OD {wL:World} {Bo:Nat} {M:NodeM} {S:NodeR} (h:NodeW wL Bo w M S) (c:CliR) (qn:List UInt8) (hn:qn.length≤100000) (qt now:Int) (h0:0≤now) (h1:now≤1099511627776) (hk:-9223372036854775808≤qt∧qt≤9223372036854775807) (hc:0≤S.C.calls∧S.C.calls≤1000000000) {x:EntR} (hfi:S.C.l.findIdx? (mM (fold qn) qt)=some i) (hix:S.C.l[i]? = some x) (hnx:now < x.till) (hxt:x.till≤1000000000000000000) (hrk:3≤x.rank) (hrl:(bT [⟨x.s.name,x.s.kind,x.till - now,x.s.data⟩]).length≤100000) (h4:S.out.length≤100000) :
 Calls Tryz.prog 60 #[.pointer (some ⟨M.nb,0,none⟩), .agg #[.int .i64 c.node, .int .i64 c.id,aE c.name], .agg #[aE qn, .int .i64 qt], .int .i64 now] w (fun e w'=>e=.returned (.bool true)∧∃ ov,NodeW wL Bo w' { M with ov:=ov } { S with C:=S.C.use i x,out:=S.out ++ gT c qt 0 (bT [⟨x.s.name,x.s.kind,x.till - now,x.s.data⟩]) [] }∧Ko Bo w w'∧Lo wL.heap.size w w'):=by
 have hb:=h.nod.blk;have hp:=aA (cs:=[M.rv, .int .i64 S.bud, .int .i64 S.room, .int .i64 S.most, .int .i64 S.wt, .pointer (some ⟨M.cb,0,none⟩), .pointer (some ⟨M.db,0,none⟩), .pointer (some ⟨M.tb,0,none⟩), .map (some M.mb), .int .i64 (S.sent:Nat),M.ov]) hb;go_enter Tryz.func60,Tryz.ntmps60
 refine_lift yQ ?_;intro _ _ _;refine jS (vs:=[.int .i64 c.node, .int .i64 c.id,aE c.name]) fun w1 x1 s1 b1 => ?_;refine aB ?_;refine jS (vs:=[aE qn, .int .i64 qt]) fun w2 x2 s2 b2 => ?_;refine aB ?_;have hpq:=aA (cs:=[aE qn, .int .i64 qt]) b2;have x02:=x1.trans x2;have hp2:=hp.ext x02;clear hp;refine_lift jH fun _ _ _ _ => ?_;refine cZ (S:=fun w'=>Ext w2 w') zDk ?_;intro w3 x3 hh3;refine dI 0 ?_;refine aB ?_;refine dI 1 ?_;refine aB ?_;refine dI 2 ?_;refine aB ?_;refine dI 3 ?_;refine aB ?_;refine dI 4 ?_;refine aB ?_;refine dI 5 ?_;refine aB ?_;have y3:=x3.size;apply HP (F:=fun (b:Nat) w'=>Ext w2 w'∧w2.heap.size≤b∧w'.heap[b]? = some (.cells tE.toArray 61 (0,0)))
 ·intro hG;refine rM (i:=6) (j:=11) zDk rfl rfl rfl ?_ ?_
  ·refine uC (CK (h.grow (x02.trans x3)).den qn qt now h0 h1) fun w4 x4 => ?_;refine aB ?_;have x24:=x3.trans x4;have y4:=x24.size;refine aD ⟨x24,?_⟩;refine dI 7 ?_;refine aB ?_;refine dI 8 ?_;refine aB ?_;refine dI 9 ?_;refine aB ?_;refine dI 10 ?_;refine aB ?_;refine bW (i:=11) zDk rfl rfl ?_;refine eX (z:=tE) fun w5 x5 s5 b5 => ?_;refine aB ?_;refine aD ⟨x24.trans x5,?_⟩;generalize w4.heap.size=b at *;exact hG b w5 ⟨x24.trans x5,y4,b5⟩
  ·refine eX (z:=tE) fun w4 x4 s4 b4 => ?_;refine aB ?_;have x24:=x3.trans x4;refine aD ⟨x24,?_⟩;refine bW (i:=6) zDk rfl rfl ?_;refine uC (CK (h.grow (x02.trans x24)).den qn qt now h0 h1) fun w5 x5 => ?_;refine aB ?_;refine aD ⟨x24.trans x5,?_⟩;refine dI 7 ?_;refine aB ?_;refine dI 8 ?_;refine aB ?_;refine dI 9 ?_;refine aB ?_;refine dI 10 ?_;refine aB ?_;have b5:=x5.at b4;generalize w3.heap.size=b at *;exact hG b w5 ⟨x24.trans x5,y3,b5⟩
 clear hh3;rintro b3 w6 ⟨x6,g6,c6⟩;refine dI 12 ?_;refine aB ?_;refine bW (i:=13) zDk rfl rfl ?_;refine fG (v:=.agg tE.toArray) c6 zDk fun w7 p7 => ?_;have x27:=eC x6 p7;refine aD ⟨x27,?_⟩;refine dI 14 ?_;refine aB ?_;refine cJ zDk ?_;have hpq7:=hpq.ext x27;have hp7:=hp2.ext x27;have x07:=x02.trans x27;clear hpq hp2 c6 p7 x6 x3 g6 y3;refine_lift mS fun _ _ _ => ?_;refine aV 9 (Ext w7) zDk ?_;intro w3 x3 _;refine ⟨x3,?_⟩;refine bH 0 ?_;refine bH 1 ?_;refine bH 2 ?_;refine bH 3 ?_;refine bH 4 ?_;refine bH 5 ?_;refine bH 6 ?_;refine bH 7 ?_;refine bH 8 ?_;have y3:=x3.size;apply UP (F:=fun (b:Nat) (v:Value) w'=>w7.heap.size≤b∧w'.heap[b]? = some (.cells oR.toArray 137 (0,0))∧Own 0 1 9 w' v (aI x.s.data)∧CacheAt wL.heap.size w' M.cb M.em (S.C.use i x)∧Kf cT [] w7 w'∧Lo wL.heap.size w7 w')
 ·intro hG;refine HO (i:=9) (j:=14) zDk rfl rfl rfl ?_ ?_
  ·refine fY (IP (h.grow (x07.trans x3)).cac qn hn qt now h0 h1 hk hc hfi hix hnx hxt) ?_;rintro _ w4 ⟨v4,rfl,o4,c4,k4,l4⟩;refine ⟨_,rfl,?_⟩;refine aB ?_;refine aD ⟨aQ rfl,?_⟩;refine eH 10 ?_;refine eH 11 ?_;refine eH 12 ?_;refine eH 13 ?_;refine eF 14 ?_;refine eX (z:=oR) fun w5 x5 s5 b5 => ?_;refine aB ?_;refine aD ⟨aQ rfl,?_⟩;have y4:w7.heap.size≤w4.heap.size:=Nat.le_trans y3 l4.size;have o5:=o4.ext x5;have c5:=c4.ext x5;generalize w4.heap.size=b at *;exact hG b v4 w5 ⟨y4,b5,o5.weaken (Nat.zero_le _),c5,(Kf.of x3).trans (k4.trans (Kf.of x5)),(Lo.of x3).trans (l4.trans (Lo.of x5))⟩
  ·refine eX (z:=oR) fun w4 x4 s4 b4 => ?_;refine aB ?_;have x24:=x3.trans x4;refine aD ⟨aZ x24,?_⟩;refine eF 9 ?_;refine fY (IP (h.grow (x07.trans x24)).cac qn hn qt now h0 h1 hk hc hfi hix hnx hxt) ?_;rintro _ w5 ⟨v4,rfl,o5,c5,k5,l5⟩;refine ⟨_,rfl,?_⟩;refine aB ?_;refine aD ⟨aQ rfl,?_⟩;refine eH 10 ?_;refine eH 11 ?_;refine eH 12 ?_;refine eH 13 ?_;have b5:=k5.cells _ _ _ _ b4 aH;generalize w3.heap.size=b at *;exact hG b v4 w5 ⟨y3,b5,o5.weaken (Nat.zero_le _),c5,(Kf.of x24).trans k5,(Lo.of x24).trans l5⟩
 rintro b3 v3 w8 ⟨g8,c8,o8,ca8,k8,l8⟩;have lB:M.nb < w.heap.size:=(Array.getElem?_eq_some_iff.1 hb).1;have z02:=x02.size;have z1:=x1.size;have z27:=x27.size;refine eF 15 ?_;refine fG (v:=.agg #[aE x.s.name, .int .i64 x.s.kind, .int .i64 (x.till - now),v3]) c8 (oH rfl rfl rfl o8.one) fun w9 p9 => ?_;refine aD ⟨aQ rfl,?_⟩;refine eH 16 ?_;refine eH 17 ?_;refine nX ?_;have k79:Kf (137 :: cT) [] w7 w9:=(k8.mono bE bE).trans (Kf.put p9 c8 bE);have l79:Lo wL.heap.size w7 w9:=l8.trans (Lo.put p9 (by have:=h.ext.size;omega));have k09:Kf (137 :: cT) [] w w9:=(Kf.of x07).trans k79;have l09:Lo wL.heap.size w w9:=(Lo.of x07).trans l79;have z09:=l09.size;have bc9:=k79.cells _ _ _ _ ((x2.trans x27).at b1) aH;have bq9:=k79.cells _ _ _ _ (x27.at b2) aH;have bn9:=k09.cells _ _ _ _ hb aH;have hpc:=aA (cs:=[.int .i64 c.node, .int .i64 c.id,aE c.name]) bc9;have hpq:=aA (cs:=[aE qn, .int .i64 qt]) bq9;have hps:=aA (cs:=[aE x.s.name, .int .i64 x.s.kind, .int .i64 (x.till - now),v3]) p9.this;have hv9:NodV wL.heap.size Bo w9 M.nb (M.c S) S.out:=⟨h.nod.ge,bn9,h.nod.row.keep k09.keep aH,h.nod.le.1,by have:=h.nod.le;omega⟩;have o9:=iM o8 p9 c8;clear hp7 hpq7;refine_lift FV fun _ _ _ _ _ => ?_;refine aV 7 (Ext w9) zDk ?_;intro w10 x10 _;refine ⟨x10,?_⟩;refine bH 0 ?_;refine bH 1 ?_;refine bH 2 ?_;refine bH 3 ?_;refine bH 4 ?_;refine eF 5 ?_;refine qP (e:=137) (k:=4) (bytes:=56) (xs:=[.agg #[aE x.s.name, .int .i64 x.s.kind, .int .i64 (x.till - now),v3]]) (by simp [Value.cells]) fun v11 w11 x11 _ sl11 o11 => ?_;refine aB ?_;refine aD ⟨aZ (x10.trans x11),?_⟩;refine eF 6 ?_;have hS:SetsAt w11 v11 [⟨x.s.name,x.s.kind,x.till - now,x.s.data⟩]:=⟨_,sl11,rfl,fun j s hj=>by
  match j,hj with
  | 0,hj =>
   cases hj
   exact ⟨v3,rfl,(o9.ext (x10.trans x11)).sl⟩⟩
 refine pZ (YR v11 _ _ hS aC) fun v12 w12 x12 o12 => ?_;refine aB ?_;have x912:=(x10.trans x11).trans x12;refine aD ⟨aZ x912,?_⟩;refine eF 7 ?_;refine fY (CL (hv9.ext x912) c qt 0 v12 (.slice none 0 0) _ [] o12.sl (Sl.nil _ _) h4) ?_;rintro _ w13 ⟨rfl,ov,h13,k13,l13,f13⟩;refine ⟨_,rfl,?_⟩;refine aB ?_;refine aD ⟨aQ rfl,?_⟩;refine nX ?_;refine_lift aL ?_;go_ret;have k013:Kf (50 :: 71 :: 137 :: cT) [] w w13:=(k09.mono bE bE).trans ((Kf.of x912).trans (k13.mono bE bE));have ca13:CacheAt wL.heap.size w13 M.cb M.em (S.C.use i x):=((ca8.keep (Kf.put (T:=[137]) (M:=[]) p9 c8 bE) bE aH aH aH).ext x912).keep k13 bE aH aH aH;have l013:Lo wL.heap.size w w13:=l09.trans ((Lo.of x912).trans l13);have hE:=l013.ext h.ext (Nat.le_refl _);have z912:=x912.size;refine ⟨rfl,ov,⟨hE,h13,h.rts.keep k013.keep aH,ca13,h.den.keep k013 aH,h.tab.keep k013 bE aH aH aH,h.gm,h.map.keep k013 bE,fun z hz => ?_,h.ne⟩,(Ko.kf k09 aH).trans ((Ko.of x912).trans (Ko.bf (x912.at bn9) f13)),l013⟩;obtain ⟨rb,qv,hN⟩:=h.tsk z hz;exact ⟨rb,qv,hN.keep k013 hE aH aH aH aH aH aH⟩
theorem Bn.bf {Bo nb:Nat} {l:List Nat} (hx:Ext w w0) (f:Bf Bo nb w0 w') (hl:nb ∈ l):Bn Bo l w w':=fun j j1 j2 j3=>by
 rw [f j (Nat.lt_of_lt_of_le j1 hx.size) j2 (fun e=>j3 (e ▸ hl)),hx.block j j1]
theorem CacheR.hit_some {C:CacheR} {k now:Int} {e:EntR} (h:C.hit n k now=some (i,e)):C.l.findIdx? (mM n k)=some i∧C.l[i]? = some e∧now < e.till:=by
 unfold CacheR.hit at h;split at h
 ·cases h
 ·rename_i j hj;split at h
  ·cases h
  ·rename_i e' he;split at h
   ·cases h
   ·cases h
    exact ⟨hj,he,aC⟩
theorem TaskAt.weaken {t:TaskR} (h:TaskAt w1 w b t) (hx:Ext w0 w1):TaskAt w0 w b t:=by
 obtain ⟨rv,sv,gv,ev,h⟩:=h;have z:=hx.size;refine ⟨rv,sv,gv,ev,Nat.le_trans z h.ge,hx.trans h.ext,h.blk,h.rs.weaken z,h.ss.weaken z,h.gs.weaken z,?_⟩;have:=h.es;generalize t.stop=s at *;cases s with
 | none=>exact this
 | some a =>
  obtain ⟨c,v1,v2,g1,g2,g3,g4,g5,g6⟩:=this;exact ⟨c,v1,v2,g1,Nat.le_trans z g2,g3,g4.weaken z,g5.weaken z,g6⟩
def NodeR.fresh (S:NodeR) (c:CliR) (q:gE) (now:Int):NodeR :=
 ({ S with last:=S.last + 1,tt:=some ⟨S.last + 1,fold q.1,q.2,[c]⟩,nt:=some ⟨S.last + 1,(bV q.1 q.2 S.roots S.bud).on.1,[],0,q.1,q.2,0,zeroM,0⟩ }:NodeR).send ⟨S.last + 1,(bV q.1 q.2 S.roots S.bud).on.1,[],0,q.1,q.2,0,zeroM,0⟩ (bV q.1 q.2 S.roots S.bud).on.2 now
def NodeR.ask (S:NodeR) (c:CliR) (q:gE) (now:Int):NodeR :=
 if q.2=251∨q.2=252∨255 < q.2 then { S with out:=S.out ++ gT c q.2 5 [] [] }
 else match S.C.hit (fold q.1) q.2 now with
  | some (i,e)=>{ S with C:=S.C.use i e,out:=S.out ++ gT c q.2 0 (bT [⟨e.s.name,e.s.kind,e.till - now,e.s.data⟩]) [] }
  | none=>match S.tt with
    | some y=>{ S with tt:=some { y with l:=y.l ++ [c] } }
    | none=>S.fresh c q now
structure AskOk (S:NodeR) (q:gE) (now:Int):Prop where
 tm:0≤now∧now≤1099511627776
 lab:(aM q.1).isSome=true
 len:q.1.length≤100000
 qt:1≤q.2∧q.2≤65535
 te:kV q.1 q.2 S.roots S.bud=0
 on:(bV q.1 q.2 S.roots S.bud).on.2.kind=1
 rtl:S.roots.length≤100000
 last:0≤S.last∧S.last≤1000000000
 wt:0≤S.wt∧S.wt≤2147483647
 sent:S.sent≤1000000
 out:S.out.length≤90000
 calls:0≤S.C.calls∧S.C.calls≤1000000000
 same:∀ y,S.tt=some y→y.qn=fold q.1∧y.qt=q.2∧y.l.length < 10
 idle:S.tt=none→S.nt=none
 hit:∀ i e,S.C.hit (fold q.1) q.2 now=some (i,e)→3≤e.rank∧e.till≤1000000000000000000∧(bT [⟨e.s.name,e.s.kind,e.till - now,e.s.data⟩]).length≤100000
 miss:S.C.hit (fold q.1) q.2 now=none→S.C.l.findIdx? (mM (fold q.1) q.2)=none
theorem VK {wL:World} {Bo:Nat} {M:NodeM} {S:NodeR} (h:NodeW wL Bo w M S) (src now:Int) (m:MsgR) (qv a u e:Value) (hm:MsgV w m qv a u e) (q:gE) (hop:m.op=0) (hqs:m.qs=[q]) (ok:AskOk S q now) :
 Calls Tryz.prog 35 #[.pointer (some ⟨M.nb,0,none⟩), .int .i64 src, .agg (aX m qv a u e).toArray, .int .i64 now] w (fun e w'=>e=.returned (.tuple #[])∧∃ M',M'.nb=M.nb∧NodeW wL Bo w' M' (S.ask ⟨src,m.id,q.1⟩ q now)∧Ko Bo w w'∧Lo wL.heap.size w w'∧(S.C.l=[]→S.tt=none→Bn Bo [M.nb,M.tb,M.tm,M.mb] w w')):=by
 have hb:=h.nod.blk;have hp:=aA (cs:=[M.rv, .int .i64 S.bud, .int .i64 S.room, .int .i64 S.most, .int .i64 S.wt, .pointer (some ⟨M.cb,0,none⟩), .pointer (some ⟨M.db,0,none⟩), .pointer (some ⟨M.tb,0,none⟩), .map (some M.mb), .int .i64 (S.sent:Nat),M.ov]) hb;go_enter Tryz.func35,Tryz.ntmps35
 refine_lift yQ ?_;intro _ _ _;refine jS (vs:=aX m qv a u e) fun w1 x1 s1 b1 => ?_;refine aB ?_;have hpm:=aA (cs:=aX m qv a u e) b1;unfold aX at hpm;have hq1:=(hm.ext x1).qs;rw [hop] at hpm;rw [hqs] at hq1;have hq1':Sl 2 w1 qv [[aE q.1, .int .i64 q.2]]:=hq1;have hel:=hq1'.elem (i:=0) rfl;refine_lift mS fun _ _ _ => ?_;refine eX (z:=[aE [], .int .i64 0]) fun w2 x2 s2 b2 => ?_;refine aB ?_;refine fG (v:=.agg #[aE q.1, .int .i64 q.2]) b2 (by simp [Value.cells,aE,Value.oneCell']) fun w3 p3 => ?_;have x3:=eC x2 p3;have hpq3:=aA (cs:=[aE q.1, .int .i64 q.2]) p3.this;have hpm3:=hpm.ext x3;clear hel;refine_lift bK fun _ _ => ?_;refine aG (v:=.agg #[.int .i64 src, .int .i64 m.id,aE q.1]) (Runs.build (vals:=[(0, .int .i64 src),(1, .int .i64 m.id),(2,aE q.1)]) rfl (by kernel_rfl)) ?_;refine aB ?_;refine eX (z:=[.int .i64 0, .int .i64 0,aE []]) fun w4 x4 s4 b4 => ?_;refine aB ?_;refine fG (v:=.agg #[.int .i64 src, .int .i64 m.id,aE q.1]) b4 (by simp [Value.cells,aE,Value.oneCell']) fun w5 p5 => ?_;have x5:=eC x4 p5;have hpc:=aA (cs:=[.int .i64 src, .int .i64 m.id,aE q.1]) p5.this;have hpq:=hpq3.ext x5;have x05:=x1.trans (x3.trans x5);have hp5:=hp.ext x05;have bq5:=x5.at p3.this;have bc5:=p5.this;clear hpm hpm3 hpq3 hq1 hq1' hp p3 p5 x2 x4 b2 b4
 (repeat' first | ((with_reducible refine eN ?_);go_step) | ((with_reducible refine cB ?_);first | refine iF ?_ | (refine fA ?_ ?_ <;> intro hc)) | fail)
 rotate_left
 ·have hR:¬ (q.2=251∨q.2=252∨255 < q.2):=aC;cases hH:S.C.hit (fold q.1) q.2 now with
  | some ie =>
   obtain ⟨i,e⟩:=ie;obtain ⟨r1,r2,r3⟩:=ok.hit i e hH;obtain ⟨g1,g2,g3⟩:=CacheR.hit_some hH;refine fY (OD (h.grow x05) ⟨src,m.id,q.1⟩ q.1 ok.len q.2 now ok.tm.1 ok.tm.2 (by have:=ok.qt;omega) ok.calls g1 g2 g3 r2 r1 r3 (by have:=ok.out;omega)) ?_;rintro _ w6 ⟨rfl,ov,h6,k6,l6⟩;refine ⟨_,rfl,?_⟩;refine aB ?_;refine_lift aL ?_;refine bodyPost_ret (results_none rfl _ _ _) rfl ⟨rfl,{ M with ov:=ov },rfl,?_,(Ko.of x05).trans k6,(Lo.of x05).trans l6,fun hC => ?_⟩
   ·rw [NodeR.ask,if_neg hR,hH];exact h6
   ·rw [hC] at g1;cases g1
  | none =>
   refine uC (OC (h.grow x05) ⟨src,m.id,q.1⟩ q.1 ok.len q.2 now ok.tm.1 ok.tm.2 (by have:=ok.qt;omega) (ok.miss hH)) fun w6 x6 => ?_;refine aB ?_;have x06:=x05.trans x6;have bq6:=x6.at bq5;have bc6:=x6.at bc5;have hpq6:=hpq.ext x6;have hpc6:=hpc.ext x6;have hp6:=hp5.ext x6;clear hpq hpc hp5;refine_lift bK fun _ _ => ?_;refine aV 6 (Ext w6) zDk ?_;intro w7 x7 _;refine ⟨x7,?_⟩;refine bH 0 ?_;refine bH 1 ?_;refine bH 2 ?_;refine bH 3 ?_;refine bH 4 ?_;refine bH 5 ?_;have x07:=x06.trans x7;have htab:=h.tab.ext x07;refine eF 6 ?_;cases hT:S.tt with
   | some y =>
    rw [hT] at htab;obtain ⟨g1,g2,g3⟩:=ok.same y hT;refine fY (QF htab q.1 q.2 ⟨src,m.id,q.1⟩ ok.lab ok.lab g1 g2 g3) ?_;rintro _ w8 ⟨rfl,t8,k8,l8⟩;refine ⟨_,rfl,?_⟩;refine aB ?_;refine aD ⟨aQ rfl,?_⟩;refine eH 7 ?_;refine eH 8 ?_;refine eH 9 ?_;refine eH 10 ?_;refine eH 11 ?_;refine eH 12 ?_;refine eH 13 ?_;refine nX ?_;refine_lift lS fun _ => ?_
    go_end0
    have kk:Kf oT [] w w8:=(Kf.of x07).trans k8;have ll:=(Lo.of x07).trans l8;have hE:=ll.ext h.ext (Nat.le_refl _);refine ⟨rfl,M,rfl,?_,Ko.kf kk aH,ll,fun _ hN=>by rw [hN] at hT;cases hT⟩;have e1:S.ask ⟨src,m.id,q.1⟩ q now={ S with tt:=some { y with l:=y.l ++ [⟨src,m.id,q.1⟩] } }:=by
     rw [NodeR.ask,if_neg hR,hH];simp only [hT]
    rw [e1];refine ⟨hE,h.nod.keep kk ll.size aH aH,h.rts.keep kk.keep aH,h.cac.keep kk bE aH aH aH,h.den.keep kk aH,t8,h.gm,h.map.keep kk bE,fun z hz => ?_,h.ne⟩;obtain ⟨rb,qv',hN⟩:=h.tsk z hz;exact ⟨rb,qv',hN.keep kk hE aH aH aH aH aH aH⟩
   | none =>
    rw [hT] at htab;refine fY (QB htab q.1 q.2 ⟨src,m.id,q.1⟩ ok.lab ok.lab ok.last) ?_;rintro _ w8 ⟨rfl,t8,k8,l8,f8⟩;refine ⟨_,rfl,?_⟩;refine aB ?_;refine aD ⟨aQ rfl,?_⟩;refine eH 7 ?_;refine eH 8 ?_;refine eH 9 ?_;refine eH 10 ?_;refine eH 11 ?_;refine eH 12 ?_;refine eH 13 ?_;refine nX ?_;have hI:=ok.idle hT;have kk:Kf oT [M.tm] w w8:=(Kf.of x07).trans k8;have ll:=(Lo.of x07).trans l8;have hE:=ll.ext h.ext (Nat.le_refl _);have h8:NodeW wL Bo w8 M { S with last:=S.last + 1,tt:=some ⟨S.last + 1,fold q.1,q.2,[⟨src,m.id,q.1⟩]⟩ }:=⟨hE,h.nod.keep kk ll.size aH aH,h.rts.keep kk.keep aH,h.cac.keep kk (by simp [h.ne.1]) aH aH aH,h.den.keep kk aH,t8,h.gm,h.map.keep kk (by simp [h.ne.2.2.symm]),fun z hz=>(by rw [show S.nt=none from hI] at hz;cases hz),h.ne⟩;have bq8:=k8.cells _ _ _ _ (x7.at bq6) aH;have hpq8:=aA (cs:=[aE q.1, .int .i64 q.2]) bq8;have hp8:=aA (cs:=[M.rv, .int .i64 S.bud, .int .i64 S.room, .int .i64 S.most, .int .i64 S.wt, .pointer (some ⟨M.cb,0,none⟩), .pointer (some ⟨M.db,0,none⟩), .pointer (some ⟨M.tb,0,none⟩), .map (some M.mb), .int .i64 (S.sent:Nat),M.ov]) h8.nod.blk;clear hpq6 hpc6 hp6;refine_lift mS fun _ _ _ => ?_;have hel1:=h8.rts.sl;refine cZ (S:=fun w'=>Ext w8 w') zDk ?_;intro w9 x9 hh9;refine dI 0 ?_;refine aB ?_;refine dI 1 ?_;refine aB ?_;refine dI 2 ?_;refine aB ?_;refine dI 3 ?_;refine aB ?_;refine dI 4 ?_;refine aB ?_;refine dI 5 ?_;refine aB ?_;refine dI 6 ?_;refine aB ?_;refine dI 7 ?_;refine aB ?_;refine dI 8 ?_;refine aB ?_;refine dI 9 ?_;refine aB ?_;refine dI 10 ?_;refine aB ?_;have y9:=x9.size;apply UZ (F:=fun (k b:Nat) (u:Value) w'=>Ext w8 w'∧w8.heap.size≤k∧w'.heap[k]? = some (.cells dU.toArray 110 (0,0))∧ActRet wL b (bV q.1 q.2 S.roots S.bud).on u w')
    ·intro hG;have cN:∀ w',Ext w8 w'→Calls Tryz.prog 62 #[.agg #[aE q.1, .int .i64 q.2],M.rv, .int .i64 S.bud] w' (pX w' fun r w''=>∃ b u,r=.tuple #[.pointer (some ⟨b,0,none⟩),u, .int .i64 0]∧ActRet wL b (bV q.1 q.2 S.roots S.bud).on u w''):=fun w' hx=>by
      refine (VF q.1 q.2 M.rv S.roots S.bud w' (hel1.ext hx) (by have:=ok.rtl;omega)).mono ?_;rintro e w'' ⟨r,rfl,hxx,hr⟩;unfold pC at hr;rw [if_pos ok.te] at hr;obtain ⟨b,u,rfl,g1,g2⟩:=hr;exact ⟨_,rfl,hxx,b,u,rfl,g1,g2.weaken (hE.trans hx)⟩
     refine rM (i:=11) (j:=16) zDk rfl rfl rfl ?_ ?_
     ·refine pZ (cN _ x9) ?_;rintro _ wA xA ⟨b,u,rfl,hA⟩;refine aB ?_;have x1A:=x9.trans xA;have yA:=x1A.size;refine aD ⟨x1A,?_⟩;refine dI 12 ?_;refine aB ?_;refine dI 13 ?_;refine aB ?_;refine dI 14 ?_;refine aB ?_;refine dI 15 ?_;refine aB ?_;refine bW (i:=16) zDk rfl rfl ?_;refine eX (z:=dU) fun wB xB sB bB => ?_;refine aB ?_;refine aD ⟨x1A.trans xB,?_⟩;have hB:=hA.ext xB;generalize wA.heap.size=k at *;exact hG k b u wB ⟨x1A.trans xB,yA,bB,hB⟩
     ·refine eX (z:=dU) fun wA xA sA bA => ?_;refine aB ?_;have x1A:=x9.trans xA;refine aD ⟨x1A,?_⟩;refine bW (i:=11) zDk rfl rfl ?_;refine pZ (cN _ x1A) ?_;rintro _ wB xB ⟨b,u,rfl,hA⟩;refine aB ?_;refine aD ⟨x1A.trans xB,?_⟩;refine dI 12 ?_;refine aB ?_;refine dI 13 ?_;refine aB ?_;refine dI 14 ?_;refine aB ?_;refine dI 15 ?_;refine aB ?_;have bB:=xB.at bA;generalize w9.heap.size=k at *;exact hG k b u wB ⟨x1A.trans xB,y9,bB,hA⟩
    clear hh9;rintro k b u w10 ⟨x10,g10,c10,hA⟩;refine dI 17 ?_;refine aB ?_;refine bW (i:=18) zDk rfl rfl ?_;obtain ⟨v1,v2,rfl,o1,o2⟩:=hA.1.out;refine fG (v:=.agg (cY (bV q.1 q.2 S.roots S.bud).on.2 v1 v2).toArray) c10 (kW o1.one o2.one) fun w11 p11 => ?_;have x811:=eC x10 p11;refine aD ⟨x811,?_⟩;refine dI 19 ?_;refine aB ?_;refine cJ zDk ?_;have hE10:=hE.trans x10;have y8:=hE.size;have hAV:ActV w11 (.agg (cY (bV q.1 q.2 S.roots S.bud).on.2 v1 v2).toArray) (bV q.1 q.2 S.roots S.bud).on.2:=hA.1.put p11 c10 aH;have hAT:TaskAt wL w11 b (bV q.1 q.2 S.roots S.bud).on.1:=by
     obtain ⟨rv,sv,gv,ev,hT'⟩:=hA.2;exact ⟨rv,sv,gv,ev,hT'.other p11 c10 (Nat.le_trans y8 g10)⟩
    have c11:=p11.this;have hpq11:=hpq8.ext x811;have hp11:=hp8.ext x811;have h11:=h8.grow x811;clear hpq8 hp8 hel1;refine_lift bK fun _ _ => ?_;refine aV 9 (Ext w11) zDk ?_;intro w12 x12 _;refine ⟨x12,?_⟩;refine bH 0 ?_;refine bH 1 ?_;refine bH 2 ?_;refine bH 3 ?_;refine bH 4 ?_;refine bH 5 ?_;refine bH 6 ?_;have h12:=h11.grow x12;refine FP (i:=7) (v:=.agg (QE ⟨S.last + 1,(bV q.1 q.2 S.roots S.bud).on.1,[],0,q.1,q.2,0,zeroM,0⟩ b cI).toArray) rfl rfl (fun _=>Runs.build (vals:=[(0, .pointer (some ⟨b,0,none⟩)),(2, .agg #[aE q.1, .int .i64 q.2])]) rfl (by kernel_rfl)) ?_;refine aB ?_;refine eF 8 ?_;refine jS (vs:=QE ⟨S.last + 1,(bV q.1 q.2 S.roots S.bud).on.1,[],0,q.1,q.2,0,zeroM,0⟩ b cI) fun w13 x13 s13 b13 => ?_;refine aB ?_;have x1113:=x12.trans x13;refine aD ⟨aZ x1113,?_⟩;have hm13:MapS FE w13 M.mb []:=by
     have:=(h12.grow x13).map;rw [show S.nt=none from hI] at this;exact this
    have htm:dZ Tryz.prog 66 3 104=true:=zDk;obtain ⟨w14,o14,hr14,p14,m14⟩:=oX nV htm hm13 (x:=.int .i64 (S.last + 1)) (v:=.pointer (some ⟨w12.heap.size,0,none⟩)) ⟨_,rfl⟩ bE;refine eF 9 ?_;refine fS rfl rfl rfl rfl hr14 ?_;refine aD ⟨aQ rfl,?_⟩;refine nX ?_;have k14:Kf [] [M.mb] w11 w14:=(Kf.of x1113).trans (Kf.putMap p14 hm13 bE);have l14:Lo wL.heap.size w11 w14:=(Lo.of x1113).trans (Lo.put p14 h.gm);have c14:=k14.cells _ _ _ _ c11 bE;have hpa14:=aA (cs:=cY (bV q.1 q.2 S.roots S.bud).on.2 v1 v2) c14;unfold cY at hpa14;refine_lift aL ?_;have hE14:Ext wL w14:=l14.ext h11.ext (Nat.le_refl _);have kP:Kf [] [M.mb] w13 w14:=Kf.putMap p14 hm13 bE;have h14:NodeW wL Bo w14 { M with sb:=w12.heap.size } { S with last:=S.last + 1,tt:=some ⟨S.last + 1,fold q.1,q.2,[⟨src,m.id,q.1⟩]⟩,nt:=some ⟨S.last + 1,(bV q.1 q.2 S.roots S.bud).on.1,[],0,q.1,q.2,0,zeroM,0⟩ }:=by
     refine ⟨hE14,h11.nod.keep k14 l14.size bE bE,h11.rts.keep k14.keep bE,h11.cac.keep k14 (by simp [h.ne.2.1]) bE bE bE,h11.den.keep k14 bE,h11.tab.keep k14 (by simp [h.ne.2.2]) bE bE bE,h.gm,m14,?_,h.ne⟩;rintro z ⟨⟩;exact ⟨b,cI,h12.ext.size,kP.cells _ _ _ _ b13 bE,hAT.keep k14 hE14 bE bE bE bE,Own.nil _ _ _ _,rfl,rfl,rfl⟩
    have hA14:ActV w14 (.agg (cY (bV q.1 q.2 S.roots S.bud).on.2 v1 v2).toArray) (bV q.1 q.2 S.roots S.bud).on.2:=by
     obtain ⟨u1,u2,g1,g2,g3⟩:=hAV.out;exact ⟨u1,u2,g1,g2.keep k14.keep bE,g3.keep k14.keep bE⟩
    refine fY (IQ h14 rfl _ _ hA14 ok.on now ok.tm.1 ok.tm.2 ok.wt ok.sent (Nat.le_trans ok.out aC)) ?_;rintro _ w15 ⟨rfl,ov,h15,f15,l15⟩;refine ⟨_,rfl,?_⟩;refine aB ?_;refine_lift aL ?_
    go_end0
    have z07:=x07.size;have z8:=l8.size;have z811:=x811.size;have z12:=x12.size;have z13:=x13.size;have z14:=p14.size;have fB:Bn Bo [M.nb,M.tb,M.tm,M.mb] w w15:=fun j j1 j2 j3=>by
     have e1:j≠M.nb:=fun e=>j3 (by simp [e]);have e2:j≠M.tb:=fun e=>j3 (by simp [e]);have e3:j≠M.tm:=fun e=>j3 (by simp [e]);have e4:j≠M.mb:=fun e=>j3 (by simp [e]);rw [f15 j aC j2 (by simp;omega),p14.other j e4,x1113.block j aC,x811.block j aC,f8 j aC e2 e3,x07.block j j1]
    refine ⟨rfl,{ M with sb:=w12.heap.size,ov:=ov },rfl,?_,Ko.bn fB ?_,((Lo.of x07).trans l8).trans ((Lo.of x811).trans (l14.trans l15)),fun _ _=>fB⟩
    ·rw [NodeR.ask,if_neg hR,hH];simp only [hT];exact h15
    ·obtain ⟨tbk,hTb⟩:=h.tab;intro j hj cs t fz e;simp only [List.mem_cons,List.not_mem_nil,or_false] at hj;rcases hj with rfl | rfl | rfl | rfl
     ·rw [hb] at e;injection (Option.some.inj e) with _ e2
      rw [← e2]
      decide
     ·rw [hTb.blk] at e;injection (Option.some.inj e) with _ e2
      rw [← e2]
      decide
     ·exact absurd rfl (hTb.map.neCells e)
     ·exact absurd rfl (h.map.neCells e)
 all_goals
  refine fY (CL (h.grow x05).nod ⟨src,m.id,q.1⟩ q.2 5 (.slice none 0 0) (.slice none 0 0) [] [] (Sl.nil _ _) (Sl.nil _ _) (by have:=ok.out;omega)) ?_;rintro _ w6 ⟨rfl,ov,h6,k6,l6,f6⟩;refine ⟨_,rfl,?_⟩;refine aB ?_;refine_lift aL ?_;refine bodyPost_ret (results_none rfl _ _ _) rfl ⟨rfl,{ M with ov:=ov },rfl,?_,(Ko.of x05).trans (Ko.bf (x05.at hb) f6),(Lo.of x05).trans l6,fun _ _=>Bn.bf x05 f6 bE⟩;rw [NodeR.ask,if_pos aC];exact (h.grow x05).outs h6 k6 l6
theorem nW {n a b:Int} (h:a≤n∧n≤b) (w:World):Calls Tryz.prog 21 #[.int .i64 n, .int .i64 a, .int .i64 b] w (bG w (.bool true)):=by
 have:=OA n a b w;rw [decide_eq_true h.1,decide_eq_true h.2] at this;exact this
theorem HC {n a b:Int} (h:¬(a≤n∧n≤b)) (w:World):Calls Tryz.prog 21 #[.int .i64 n, .int .i64 a, .int .i64 b] w (bG w (.bool false)):=by
 have:=OA n a b w;rw [show (decide (a≤n) && decide (n≤b))=false by simp;omega] at this;exact this
theorem TU (n:Int) (w:World):Calls Tryz.prog 23 #[.int .i64 n] w (bG w (.bool (!(decide (0≤n) && decide (n≤99))))):=by
 go_enter Tryz.func23,Tryz.ntmps23
 refine_lift bK fun _ _ => ?_;refine bX (OA n 0 99 _) fun w1 x1 => ?_;refine_lift aL ?_;go_ret;exact ⟨rfl,x1⟩
theorem CacheAt.weaken {C:Nat} {cb em:Nat} {K:CacheR} (h:CacheAt B w cb em K) (hc:C≤B):CacheAt C w cb em K:=by
 obtain ⟨gs,h⟩:=h;exact ⟨gs,⟨Nat.le_trans hc h.ge.1,Nat.le_trans hc h.ge.2⟩,h.eq,h.blk,h.map,fun g hg=>let a:=h.ents g hg;⟨Nat.le_trans hc a.ge,a.blk,a.row.weaken hc,a.len,a.ok⟩,h.apart,h.keys⟩
theorem TabAt.weaken {C:Nat} {tb tm:Nat} {last:Int} {t:Option WaitR} (h:TabAt B w tb tm last t) (hc:C≤B):TabAt C w tb tm last t:=by
 obtain ⟨k,h⟩:=h;refine ⟨k,⟨Nat.le_trans hc h.ge.1,Nat.le_trans hc h.ge.2⟩,h.eq,h.blk,h.map,fun x b e => ?_⟩;obtain ⟨v,a⟩:=h.task x b e;exact ⟨v,Nat.le_trans hc a.ge,a.blk,a.row.weaken hc⟩
def NodeR.new (roots:List Int) (bud room most wt:Int):NodeR:=⟨roots,bud,room,most,wt,⟨room,most,0,[]⟩,0,none,none,0,[]⟩
theorem OE (w:World):Calls Tryz.prog 10 #[.agg #[.slice none 0 0, .int .i64 0, .int .i64 0, .int .i64 0, .int .i64 0]] w (bG w (.tuple #[.pointer none, .int .i64 1])):=by
 go_enter Tryz.func10,Tryz.ntmps10
 refine_lift lQ fun _ _ => ?_;refine jS (vs:=[.slice none 0 0, .int .i64 0, .int .i64 0, .int .i64 0, .int .i64 0]) fun w1 x1 s1 b1 => ?_;refine aB ?_;have hp:=aA (cs:=[.slice none 0 0, .int .i64 0, .int .i64 0, .int .i64 0, .int .i64 0]) b1;have sl0:Sl 1 w1 (.slice none 0 0) []:=Sl.nil _ _;refine_lift bK fun _ _ => ?_;refine bX (HC (n:=(([]:List (List Value)).length:Nat)) (a:=1) (b:=20) bE _) fun w2 x2 => ?_;refine_lift aL ?_;exact bodyPost_ret (results_tmp2 rfl _ _ _) rfl ⟨rfl,x1.trans x2⟩
theorem AZ (rv:Value) (rl:List Int) (bud room most wt:Int) (w:World) (hv:Sl 1 w rv (aY rl)) (c1:1≤rl.length∧rl.length≤20) (c2:1≤bud∧bud≤100) (c3:1≤room∧room≤200) (c4:1≤most∧most≤2147483647) (c5:1≤wt∧wt≤2147483647) (c6:rl.any (fun n => !(decide (0≤n) && decide (n≤99)))=false) :
 Calls Tryz.prog 10 #[.agg #[rv, .int .i64 bud, .int .i64 room, .int .i64 most, .int .i64 wt]] w (pX w fun r w'=>∃ M,r=.tuple #[.pointer (some ⟨M.nb,0,none⟩), .int .i64 0]∧M.ov=.slice none 0 0∧NodeW w w'.heap.size w' M (NodeR.new rl bud room most wt)):=by
 have hlen:(aY rl).length=rl.length:=List.length_map ..;have hle:=hv.le;go_enter Tryz.func10,Tryz.ntmps10
 refine_lift yQ ?_;intro _ _ _;refine jS (vs:=[rv, .int .i64 bud, .int .i64 room, .int .i64 most, .int .i64 wt]) fun w1 x1 s1 b1 => ?_;refine aB ?_;have hp:=aA (cs:=[rv, .int .i64 bud, .int .i64 room, .int .i64 most, .int .i64 wt]) b1;have hv1:=hv.ext x1;refine_lift bK fun _ _ => ?_;refine bX (nW (n:=((aY rl).length:Nat)) (a:=1) (b:=20) (by rw [hlen];omega) _) fun w2 x2 => ?_;refine_lift aL ?_;refine bX (nW c2 _) fun w3 x3 => ?_;refine_lift aL ?_;refine bX (nW c3 _) fun w4 x4 => ?_;refine_lift aL ?_;refine bX (nW c4 _) fun w5 x5 => ?_;refine_lift aL ?_;refine bX (nW c5 _) fun w6 x6 => ?_;have hx6:=x2.trans (x3.trans (x4.trans (x5.trans x6)));have hp6:=hp.ext hx6;have hv6:=hv1.ext hx6;clear hp hv1;refine_lift jH fun _ _ _ _ => ?_;have hCF:=oG rv rl 23 (fun n => !(decide (0≤n) && decide (n≤99))) w6 hv6 (enters_of Tryz.func23 rfl rfl) (fun n _ w'=>TU n w');rw [c6] at hCF;refine bX hCF fun w7 x7 => ?_;have hx7:=hx6.trans x7;have x07:=x1.trans hx7;have hp7:=hp6.ext x7;have hv7:=hv6.ext x7;refine_lift bK fun _ _ => ?_;refine pZ (EO rv rl _ hv7 aC) fun v8 w8 x8 o8 => ?_;refine aB ?_;have z07:=x07.size;have z8:=x8.size;refine_lift aL ?_;refine fZ 0 v8 (x8.at (hx7.at b1)) o8.one fun w9 p9 => ?_;have b9:w9.heap[w.heap.size]? = some (.cells [v8, .int .i64 bud, .int .i64 room, .int .i64 most, .int .i64 wt].toArray 33 (0,0)):=p9.this;have o9:=iM o8 p9 (x8.at (hx7.at b1));have x09:=eC (x07.trans x8) p9;have hp9:=aA b9;clear hp6 hp7;refine_lift bK fun _ _ => ?_;refine nO (ok:=FE) rfl ?_;intro w10 x10 s10 m10;refine aB ?_;refine aG (v:=.agg #[v8, .int .i64 bud, .int .i64 room, .int .i64 most, .int .i64 wt, .pointer none, .pointer none, .pointer none, .map (some w9.heap.size), .int .i64 0, .slice none 0 0]) (Runs.build (vals:=[(0, .agg #[v8, .int .i64 bud, .int .i64 room, .int .i64 most, .int .i64 wt]),(4, .map (some w9.heap.size))]) rfl (by kernel_rfl)) ?_;refine aB ?_;refine jS (vs:=[v8, .int .i64 bud, .int .i64 room, .int .i64 most, .int .i64 wt, .pointer none, .pointer none, .pointer none, .map (some w9.heap.size), .int .i64 0, .slice none 0 0]) fun w11 x11 s11 b11 => ?_;refine aB ?_;have hp11:=(hp9.ext x10).ext x11;refine_lift bK fun _ _ => ?_;refine pZ (TO room most _ c3.1 c3.2 c4.1 c4.2) ?_;rintro _ w12 x12 ⟨cb,em,rfl,ne12,ca12⟩;refine aB ?_;have hp12:=hp11.ext x12;refine_lift aL ?_;refine fZ 5 (.pointer (some ⟨cb,0,none⟩)) (x12.at b11) rfl fun w13 p13 => ?_;have b13:w13.heap[w10.heap.size]? = some (.cells [v8, .int .i64 bud, .int .i64 room, .int .i64 most, .int .i64 wt, .pointer (some ⟨cb,0,none⟩), .pointer none, .pointer none, .map (some w9.heap.size), .int .i64 0, .slice none 0 0].toArray 71 (0,0)):=p13.this;have z9:=x09.size;have z10:=x10.size;have z11:=x11.size;have z12:=x12.size;have z13:=p13.size;have lw:w.heap.size < w9.heap.size:=(Array.getElem?_eq_some_iff.1 b9).1;have c13:=(p13.other w.heap.size aC).trans (x12.at (x11.at (x10.at b9)));have hp13:=aA c13;clear hp9 hp11 hp12;refine_lift bK fun _ _ => ?_;refine pZ (TR room most _ c3.1 c3.2 c4.1 c4.2) ?_;rintro _ w14 x14 ⟨db,rfl,de14⟩;refine aB ?_;have z14:=x14.size;have hp14:=hp13.ext x14;refine_lift aL ?_;refine fZ 6 (.pointer (some ⟨db,0,none⟩)) (x14.at b13) rfl fun w15 p15 => ?_;have b15:w15.heap[w10.heap.size]? = some (.cells [v8, .int .i64 bud, .int .i64 room, .int .i64 most, .int .i64 wt, .pointer (some ⟨cb,0,none⟩), .pointer (some ⟨db,0,none⟩), .pointer none, .map (some w9.heap.size), .int .i64 0, .slice none 0 0].toArray 71 (0,0)):=p15.this;have z15:=p15.size;refine_lift bK fun _ _ => ?_;refine pZ (TQ _) ?_;rintro _ w16 x16 ⟨tb,tm,rfl,ne16,ta16⟩;refine aB ?_;have z16:=x16.size;refine_lift aL ?_;refine fZ 7 (.pointer (some ⟨tb,0,none⟩)) (x16.at b15) rfl fun w17 p17 => ?_;have z17:=p17.size;refine_lift aL ?_;refine bodyPost_ret (results_tmp2 rfl _ _ _) rfl ?_;have k13:Kf [71] [] w12 w13:=Kf.put p13 (x12.at b11) bE;have k15:Kf [71] [] w14 w15:=Kf.put p15 (x14.at b13) bE;have k17:Kf [71] [] w16 w17:=Kf.put p17 (x16.at b15) bE;have k1417:=(k15.trans (Kf.of x16)).trans k17;have k1217:=(k13.trans (Kf.of x14)).trans k1417;have k917:=(Kf.of (x10.trans (x11.trans x12))).trans k1217;have l917:Lo w9.heap.size w9 w17:=(Lo.of (x10.trans (x11.trans x12))).trans ((Lo.put p13 z10).trans ((Lo.of x14).trans ((Lo.put p15 z10).trans ((Lo.of x16).trans (Lo.put p17 z10)))));have hx:Ext w w17:=l917.ext x09 z9;obtain ⟨gs,hC⟩:=ca12;have le1:=hC.map.lt;have le2:=hC.ge;obtain ⟨tbk,hT⟩:=ta16;have le3:=hT.ge;have ca:CacheAt w11.heap.size w12 cb em ⟨room,most,0,[]⟩:=⟨gs,hC⟩;have ta:TabAt w15.heap.size w16 tb tm 0 none:=⟨tbk,hT⟩;refine ⟨_,rfl,hx,⟨w10.heap.size,v8, .slice none 0 0,cb,em,db,tb,tm,w9.heap.size,0⟩,rfl,rfl,hx,⟨by dsimp only;omega,p17.this,Own.nil _ _ _ _,aC⟩,(o9.keep k917.keep aH).weaken aC,?_,?_,?_,by dsimp only;omega,(m10.ext (x11.trans x12)).keep k1217 bE,?_,by dsimp only;omega,by dsimp only;omega,by dsimp only;omega⟩
 ·exact (ca.keep k1217 bE aH aH aH).weaken aC
 ·have:=de14.keep k1417 aH;exact ⟨Nat.le_trans aC this.ge,this.blk⟩
 ·exact (ta.keep k17 bE aH aH aH).weaken aC
 ·rintro z ⟨⟩
structure NodeI (wL w:World) (M:NodeM) (S:NodeR):Prop where
 ov:M.ov=.slice none 0 0
 out:S.out=[]
 w:NodeW wL w.heap.size w M S
theorem NodeW.idle {wL:World} {Bo:Nat} {M:NodeM} {S:NodeR} (h:NodeW wL Bo w M S) (h1:M.ov=.slice none 0 0) (h2:S.out=[]):NodeI wL w M S:=by
 refine ⟨h1,h2,h.ext,⟨h.nod.ge,h.nod.blk,?_,h.ext.size,Nat.le_refl _⟩,h.rts,h.cac,h.den,h.tab,h.gm,h.map,h.tsk,h.ne⟩;rw [h2,show (M.c S).ov=.slice none 0 0 from h1];exact Own.nil _ _ _ _
theorem NodeI.grow {wL:World} {M:NodeM} {S:NodeR} (h:NodeI wL w M S) (hx:Ext w w'):NodeI wL w' M S:=(h.w.grow hx).idle h.ov h.out
theorem vW {wL:World} {Bo:Nat} {M:NodeM} {S:NodeR} (h:NodeW wL Bo w M S) :
 Calls Tryz.prog 36 #[.pointer (some ⟨M.nb,0,none⟩)] w (fun e w'=>e=.returned M.ov∧NodeI wL w' { M with ov:=.slice none 0 0 } { S with out:=[] }∧Own Bo 2 50 w' M.ov (bU S.out)∧Ko Bo w w'∧Bn Bo [M.nb] w w'∧w.heap.size≤w'.heap.size):=by
 refine (TT h.nod).mono ?_;rintro e w' ⟨rfl,h1,h2,h3,h4,h5⟩;exact ⟨rfl,(h.outs h1 h3 h4).idle rfl rfl,h2,Ko.bf h.nod.blk h5,Bn.bf (Ext.refl _) h5 bE,h4.size⟩
theorem Bn.trans {Bo:Nat} {l:List Nat} {a b c:World} (h:Bn Bo l a b) (hs:a.heap.size≤b.heap.size) (k:Bn Bo l b c):Bn Bo l a c:=fun j h1 h2 h3=>(k j (Nat.lt_of_lt_of_le h1 hs) h2 h3).trans (h j h1 h2 h3)
theorem Bn.of {Bo:Nat} {l:List Nat} (h:Ext w w'):Bn Bo l w w':=fun j h1 _ _=>h.block j h1
theorem Bn.mono {Bo:Nat} {l l':List Nat} (h:Bn Bo l w w') (hl:∀ j ∈ l,j ∈ l'):Bn Bo l' w w':=fun j h1 h2 h3=>h j h1 h2 fun e=>h3 (hl j e)
def lD (wL w:World) (M:NodeM) (S':NodeR) (P:Prop) (l:List Nat) (e:Ending) (w':World):Prop :=
 ∃ r M',e=.returned r∧M'.nb=M.nb∧NodeI wL w' M' { S' with out:=[] }∧Own w.heap.size 2 50 w' r (bU S'.out)∧Ko w.heap.size w w'∧(P→Bn w.heap.size (M.nb :: l) w w'∧(l=[]→M'.tb=M.tb∧M'.tm=M.tm∧M'.mb=M.mb))∧w.heap.size≤w'.heap.size
theorem CM {wL:World} {M:NodeM} {S S':NodeR} (h:NodeI wL w M S) {P:Prop} {l:List Nat} (src now:Int) (s:List UInt8) (hs:s.length≤1000000) (c1:0≤src∧src≤99) (c2:0≤now∧now≤1099511627776) {m:MsgR} (hd:cK s=(m,0))
 (hq:∀ w2 q a u x,Ext w w2→NodeW wL w.heap.size w2 M S→MsgW w.heap.size w2 m q a u x→Calls Tryz.prog (if m.resp then 34 else 35) #[.pointer (some ⟨M.nb,0,none⟩), .int .i64 src, .agg (aX m q a u x).toArray, .int .i64 now] w2 (fun e w3=>e=.returned (.tuple #[])∧∃ M',M'.nb=M.nb∧NodeW wL w.heap.size w3 M' S'∧Ko w.heap.size w2 w3∧(P→Bn w.heap.size (M.nb :: l) w2 w3∧(l=[]→M'.tb=M.tb∧M'.tm=M.tm∧M'.mb=M.mb))∧w2.heap.size≤w3.heap.size)) :
 Calls Tryz.prog 12 #[.pointer (some ⟨M.nb,0,none⟩), .int .i64 src,aE s, .int .i64 now] w (lD wL w M S' P l):=by
 have cD:=mJ (w:=w) s hs;unfold pN at cD;rw [hd] at cD;go_enter Tryz.func12,Tryz.ntmps12
 refine_lift bK fun _ _ => ?_;refine fY cD ?_;rintro _ w1 ⟨q,a,u,x,rfl,⟨o1,o2,o3,o4⟩,x1⟩;refine ⟨_,rfl,?_⟩;refine aB ?_;have hm1:MsgW w.heap.size w1 m q a u x:=⟨o1,o2,o3,o4⟩;refine_lift aL ?_;refine eX (z:=jL) fun w2 x2 s2 b2 => ?_;refine aB ?_;refine fG (v:=.agg (aX m q a u x).toArray) b2 (gP (hm1.msg.ext x2)) fun w3 p3 => ?_;have x13:=eC x2 p3;have hpm:=aA (cs:=aX m q a u x) p3.this;unfold aX at hpm;refine_lift jH fun _ _ _ _ => ?_;refine bX (nW c1 _) fun w4 x4 => ?_;refine_lift aL ?_;refine bX (nW c2 _) fun w5 x5 => ?_;have x35:=x4.trans x5;have hpm5:=hpm.ext x35;have x15:=x13.trans x35;have x05:=x1.trans x15;have hm5:=hm1.ext x15;have hn5:NodeW wL w.heap.size w5 M S:=h.w.grow x05;have hQ:=hq w5 q a u x x05 hn5 hm5;have z05:=x05.size;clear hpm;cases hres:m.resp with
 | true =>
  rw [if_pos hres] at hQ;unfold aX at hQ;rw [hres] at hQ hpm5;refine_lift bK fun _ _ => ?_;refine fY hQ ?_;rintro _ w6 ⟨rfl,M',hnb,h6,k6,f6,z6⟩;refine ⟨_,rfl,?_⟩;refine aB ?_;refine_lift bK fun _ _ => ?_;have hT:=vW h6;rw [hnb] at hT;refine fY hT ?_;rintro _ w7 ⟨rfl,h7,o7,k7,f7,z7⟩;refine ⟨_,rfl,?_⟩;refine aB ?_;refine_lift aL ?_;go_ret;exact ⟨_,⟨M.nb,M'.rv, .slice none 0 0,M'.cb,M'.em,M'.db,M'.tb,M'.tm,M'.mb,M'.sb⟩,rfl,rfl,h7,o7,(Ko.of x05).trans (k6.trans k7),fun hP=>⟨(Bn.of x05).trans z05 ((f6 hP).1.trans z6 (f7.mono bE)),(f6 hP).2⟩,aC⟩
 | false =>
  rw [if_neg (by rw [hres];simp)] at hQ;unfold aX at hQ;rw [hres] at hQ hpm5;refine_lift bK fun _ _ => ?_;refine fY hQ ?_;rintro _ w6 ⟨rfl,M',hnb,h6,k6,f6,z6⟩;refine ⟨_,rfl,?_⟩;refine aB ?_;refine_lift bK fun _ _ => ?_;have hT:=vW h6;rw [hnb] at hT;refine fY hT ?_;rintro _ w7 ⟨rfl,h7,o7,k7,f7,z7⟩;refine ⟨_,rfl,?_⟩;refine aB ?_;refine_lift aL ?_;go_ret;exact ⟨_,⟨M.nb,M'.rv, .slice none 0 0,M'.cb,M'.em,M'.db,M'.tb,M'.tm,M'.mb,M'.sb⟩,rfl,rfl,h7,o7,(Ko.of x05).trans (k6.trans k7),fun hP=>⟨(Bn.of x05).trans z05 ((f6 hP).1.trans z6 (f7.mono bE)),(f6 hP).2⟩,aC⟩
theorem CN {b:Option Addr} (src now:Int) (s:List UInt8) (hs:s.length≤1000000) (w:World) (hd:b=none∨(cK s).2≠0∨¬(0≤src∧src≤99)):Calls Tryz.prog 12 #[.pointer b, .int .i64 src,aE s, .int .i64 now] w (bG w (.slice none 0 0)):=by
 have cD:=NQ (w:=w) s hs;unfold NM at cD;generalize cK s=R at *;obtain ⟨m,er⟩:=R;go_enter Tryz.func12,Tryz.ntmps12
 refine_lift bK fun _ _ => ?_;refine fY cD ?_;rintro _ w1 ⟨q,a,u,x,rfl,hm,x1⟩;refine ⟨_,rfl,?_⟩;refine aB ?_;refine_lift aL ?_;refine eX (z:=jL) fun w2 x2 s2 b2 => ?_;refine aB ?_;refine fG (v:=.agg (aX m q a u x).toArray) b2 (gP (hm.ext x2)) fun w3 p3 => ?_;have x13:=x1.trans (eC x2 p3);cases b with
 | none =>
  refine_lift aL ?_;go_ret;exact ⟨rfl,x13⟩
 | some b =>
  rcases hd with hd | hd | hd
  ·cases hd
  ·have hd:¬ er=0:=hd
   (repeat' first | ((with_reducible refine eN ?_);go_step) | ((with_reducible refine cB ?_);first | refine iF ?_ | (refine fA ?_ ?_ <;> intro hc)) | fail)
   all_goals first | (go_ret;exact ⟨rfl,x13⟩) | exact absurd (by simpa using ‹(!decide (er=0))=false›) ‹¬ er=0›
  ·by_cases c0:er=0
   ·subst c0;refine_lift jH fun _ _ _ _ => ?_;refine bX (HC hd _) fun w4 x4 => ?_;refine_lift aL ?_;go_ret;exact ⟨rfl,x13.trans x4⟩
   ·(repeat' first | ((with_reducible refine eN ?_);go_step) | ((with_reducible refine cB ?_);first | refine iF ?_ | (refine fA ?_ ?_ <;> intro hc)) | fail)
    all_goals first | (go_ret;exact ⟨rfl,x13⟩) | exact absurd (by simpa using ‹(!decide (er=0))=false›) ‹¬ er=0›
structure ZonesAt (w:World) (v:Value) (zs:List (List UInt8 × List RSet)):Prop where
 out:∃ css,Sl 2 w v css∧css.length=zs.length∧∀ (i:Nat) (z:List UInt8 × List RSet),zs[i]? = some z→∃ u,css[i]? = some [aE z.1,u]∧SetsAt w u z.2
theorem ZonesAt.ext {zs:List (List UInt8 × List RSet)} (h:ZonesAt w v zs) (hx:Ext w w'):ZonesAt w' v zs:=by
 obtain ⟨css,h1,h2,h3⟩:=h;exact ⟨css,h1.ext hx,h2,fun i z hi=>let ⟨u,a,b⟩:=h3 i z hi;⟨u,a,b.ext hx⟩⟩
def RZ (o:List UInt8) (l:List RSet) (o':List UInt8) (l':List RSet):List RSet:=if PF o l o' l'=0 then l' else l
def SA (room:Int) (o:List UInt8) (l:List RSet) (ds:List DeltaR) (o':List UInt8) (l':List RSet):List DeltaR:=if PF o l o' l'=0 then MK room (ds ++ [UV o l o l']) else ds
structure JOk (o:List UInt8) (l:List RSet) (room:Int) (ds:List DeltaR):Prop where
 zone:ZoneOk o l
 fits:0≤room∧room≤20
 len:(ds.length:Int)≤room
 each:∀ d ∈ ds,d.gone.length≤4000∧d.new.length≤4000
theorem QI {o':List UInt8} {l l':List RSet} (h:PF o l o' l'=0):o'=o∧ZoneOk o l'∧qZ (gK o l').serial (gK o l).serial=true:=by
 unfold PF at h;split at h
 ·rename_i q;exact absurd h q
 ·rename_i q;split at h
  ·cases h
  ·rename_i q2;have e:o'=o:=by simpa using q2
   subst e;split at h
   ·cases h
   ·rename_i q3;exact ⟨rfl,sC (by simpa using q),by simpa using q3⟩
theorem QJ {l l':List RSet} (h:ZoneOk o l) (h':ZoneOk o l'):(UV o l o l').gone.length≤4000∧(UV o l o l').new.length≤4000:=by
 rw [(UY (SU h h')).2.2.2];have a:=(MJ h).2.2.2;have b:=(MJ h').2.2.2;unfold AM;exact ⟨Nat.le_trans (List.length_filter_le _ _) a,Nat.le_trans (List.length_filter_le _ _) b⟩
theorem JOk.next {l:List RSet} {room:Int} {ds:List DeltaR} (h:JOk o l room ds) (o':List UInt8) (l':List RSet):JOk o (RZ o l o' l') room (SA room o l ds o' l'):=by
 unfold RZ SA;split
 ·rename_i q;obtain ⟨rfl,hz,_⟩:=QI q;refine ⟨hz,h.fits,?_,?_⟩
  ·rw [MQ _ _ h.fits.1];exact Int.min_le_right _ _
  ·intro d hd;rcases List.mem_append.1 (List.mem_of_mem_drop hd) with hd | hd
   ·exact h.each d hd
   ·rw [List.mem_singleton.1 hd];exact QJ h.zone hz
 ·exact h
theorem JOk.small {l:List RSet} {room:Int} {ds:List DeltaR} (h:JOk o l room ds):l.length≤100000∧(∀ s ∈ l,s.data.length≤1000000)∧(∀ s ∈ l,∀ d ∈ s.data,d.length≤4611686018427387904)∧ds.length≤1000∧(∀ d ∈ ds,d.gone.length≤100000∧d.new.length≤100000):=by
 obtain ⟨a,b,c,_⟩:=MJ h.zone;have hl:=h.len;have hr:=h.fits;refine ⟨aC,fun s hs=>by have:=b s hs;omega,fun s hs d hd=>by have:=c s hs d hd;omega,aC,fun d hd=>by have:=h.each d hd;omega⟩
theorem TV (a b:gE) (w:World):Calls Tryz.prog 83 #[.agg #[aE a.1, .int .i64 a.2], .agg #[aE b.1, .int .i64 b.2]] w (bG w (.bool (decide (a.2=b.2) && mG a.1 b.1))):=by
 go_enter Tryz.func83,Tryz.ntmps83
 refine_lift lQ fun _ _ => ?_;refine wN (vs:=[aE a.1, .int .i64 a.2]) fun p w1 x1 hp => ?_;refine aB ?_;refine wN (vs:=[aE b.1, .int .i64 b.2]) fun q w2 x2 hq => ?_;refine aB ?_;have hp2:=hp.ext x2;refine_lift FT (fun hc => ?_) (fun _ _ hc => ?_)
 ·refine bX (vS a.1 b.1 _) fun w3 x3 => ?_;refine_lift aL ?_;go_ret;exact ⟨by simp [*],x1.trans (x2.trans x3)⟩
 ·go_ret;exact ⟨by simp [*],x1.trans x2⟩
def HD (a b:gE):Bool:=decide (a.2=b.2) && mG a.1 b.1
def VL (l m:List gE):Bool:=decide (l.length=m.length) && (l.zip m).all fun x=>HD x.1 x.2
theorem OF {l m:List gE} (h1:k < l.length) (h2:k < m.length):((l.take (k + 1)).zip (m.take (k + 1))).all (fun x=>HD x.1 x.2)=(((l.take k).zip (m.take k)).all (fun x=>HD x.1 x.2) && HD l[k] m[k]):=by
 rw [List.take_succ_eq_append_getElem h1,List.take_succ_eq_append_getElem h2,List.zip_append (by simp;omega),List.all_append];simp
theorem VM (u v:Value) (l m:List gE) (w:World) (hu:Sl 2 w u (cG l)) (hv:Sl 2 w v (cG m)):Calls Tryz.prog 82 #[u,v, .func (.func 83) #[] #[]] w (bG w (.bool (VL l m))):=by
 have hl1:(cG l).length=l.length:=List.length_map ..;have hl2:(cG m).length=m.length:=List.length_map ..;have hle:=hu.le;go_enter Tryz.func82,Tryz.ntmps82
 refine_lift OU (fun _ _ _ => ?_) (fun _ => ?_)
 ·go_ret;refine ⟨?_,Ext.refl _⟩;have hne:¬ l.length=m.length:=by
   have hh:=‹(!decide (((cG l).length:Int)=(cG m).length))=true›;simp only [Bool.not_eq_true',decide_eq_false_iff_not,hl1,hl2] at hh;omega
  simp [VL,hne]
 ·have he:l.length=m.length:=by
   have hh:=‹(!decide (((cG l).length:Int)=(cG m).length))=false›;simp only [Bool.not_eq_false',decide_eq_true_eq,hl1,hl2] at hh;omega
  go_loopw [7,8,9,17] (fun _ _ _ i wr=>∃ k:Nat,k≤l.length∧i=.int .i64 k∧Ext w wr∧((l.take k).zip (m.take k)).all (fun x=>HD x.1 x.2)=true) (fun _ _ _ i _=>l.length - (intOf i).toNat)
  case atStart=>exact ⟨0,Nat.zero_le _,rfl,Ext.refl _,rfl⟩
  case round =>
   obtain ⟨k,hk,rfl,hx,hall⟩:=hrel;have hu2:=hu.ext hx;have hv2:=hv.ext hx;by_cases hlt:k < l.length
   ·have hlm:k < m.length:=aC;have hpa:=hu2.elem (mF hlt);refine_lift rR ?_;intro _ _ _ _ _ _;refine eX (z:=[aE [], .int .i64 0]) fun w2 x2 s2 b2 => ?_;refine aB ?_;refine_lift aL ?_;refine fG (v:=.agg #[aE l[k].1, .int .i64 l[k].2]) b2 (NP rfl rfl) fun w3 p3 => ?_;have x13:=eC x2 p3;have hpl:=aA (cs:=[aE l[k].1, .int .i64 l[k].2]) p3.this;have hv3:=hv2.ext x13;have hpb:=hv3.elem (mF hlm);refine_lift bK fun _ _ => ?_;refine eX (z:=[aE [], .int .i64 0]) fun w4 x4 s4 b4 => ?_;refine aB ?_;refine fG (v:=.agg #[aE m[k].1, .int .i64 m[k].2]) b4 (NP rfl rfl) fun w5 p5 => ?_;have x35:=eC x4 p5;have hpm:=aA (cs:=[aE m[k].1, .int .i64 m[k].2]) p5.this;have hpl5:=hpl.ext x35;refine_lift bK fun _ _ => ?_;refine dY (enters_of Tryz.func83 rfl rfl) rfl rfl rfl (TV l[k] m[k] _) ?_;rintro e w6 ⟨rfl,x6⟩;refine ⟨_,rfl,?_⟩;refine aB ?_;have hx6:=(hx.trans x13).trans (x35.trans x6);cases hp:HD l[k] m[k] with
    | false =>
     rw [show (decide (l[k].2=m[k].2) && mG l[k].1 m[k].1)=false from hp];refine_lift aL ?_;go_ret;refine ⟨?_,hx6⟩;have hn:(l.zip m).all (fun x=>HD x.1 x.2)=false:=by
      rw [List.all_eq_false];refine ⟨(l[k],m[k]),?_,by simp [hp]⟩;have:(l.zip m)[k]? = some (l[k],m[k]):=by rw [List.getElem?_zip_eq_some];exact ⟨List.getElem?_eq_getElem hlt,List.getElem?_eq_getElem hlm⟩
      exact List.mem_of_getElem? this
     simp [VL,hn]
    | true =>
     rw [show (decide (l[k].2=m[k].2) && mG l[k].1 m[k].1)=true from hp];refine_lift aL ?_;exact ⟨⟨k + 1,aC,by go_num,hx6,by rw [OF hlt hlm,hall,hp];rfl⟩,by simp [intOf];omega⟩
   ·have hkl:k=l.length:=aC;rw [hkl,List.take_length,he,List.take_length] at hall;refine_lift lS fun _ => ?_;go_ret;exact ⟨by simp [VL,he,hall],hx⟩
def HE (q m:MsgR):Bool:=m.resp && !q.resp && decide (q.id=m.id) && decide (q.op=0) && decide (m.op=0) && (decide (q.qs.length=1) && VL q.qs m.qs)
theorem KQ (q m:MsgR) (a1 a2 a3 a4 b1 b2 b3 b4:Value) (w:World) (hq:MsgV w q a1 a2 a3 a4) (hm:MsgV w m b1 b2 b3 b4):Calls Tryz.prog 56 #[.agg (aX q a1 a2 a3 a4).toArray, .agg (aX m b1 b2 b3 b4).toArray] w (bG w (.bool (HE q m))):=by
 have hl:(cG q.qs).length=q.qs.length:=List.length_map ..;go_enter Tryz.func56,Tryz.ntmps56
 refine_lift lQ fun _ _ => ?_;refine wN (vs:=aX q a1 a2 a3 a4) fun pq w1 x1 hpq => ?_;refine aB ?_;refine wN (vs:=aX m b1 b2 b3 b4) fun pm w2 x2 hpm => ?_;refine aB ?_;have hpq2:=hpq.ext x2;unfold aX at hpq2 hpm;have hq2:=hq.qs.ext (x1.trans x2);have hm2:=hm.qs.ext (x1.trans x2);have hx:=x1.trans x2;clear hpq
 (repeat' first | ((with_reducible refine eN ?_);go_step) | ((with_reducible refine cB ?_);first | refine iF ?_ | (refine fA ?_ ?_ <;> intro hc)) | fail)
 all_goals first
  | (go_ret
     refine ⟨?_,hx⟩;simp_all [HE]
     done)
  | skip
 ·refine bX (VM a1 b1 q.qs m.qs _ hq2 hm2) fun w3 x3 => ?_;refine_lift aL ?_;go_ret;refine ⟨?_,hx.trans x3⟩;have h1:q.qs.length=1:=aC;simp_all [HE]
 ·go_ret;refine ⟨?_,hx⟩;have h1:¬ q.qs.length=1:=aC;simp_all [HE]
theorem QK {wL:World} {Bo:Nat} {M:NodeM} {S:NodeR} (h:NodeW wL Bo w M S) (hI:S.nt=none) (src now:Int) (m:MsgR) (q a u e:Value):Calls Tryz.prog 34 #[.pointer (some ⟨M.nb,0,none⟩), .int .i64 src, .agg (aX m q a u e).toArray, .int .i64 now] w (fun e w'=>e=.returned (.tuple #[])∧Ext w w'):=by
 have cN:∀ w',Ext w w'→Calls Tryz.prog 42 #[.pointer (some ⟨M.nb,0,none⟩)] w' (pX w' fun r w''=>Own 0 1 3 w'' r []):=fun w' hx=>by
  refine (pP (h.grow hx)).mono ?_;rintro e w'' ⟨r,rfl,hxx,hr⟩;rw [show pF S=[] by rw [pF,hI]] at hr;exact ⟨r,rfl,hxx,hr.weaken (Nat.zero_le _)⟩
 go_enter Tryz.func34,Tryz.ntmps34
 refine_lift yQ ?_;intro _ _ _;refine jS (vs:=aX m q a u e) fun w1 x1 s1 b1 => ?_;refine aB ?_;refine_lift bK fun _ _ => ?_;refine pZ (cN _ x1) fun v w2 x2 o2 => ?_;refine aB ?_;have sl2:=o2.sl;have ul:(([]:List (List Value))).length=0:=rfl;refine_lift aL ?_;go_loopw [18] (fun iv w9=>iv=.int .i64 0∧w9=w2) (fun _ _=>0)
 case atStart=>exact ⟨rfl,rfl⟩
 case round =>
  obtain ⟨rfl,rfl⟩:=hrel;refine_lift lS fun _ => ?_
  go_end0
  exact ⟨rfl,x1.trans x2⟩
theorem Sl.upper (h:Sl k w v es) (hf:From B v) (ha:∀ g,B≤g→g < w.heap.size→w'.heap[g]? = w.heap[g]?):Sl k w' v es:=by
 obtain ⟨a,cap,h1,h2,h3,h4,h5,h6⟩:=h;refine ⟨a,cap,h1,h2,h3,h4,h5,fun hn => ?_⟩;obtain ⟨g,o,e,hc⟩:=h6 hn;have hg:B≤g:=hf g o none _ _ (by rw [h1,e]);refine ⟨g,o,e,fun i e j x h1 h2 => ?_⟩;have h9:=hc i e j x h1 h2;have hlt:g < w.heap.size:=by
  rcases Nat.lt_or_ge g w.heap.size with h8 | h8
  ·exact h8
  ·have:w.heap[g]? = none:=Array.getElem?_eq_none h8;simp [World.cell?,this] at h9
 exact (World.cell?_of_block (ha g hg hlt)).trans h9
theorem VN {α β γ δ:Type} {F:α→β→γ→δ→World→Prop} {G:α→β→γ→δ→World→Prop} {goal:Prop} (h1:(∀ x y z u w',F x y z u w'→G x y z u w')→goal) (h2:∀ x y z u w',F x y z u w'→G x y z u w'):goal:=h1 h2
theorem Kf.fr {T:List TypeId} {N:List Nat} {rb:Nat} {t:TaskR} {rv sv gv ev:Value} (h:TaskV w0 w rb t rv sv gv ev) (f:Fr rb gv w w') (h1:164 ∈ T) (h2:61 ∈ T):Kf T N w w':=by
 refine ⟨fun j cs t fz hj ht => ?_,fun j es c hj _ => ?_⟩
 ·rw [f.block j (Array.getElem?_eq_some_iff.1 hj).1 (by
   rintro rfl;rw [h.blk] at hj;injection (Option.some.inj hj) with _ e2
   exact ht (e2 ▸ h1)) (fun e=>by
   obtain ⟨cur,fz',hq⟩:=h.gs.type e;rw [hq] at hj;injection (Option.some.inj hj) with _ e2
   exact ht (e2 ▸ h2))]
  exact hj
 ·rw [f.block j (Array.getElem?_eq_some_iff.1 hj).1 (by
   rintro rfl;rw [h.blk] at hj;cases hj) (fun e=>by
   obtain ⟨cur,fz',hq⟩:=h.gs.type e;rw [hq] at hj;cases hj)]
  exact hj
def NodeR.tolds (S:NodeR) (x:NTask) (y:WaitR) (t:TaskR) (a:ActR) (s:LrnR) (now:Int):NodeR :=
 ({ S with nt:=some { x with t:=t },C:=(S.C.put s.set s.rank now).1 }:NodeR).done { x with t:=t } y a
theorem QL {wL:World} {Bo:Nat} {M:NodeM} {S:NodeR} (h:NodeW wL Bo w M S) {x:NTask} (hx:S.nt=some x) {y:WaitR} (hy:S.tt=some y) (hn:y.n=x.n) (m:MsgR) (q a u e:Value) {n:Nat} (hm:MsgW B w m q a u e) (hmt:HE x.q m=true) (hB:TaskB x.t n) (hnn:n≤100000) (h1:m.an.length≤300) (h2:m.au.length≤300) (h3:m.ex.length≤300)
 (hd1:∀ z,∀ r ∈ x.t.of m.au z 2,r.data.length≤9223372036854775807) (hd2:∀ n,∀ r ∈ x.t.of m.ex n 1,r.data.length≤9223372036854775807) {t:TaskR} {ac:ActR} {s:LrnR} (hr:x.t.reply m=(t,ac,[s])) (hk:ac.kind=2) (ha:ac.auth=[]) (hl:y.l.length≤10) (h4:S.out.length≤90000) (now:Int) (g0:0≤now) (g1:now≤1099511627776)
 (r1:1≤s.rank) (r2:s.rank≤5) (hc:0≤S.C.calls∧S.C.calls≤1000000000) (hroom:(S.C.l.length:Int) < S.C.room) (hmost:1≤S.C.most∧S.C.most≤2147483647) :
 Calls Tryz.prog 34 #[.pointer (some ⟨M.nb,0,none⟩), .int .i64 x.to, .agg (aX m q a u e).toArray, .int .i64 now] w (fun e w'=>e=.returned (.tuple #[])∧∃ M',M'.nb=M.nb∧NodeW wL Bo w' M' (S.tolds x y t ac s now)∧Ko Bo w w'∧w.heap.size≤w'.heap.size):=by
 have hb:=h.nod.blk;have hp:=aA (cs:=[M.rv, .int .i64 S.bud, .int .i64 S.room, .int .i64 S.most, .int .i64 S.wt, .pointer (some ⟨M.cb,0,none⟩), .pointer (some ⟨M.db,0,none⟩), .pointer (some ⟨M.tb,0,none⟩), .map (some M.mb), .int .i64 (S.sent:Nat),M.ov]) hb;obtain ⟨rb,qv,hN⟩:=h.tsk x hx;have hmap:=h.map;rw [hx] at hmap;have htm:dZ Tryz.prog 66 3 104=true:=zDk;have hzv:∀ w,(zeroValue 104).run Tryz.prog w=.ok (.pointer none) w:=fun w=>by kernel_rfl
 have cN:∀ w',Ext w w'→Calls Tryz.prog 42 #[.pointer (some ⟨M.nb,0,none⟩)] w' (pX w' fun r w''=>Own 0 1 3 w'' r [[.int .i64 x.n]]):=fun w' hx'=>by
  refine (pP (h.grow hx')).mono ?_;rintro e w'' ⟨r,rfl,hxx,hr⟩;rw [show pF S=[x.n] by rw [pF,hx]] at hr;exact ⟨r,rfl,hxx,hr.weaken (Nat.zero_le _)⟩
 go_enter Tryz.func34,Tryz.ntmps34
 refine_lift yQ ?_;intro _ _ _;refine jS (vs:=aX m q a u e) fun w1 x1 s1 b1 => ?_;refine aB ?_;refine_lift bK fun _ _ => ?_;refine pZ (cN _ x1) fun v w2 x2 o2 => ?_;refine aB ?_;have sl2:=o2.sl;have x02:=x1.trans x2;have hp2:=hp.ext x02;have hel:=sl2.elem (i:=0) rfl;have hlk:=eO (i:=0) nV htm hzv (hmap.ext x02) (x:=.int .i64 x.n) (v:=.pointer (some ⟨M.sb,0,none⟩)) ⟨_,rfl⟩ rfl (by simp [OK]) false;clear hp;refine_lift aL ?_;go_loopw [18] (fun iv w9=>iv=.int .i64 0∧w9=w2) (fun _ _=>0)
 case atStart=>exact ⟨rfl,rfl⟩
 case round =>
  obtain ⟨rfl,rfl⟩:=hrel;refine_lift rR ?_;intro _ _ _ _ _ _;refine aG (v:=.pointer (some ⟨M.sb,0,none⟩)) (Runs.lookup rfl rfl hlk) ?_;refine aB ?_;have bS:=x02.at hN.blk;have bM:=x2.at b1;have hpS:Pts wr (aP (.pointer (some ⟨M.sb,0,none⟩)) 5) [.int .i64 x.to]:=((aA bS).part 5).front 1;have hpQ:Pts wr (aP (.pointer (some ⟨M.sb,0,none⟩)) 6) (aX x.q qv cI cI cI):=((aA bS).part 6).front 13;have hpM:=aA (cs:=aX m q a u e) bM;unfold aX at hpQ hpM;have hmq:MsgV wr x.q qv cI cI cI:=⟨(hN.row.ext x02).sl,by rw [hN.nil.1];exact Sl.nil _ _,by rw [hN.nil.2.1];exact Sl.nil _ _,by rw [hN.nil.2.2];exact Sl.nil _ _⟩;have hmr:=hm.ext x02;have hck:∀ w',Ext wr w'→Calls Tryz.prog 56 #[.agg (aX x.q qv cI cI cI).toArray, .agg (aX m q a u e).toArray] w' (bG w' (.bool true)):=fun w' hx'=>by
   have:=KQ x.q m qv cI cI cI q a u e w' (hmq.ext hx') (hmr.ext hx').msg;rw [hmt] at this;exact this
  refine_lift jH fun _ _ _ _ => ?_;refine eB zDk zDk ?_;refine_lift vF ?_;refine fH (v:=aP (.pointer (some ⟨M.sb,0,none⟩)) 5) (fun w' x'=>by apply Runs.fieldLitK (k:=2);rfl;decide +kernel) ?_;refine aB ?_;refine_lift vF ?_;refine fH (v:=aP (.pointer (some ⟨M.sb,0,none⟩)) 6) (fun w' x'=>by apply Runs.fieldLitK (k:=2);rfl;decide +kernel) ?_;refine aB ?_;refine_lift vF ?_;refine vZ (enters_of Tryz.func56 rfl rfl) rfl rfl (fun w' x'=>hck w' x') ?_;refine aB ?_;refine_lift vF ?_;intro w3 x3;refine_lift bK fun _ _ => ?_;have x03:=x02.trans x3;have hp0:Pts w3 (aP (.pointer (some ⟨M.sb,0,none⟩)) 0) [.pointer (some ⟨rb,0,none⟩)]:=((aA (x3.at bS)).part 0).front 1;have hpM3:=hpM.ext x3;have hm3:=hm.ext x03;obtain ⟨rv,sv,gv,ev,hTV⟩:=hN.tsk.grow x03;have cR:∀ w',Ext w3 w'→Calls Tryz.prog 57 #[.pointer (some ⟨rb,0,none⟩), .agg (aX m q a u e).toArray] w' (RRet wL w' rb gv (t,ac,[s])):=fun w' hx'=>by
   have hT':=hTV.grow hx';have hm':=hm3.ext hx';have:=PR hT' hB hnn m q a u e (fun w'' hv=>⟨(hm'.oq.mv hv (.inr (hm'.oq.neBlock hT'.blk aH))).sl,(hm'.oa.mv hv (.inr (hm'.oa.neBlock hT'.blk aH))).sl,(hm'.ou.mv hv (.inr (hm'.ou.neBlock hT'.blk aH))).sl,(hm'.oe.mv hv (.inr (hm'.oe.neBlock hT'.blk aH))).sl⟩) h1 h2 h3 hd1 hd2;rw [hr] at this;exact this
  clear hpS hpQ hpM hmq hmr hck hp2 hel hlk cN;refine aV 5 (Ext w3) zDk ?_;intro w4 x4 _;refine ⟨x4,?_⟩;refine bH 0 ?_;refine bH 1 ?_;refine bH 2 ?_;refine bH 3 ?_;refine bH 4 ?_;have y4:=x4.size;apply VN (F:=fun (k:Nat) (v1 v2 l:Value) w'=>w3.heap.size≤k∧w'.heap[k]? = some (.cells (cY ac v1 v2).toArray 110 (0,0))∧ActRet wL rb (t,ac) (.agg (cY ac v1 v2).toArray) w'∧LrnsV w3.heap.size w' l [s]∧Kf [164,61,110] [] w3 w'∧w3.heap.size≤w'.heap.size)
  ·intro hG;refine HO (i:=5) (j:=9) zDk rfl rfl rfl ?_ ?_
   ·refine fY (cR _ x4) ?_;rintro _ w5 ⟨u',l,rfl,hA,hL,hF⟩;refine ⟨_,rfl,?_⟩;refine aB ?_;refine aD ⟨aQ rfl,?_⟩;refine eH 6 ?_;refine eH 7 ?_;refine eH 8 ?_;refine eF 9 ?_;refine eX (z:=dU) fun w6 x6 s6 b6 => ?_;refine aB ?_;refine aD ⟨aQ rfl,?_⟩;refine eF 10 ?_;obtain ⟨v1,v2,rfl,o1,o2⟩:=hA.1.out;refine fG (v:=.agg (cY ac v1 v2).toArray) b6 (kW o1.one o2.one) fun w7 p7 => ?_;refine aD ⟨aQ rfl,?_⟩;refine eH 11 ?_;have x57:=eC x6 p7;have y5:w3.heap.size≤w5.heap.size:=Nat.le_trans y4 hF.size;have y57:=x57.size;have b7:=p7.this;have kF:Kf [164,61] [] w3 w7:=(Kf.of x4).trans ((Kf.fr (hTV.grow x4) hF bE bE).trans (Kf.of x57));have hA7:=hA.ext x57;have hL7:=(hL.ext x57).weaken y4;clear p7 x6;generalize w5.heap.size=k at *;exact hG k v1 v2 l w7 ⟨y5,b7,hA7,hL7,kF.mono bE bE,aC⟩
   ·refine eX (z:=dU) fun w5 x5 s5 b5 => ?_;refine aB ?_;have x45:=x4.trans x5;refine aD ⟨aZ x45,?_⟩;refine eF 5 ?_;refine fY (cR _ x45) ?_;rintro _ w6 ⟨u',l,rfl,hA,hL,hF⟩;refine ⟨_,rfl,?_⟩;refine aB ?_;refine aD ⟨aQ rfl,?_⟩;refine eH 6 ?_;refine eH 7 ?_;refine eH 8 ?_;have kF:Kf [164,61] [] w3 w6:=(Kf.of x45).trans (Kf.fr (hTV.grow x45) hF bE bE);have b6:=(Kf.fr (T:=[164,61]) (N:=[]) (hTV.grow x45) hF bE bE).cells _ _ _ _ b5 aH;refine eF 10 ?_;obtain ⟨v1,v2,rfl,o1,o2⟩:=hA.1.out;refine fG (v:=.agg (cY ac v1 v2).toArray) b6 (kW o1.one o2.one) fun w7 p7 => ?_;refine aD ⟨aQ rfl,?_⟩;refine eH 11 ?_;have y6:w5.heap.size≤w6.heap.size:=hF.size;have y67:=p7.size;have b7:=p7.this;have y5:=x45.size;have z03:=x03.size;have zL:=h.ext.size;have hA7:ActRet wL rb (t,ac) (.agg (cY ac v1 v2).toArray) w7:=by
     obtain ⟨rv',sv',gv',ev',hT'⟩:=hA.2;refine ⟨hA.1.put p7 b6 aH,rv',sv',gv',ev',hT'.other p7 b6 aC⟩
    have hL7:LrnsV w3.heap.size w7 l [s]:=(hL.mvb p7.mv aC).weaken y5;have kF7:=kF.mono (T':=[164,61,110]) (M':=[]) bE bE;have kA:=kF7.trans (Kf.put p7 b6 bE);clear p7 b6;generalize w4.heap.size=k at *;exact hG k v1 v2 l w7 ⟨y4,b7,hA7,hL7,kA,aC⟩
  rintro k v1 v2 l w8 ⟨g8,b8,hA8,hL8,k8,y8⟩;refine nX ?_;have hll:([s]:List LrnR).length=1:=rfl;obtain ⟨css,lo,llen,lel⟩:=hL8.out;obtain ⟨xv,lc,lx,lf,_⟩:=lel 0 s rfl;have lsl:=lo.sl;have lle:css.length=1:=llen;have hE8:Ext wL w8:=by
   obtain ⟨rv',sv',gv',ev',hT'⟩:=hA8.2;exact hT'.ext
  have y03:=x03.size;have k08:Kf [164,61,110] [] w w8:=(Kf.of x03).trans k8;have h8:NodeW wL Bo w8 M { S with nt:=some { x with t:=t } }:=by
   refine ⟨hE8,h.nod.keep k08 aC aH aH,h.rts.keep k08.keep aH,h.cac.keep k08 bE aH aH aH,h.den.keep k08 aH,h.tab.keep k08 bE aH aH aH,h.gm,hmap.keep k08 bE,?_,h.ne⟩;rintro z ⟨⟩;exact ⟨rb,qv,hN.ge,k08.cells _ _ _ _ hN.blk aH,hA8.2,hN.row.keep k08.keep aH,hN.nil⟩
  refine_lift bK fun _ _ => ?_;clear hr hd1 hd2 hB cR hTV hm hm3 hmap;go_loopw [14,54] (fun _ iv wr=>(iv=.int .i64 0∧wr=w8)∨(iv=.int .i64 1∧CacheAt wL.heap.size wr M.cb M.em (S.C.put s.set s.rank now).1∧Kf cT [M.em] w8 wr∧Lo wL.heap.size w8 wr)) (fun _ iv _=>1 - (intOf iv).toNat)
  case atStart=>exact .inl ⟨rfl,rfl⟩
  case round =>
   rcases hrel with ⟨rfl,rfl⟩ | ⟨rfl,c9,k9,l9⟩
   ·have hel:=lsl.elem lc;unfold yY at hel;refine_lift rR ?_;intro _ _ _ _ _ _;refine eX (z:=[aE [], .int .i64 0, .int .i64 0, .slice none 0 0, .int .i64 0]) fun w9 x9 s9 b9 => ?_;refine aB ?_;refine fG (v:=.agg #[aE s.set.name, .int .i64 s.set.kind, .int .i64 s.set.ttl,xv, .int .i64 s.rank]) b9 (by obtain ⟨_,_,_,e9⟩:=lx.slf;rw [e9];simp [Value.cells,aE,Value.oneCell']) fun w10 p10 => ?_;have x810:=eC x9 p10;have b10:w10.heap[wr.heap.size]? = some (.cells [aE s.set.name, .int .i64 s.set.kind, .int .i64 s.set.ttl,xv, .int .i64 s.rank].toArray 139 (0,0)):=p10.this;have hps:Pts w10 (aP (.pointer (some ⟨wr.heap.size,0,none⟩)) 0) [aE s.set.name, .int .i64 s.set.kind, .int .i64 s.set.ttl,xv]:=((aA b10).part 0).front 4;have h10:=h8.grow x810;have hp10:=aA (cs:=[M.rv, .int .i64 S.bud, .int .i64 S.room, .int .i64 S.most, .int .i64 S.wt, .pointer (some ⟨M.cb,0,none⟩), .pointer (some ⟨M.db,0,none⟩), .pointer (some ⟨M.tb,0,none⟩), .map (some M.mb), .int .i64 (S.sent:Nat),M.ov]) h10.nod.blk;clear hel b9 p10;refine_lift SI ?_;refine aV 9 (Ext w10) zDk ?_;intro w11 x11 _;refine ⟨x11,?_⟩;refine bH 0 ?_;refine bH 1 ?_;refine bH 2 ?_;refine bH 3 ?_;refine bH 4 ?_;refine bH 5 ?_;clear hps;have hpl:=aA b10;refine bH 6 ?_;refine bH 7 ?_;refine bH 8 ?_;refine eF 9 ?_;refine fY (TP (h10.cac.ext x11) s.set xv s.rank now (fun w' hs' ha'=>((lx.ext (x810.trans x11)).upper lf fun g hg hlt=>ha' g hlt (by
     obtain ⟨gs,hC⟩:=h.cac;have:=(Array.getElem?_eq_some_iff.1 hC.blk).1;omega) (by
     obtain ⟨gs,hC⟩:=h.cac;have:=hC.map.lt;omega))) g0 g1 r1 r2 hc hroom hmost) ?_
    rintro _ w12 ⟨rfl,c12,k12,l12⟩;refine ⟨_,rfl,?_⟩;refine aB ?_;refine aD ⟨aQ rfl,?_⟩;refine nX ?_;refine_lift aL ?_;exact ⟨.inr ⟨rfl,c12,(Kf.of (x810.trans x11)).trans k12,(Lo.of (x810.trans x11)).trans l12⟩,by simp [intOf]⟩
   ·have b9:=k9.cells _ _ _ _ b8 aH;have hpa9:=aA (cs:=[.int .i64 ac.kind, .int .i64 ac.to,aE ac.qn, .int .i64 ac.qt, .int .i64 ac.code,v1,v2]) b9;have hE9:=l9.ext hE8 (Nat.le_refl _);have h9:NodeW wL Bo wr M { S with nt:=some { x with t:=t },C:=(S.C.put s.set s.rank now).1 }:=by
     refine ⟨hE9,h8.nod.keep k9 l9.size aH aH,h8.rts.keep k9.keep aH,c9,h8.den.keep k9 aH,h8.tab.keep k9 (by simp [h.ne.1.symm]) aH aH aH,h.gm,h8.map.keep k9 (by simp [h.ne.2.1.symm]),fun z hz => ?_,h.ne⟩;obtain ⟨rb',qv',hN'⟩:=h8.tsk z hz;exact ⟨rb',qv',hN'.keep k9 hE9 aH aH aH aH aH aH⟩
    have hA9:ActV wr (.agg (cY ac v1 v2).toArray) ac:=by
     obtain ⟨u1,u2,e1,e2,e3⟩:=hA8.1.out;exact ⟨u1,u2,e1,e2.keep k9.keep aH,e3.keep k9.keep aH⟩
    clear lsl;refine_lift mS fun _ _ _ => ?_;refine fY (IR h9 rfl hy hn ac _ hA9 hk ha now hl h4) ?_;rintro _ w10 ⟨rfl,ov,h10,f10,l10⟩;refine ⟨_,rfl,?_⟩;refine aB ?_;refine_lift aL ?_;exact bodyPost_ret (results_none rfl _ _ _) rfl ⟨rfl,{ M with ov:=ov },rfl,h10,(Ko.kf k08 aH).trans ((Ko.kf k9 aH).trans f10),by have:=l9.size;have:=l10.size;omega⟩
theorem pR {wL:World} {M:NodeM} {S:NodeR} (h:NodeI wL w M S) (src now:Int) (s:List UInt8) (hs:s.length≤1000000) (c1:0≤src∧src≤99) (c2:0≤now∧now≤1099511627776) {m:MsgR} (hd:cK s=(m,0)) (hr:m.resp=false) (q:gE) (hop:m.op=0) (hqs:m.qs=[q]) (ok:AskOk S q now) :
 Calls Tryz.prog 12 #[.pointer (some ⟨M.nb,0,none⟩), .int .i64 src,aE s, .int .i64 now] w (lD wL w M (S.ask ⟨src,m.id,q.1⟩ q now) (S.C.l=[]∧S.tt=none) [M.tb,M.tm,M.mb]):=by
 refine CM h src now s hs c1 c2 hd fun w2 qv a u x hx hn hm => ?_;rw [if_neg (by rw [hr];simp)];refine (VK hn src now m qv a u x hm.msg q hop hqs ok).mono ?_;rintro e w3 ⟨rfl,M',h1,h2,h3,h4,h5⟩;exact ⟨rfl,M',h1,h2,h3,fun hP=>⟨h5 hP.1 hP.2,fun h=>by cases h⟩,h4.size⟩
theorem QM {wL:World} {M:NodeM} {S:NodeR} (h:NodeI wL w M S) (src now:Int) (s:List UInt8) (hs:s.length≤1000000) (c1:0≤src∧src≤99) (c2:0≤now∧now≤1099511627776) {m:MsgR} (hd:cK s=(m,0)) (hr:m.resp=true) (hI:S.nt=none) :
 Calls Tryz.prog 12 #[.pointer (some ⟨M.nb,0,none⟩), .int .i64 src,aE s, .int .i64 now] w (lD wL w M S True []):=by
 refine CM h src now s hs c1 c2 hd fun w2 qv a u x hx hn hm => ?_;rw [if_pos hr];refine (QK hn hI src now m qv a u x).mono ?_;rintro e w3 ⟨rfl,hx3⟩;exact ⟨rfl,M,rfl,hn.grow hx3,Ko.of hx3,fun _=>⟨Bn.of hx3,fun _=>⟨rfl,rfl,rfl⟩⟩,hx3.size⟩
theorem QN {wL:World} {M:NodeM} {S:NodeR} (h:NodeI wL w M S) (now:Int) (s:List UInt8) (hs:s.length≤1000000) {x:NTask} (hx:S.nt=some x) (c1:0≤x.to∧x.to≤99) (c2:0≤now∧now≤1099511627776) {m:MsgR} (hd:cK s=(m,0)) (hr:m.resp=true)
 {y:WaitR} (hy:S.tt=some y) (hn:y.n=x.n) {n:Nat} (hmt:HE x.q m=true) (hB:TaskB x.t n) (hnn:n≤100000) (h1:m.an.length≤300) (h2:m.au.length≤300) (h3:m.ex.length≤300)
 (hd1:∀ z,∀ r ∈ x.t.of m.au z 2,r.data.length≤9223372036854775807) (hd2:∀ n,∀ r ∈ x.t.of m.ex n 1,r.data.length≤9223372036854775807) {t:TaskR} {ac:ActR} {l:LrnR} (hrp:x.t.reply m=(t,ac,[l])) (hk:ac.kind=2) (ha:ac.auth=[]) (hl:y.l.length≤10)
 (r1:1≤l.rank) (r2:l.rank≤5) (hc:0≤S.C.calls∧S.C.calls≤1000000000) (hroom:(S.C.l.length:Int) < S.C.room) (hmost:1≤S.C.most∧S.C.most≤2147483647) :
 Calls Tryz.prog 12 #[.pointer (some ⟨M.nb,0,none⟩), .int .i64 x.to,aE s, .int .i64 now] w (lD wL w M (S.tolds x y t ac l now) False []):=by
 refine CM h x.to now s hs c1 c2 hd fun w2 qv a u e hx2 hn2 hm => ?_;rw [if_pos hr];refine (QL hn2 hx hy hn m qv a u e hm hmt hB hnn h1 h2 h3 hd1 hd2 hrp hk ha hl (by rw [h.out];simp) now c2.1 c2.2 r1 r2 hc hroom hmost).mono ?_;rintro e w3 ⟨rfl,M',g1,g2,g3,g4⟩;exact ⟨rfl,M',g1,g2,g3,fun hP=>hP.elim,g4⟩
theorem CO {wL:World} {Bo:Nat} {M:NodeM} {S:NodeR} (h:NodeW wL Bo w M S):Calls Tryz.prog 17 #[.pointer (some ⟨M.nb,0,none⟩)] w (bG w (.int .i64 (S.sent:Nat))):=by
 have hp:=aA (cs:=[M.rv, .int .i64 S.bud, .int .i64 S.room, .int .i64 S.most, .int .i64 S.wt, .pointer (some ⟨M.cb,0,none⟩), .pointer (some ⟨M.db,0,none⟩), .pointer (some ⟨M.tb,0,none⟩), .map (some M.mb), .int .i64 (S.sent:Nat),M.ov]) h.nod.blk;go_enter Tryz.func17,Tryz.ntmps17
 refine_lift aL ?_;go_ret;exact ⟨rfl,Ext.refl _⟩
theorem pS {wL:World} {Bo:Nat} {M:NodeM} {S:NodeR} (h:NodeW wL Bo w M S):Calls Tryz.prog 18 #[.pointer (some ⟨M.nb,0,none⟩)] w (bG w (.int .i64 (if S.nt.isSome then 1 else 0))):=by
 have hp:=aA (cs:=[M.rv, .int .i64 S.bud, .int .i64 S.room, .int .i64 S.most, .int .i64 S.wt, .pointer (some ⟨M.cb,0,none⟩), .pointer (some ⟨M.db,0,none⟩), .pointer (some ⟨M.tb,0,none⟩), .map (some M.mb), .int .i64 (S.sent:Nat),M.ov]) h.nod.blk;have hm:=h.map;go_enter Tryz.func18,Tryz.ntmps18
 refine_lift bK fun _ _ => ?_;refine aG (Runs.lenM rfl hm (zDk:dZ Tryz.prog 66 3 104=true)) ?_;refine aB ?_;refine_lift aL ?_;go_ret;refine ⟨?_,Ext.refl _⟩;cases h9:S.nt <;> simp [OK]
theorem QO (w:World):Calls Tryz.prog 17 #[.pointer none] w (bG w (.int .i64 0)):=by
 go_enter Tryz.func17,Tryz.ntmps17
 refine_lift aL ?_;go_ret;exact ⟨rfl,Ext.refl _⟩
theorem HF (w:World):Calls Tryz.prog 18 #[.pointer none] w (bG w (.int .i64 0)):=by
 go_enter Tryz.func18,Tryz.ntmps18
 refine_lift aL ?_;go_ret;exact ⟨rfl,Ext.refl _⟩
theorem QP (now:Int) (w:World):Calls Tryz.prog 19 #[.pointer none, .int .i64 now] w (bG w (.slice none 0 0)):=by
 go_enter Tryz.func19,Tryz.ntmps19
 refine_lift aL ?_;go_ret;exact ⟨rfl,Ext.refl _⟩
def lq:gE:=([1,88,1,97],1)
def qM (id:Int) (q:gE):MsgR:={ zeroM with id:=id,want:=true,qs:=[q] }
def qB (id:Int) (q:gE):List UInt8:=(aT (qM id q)).1
def lS0:NodeR:=NodeR.new [3] 5 9 100 4
def lS1:NodeR:=lS0.ask ⟨7,5,lq.1⟩ lq 1
def TW:NodeR:={ lS1 with out:=[] }
def lS2:NodeR:=TW.ask ⟨8,6,lq.1⟩ lq 1
theorem VO:cK (qB 5 lq)=(qM 5 lq,0):=zDk
theorem VP:cK (qB 6 lq)=(qM 6 lq,0):=zDk
theorem VQ:cK (qB 9 lq)=(qM 9 lq,0):=zDk
def lA:ActR:=(bV lq.1 lq.2 [3] 5).on.2
def lX:NTask:=(⟨1,(bV lq.1 lq.2 [3] 5).on.1,[],0,lq.1,lq.2,0,zeroM,0⟩:NTask).send 0 lA 5
theorem VR:lS1.nt=some lX:=rfl
def lM:MsgR:={ zeroM with id:=lX.q.id,resp:=true,qs:=lX.q.qs,an:=[⟨[1,120,1,97],1,9,[49,50,51,52]⟩] }
def lB:List UInt8:=(aT lM).1
theorem VS:cK lB=(lM,0):=zDk
theorem VT:HE lX.q lM=true:=zDk
def lR:=lX.t.reply lM
def lT:TaskR:=lR.1
def XO:ActR:=lR.2.1
def lL:LrnR:=lR.2.2.headD ⟨⟨[],0,0,[]⟩,0⟩
theorem TX:lX.t.reply lM=(lT,XO,[lL]):=by
 show (lR.1,lR.2.1,lR.2.2)=_;rw [show lR.2.2=[lL] by decide +kernel];rfl
def lY:WaitR:=⟨1,fold lq.1,1,[⟨7,5,lq.1⟩,⟨8,6,lq.1⟩]⟩
def VU:NodeR:={ lS2 with out:=[] }
def lS3:NodeR:=VU.tolds lX lY lT XO lL 2
def KR:NodeR:={ lS3 with out:=[] }
def lS4:NodeR:=KR.ask ⟨7,9,lq.1⟩ lq 3
theorem VW:cK (aT lX.q).1=(lX.q,0):=zDk
theorem VX:lS3.out.map (·.1)=[7,8]:=zDk
theorem VY:lS4.out.map (·.1)=[7]:=zDk
theorem SB:lS4.sent=1∧lS4.nt.isSome=false:=zDk
theorem VZ:(aT lM).2=0:=zDk
theorem TY:AskOk lS0 lq 1:=by
 refine ⟨by decide,by decide +kernel,by decide,by decide,by decide +kernel,by decide +kernel,by decide,by decide,by decide,by decide,by decide,by decide,?_,fun _=>rfl,?_,fun _=>rfl⟩
 ·intro y h;cases h
 ·intro i e h;cases h
theorem TZ:AskOk TW lq 1:=by
 refine ⟨by decide,by decide +kernel,by decide,by decide,by decide +kernel,by decide +kernel,by decide +kernel,by decide +kernel,by decide +kernel,by decide +kernel,by decide +kernel,by decide +kernel,?_,?_,?_,fun _=>rfl⟩
 ·intro y h;have h:some (⟨1,fold lq.1,1,[⟨7,5,lq.1⟩]⟩:WaitR)=some y:=h;cases h
  decide +kernel
 ·intro h;cases h
 ·intro i e h;have h:(none:Option (Nat × EntR))=some (i,e):=h;cases h
theorem OG:(KR.C.hit (fold lq.1) lq.2 3).isSome=true∧(∀ z,KR.C.hit (fold lq.1) lq.2 3=some z→3≤z.2.rank∧z.2.till≤1000000000000000000∧(bT [⟨z.2.s.name,z.2.s.kind,z.2.till - 3,z.2.s.data⟩]).length≤100000):=by
 refine ⟨by decide +kernel,fun z hz => ?_⟩;have h2:((KR.C.hit (fold lq.1) lq.2 3).map fun z=>decide (3≤z.2.rank) && decide (z.2.till≤1000000000000000000) && decide ((bT [⟨z.2.s.name,z.2.s.kind,z.2.till - 3,z.2.s.data⟩]).length≤100000))=some true:=zDk;rw [hz] at h2
 simpa [and_assoc] using h2
theorem UA:AskOk KR lq 3:=by
 refine ⟨by decide,by decide +kernel,by decide,by decide,by decide +kernel,by decide +kernel,by decide +kernel,by decide +kernel,by decide +kernel,by decide +kernel,by decide +kernel,by decide +kernel,?_,fun _=>rfl,fun i e h=>OG.2 _ h,fun h => ?_⟩
 ·intro y h;cases h
 ·have:=OG.1;rw [h] at this;cases this
theorem WA:TaskB lX.t 10:=by
 refine ⟨by decide +kernel,by decide +kernel,by decide +kernel,by decide +kernel,by decide +kernel,?_⟩;intro a h;cases h
theorem Own.ko (h:Own B k e w v es) (hk:Ko w.heap.size w w') (he:e ∉ kT):Own B k e w' v es:=h.same fun r hr=>by
 obtain ⟨cur,fz,hq⟩:=h.type hr;rw [hq,hk r _ _ _ (Array.getElem?_eq_some_iff.1 hq).1 he hq]
theorem QR {l:List gN} (h:l.map (·.1)=[7,8]):∃ b1 b2,l=[(7,b1),(8,b2)]:=by
 match l,h with
 | [(a,b1),(c,b2)],h =>
  simp at h;exact ⟨b1,b2,by rw [h.1,h.2]⟩
theorem QS {l:List gN} (h:l.map (·.1)=[7]):∃ b,l=[(7,b)]:=by
 match l,h with
 | [(a,b)],h =>
  simp at h;exact ⟨b,by rw [h]⟩
theorem vX (id:Int) (q:gE) (w:World):Calls Tryz.prog 13 #[.int .i64 id, .agg #[aE q.1, .int .i64 q.2]] w (bG w (aE (qB id q))):=by
 go_enter Tryz.func13,Tryz.ntmps13
 refine_lift lQ fun _ _ => ?_;refine jS (vs:=[aE q.1, .int .i64 q.2]) fun w1 x1 s1 b1 => ?_;refine aB ?_;have hpq:=aA (cs:=[aE q.1, .int .i64 q.2]) b1;refine_lift bK fun _ _ => ?_;refine qP (e:=28) (k:=2) (bytes:=24) (xs:=[.agg #[aE q.1, .int .i64 q.2]]) (by simp [Value.cells]) fun v2 w2 x2 _ sl2 _ => ?_;refine aB ?_;obtain ⟨ad2,cap2,rfl⟩:∃ a n,v2=.slice a 1 n:=by
  obtain ⟨a,n,e,_⟩:=sl2;exact ⟨a,n,e⟩
 refine aG (v:=.agg (aX (qM id q) (.slice ad2 1 cap2) cI cI cI).toArray) (Runs.build (vals:=[(0, .int .i64 id),(5, .bool true),(8, .slice ad2 1 cap2)]) rfl (by kernel_rfl)) ?_;refine aB ?_;have hm2:MsgV w2 (qM id q) (.slice ad2 1 cap2) cI cI cI:=⟨sl2,Sl.nil _ _,Sl.nil _ _,Sl.nil _ _⟩;refine_lift aL ?_;refine bX (kN hm2) fun w3 x3 => ?_;refine_lift aL ?_;go_ret;exact ⟨rfl,x1.trans (x2.trans x3)⟩
theorem dW (w:World):Calls Tryz.prog 9 #[] w (bG w (.bool true)):=by
 go_enter Tryz.func9,Tryz.ntmps9
 refine_lift bK fun _ _ => ?_;refine qP (e:=3) (k:=1) (bytes:=8) (xs:=[.int .i64 3]) (by simp [Value.cells]) fun v1 w1 x1 _ sl1 _ => ?_;refine aB ?_;obtain ⟨ad1,cap1,rfl⟩:∃ a n,v1=.slice a 1 n:=by
  obtain ⟨a,n,e,_⟩:=sl1;exact ⟨a,n,e⟩
 refine aG (v:=.agg #[.slice ad1 1 cap1, .int .i64 5, .int .i64 9, .int .i64 100, .int .i64 4]) (Runs.build (vals:=[(0, .slice ad1 1 cap1),(1, .int .i64 5),(2, .int .i64 9),(3, .int .i64 100),(4, .int .i64 4)]) rfl (by kernel_rfl)) ?_;refine aB ?_;refine_lift aL ?_;refine pZ (AZ (.slice ad1 1 cap1) [3] 5 9 100 4 w1 sl1 aH aH aH aH aH aH) ?_;rintro _ w2 x2 ⟨M,rfl,hov,h2⟩;refine aB ?_;refine_lift bK fun _ _ => ?_;refine aG (v:=.agg #[.slice none 0 0, .int .i64 0, .int .i64 0, .int .i64 0, .int .i64 0]) (Runs.build0 (by kernel_rfl)) ?_;refine aB ?_;refine_lift aL ?_;refine bX (OE _) fun w3 x3 => ?_;have h3:NodeI w1 w3 M lS0:=(h2.idle hov rfl).grow x3;clear h2;refine_lift bK fun _ _ => ?_;refine aG (v:=.agg #[aE lq.1, .int .i64 lq.2]) (Runs.build (vals:=[(0,aE lq.1),(1, .int .i64 lq.2)]) rfl (by kernel_rfl)) ?_;refine aB ?_;refine eX (z:=[aE [], .int .i64 0]) fun w4 x4 s4 b4 => ?_;refine aB ?_;refine fG (v:=.agg #[aE lq.1, .int .i64 lq.2]) b4 (by simp [Value.cells,aE,Value.oneCell']) fun w5 p5 => ?_;have x35:=eC x4 p5;have b5:=p5.this;have hpq5:=aA (cs:=[aE lq.1, .int .i64 lq.2]) b5;have h5:=h3.grow x35;refine_lift bK fun _ _ => ?_;refine bX (vX 5 lq _) fun w6 x6 => ?_;refine_lift aL ?_;have hA:=pR (h5.grow x6) 7 1 (qB 5 lq) zDk aH aH VO rfl lq rfl rfl TY;unfold lD at hA;refine fY hA ?_;rintro _ w7 ⟨r7,M7,rfl,n7,h7,o7,k7,_,z7⟩;refine ⟨_,rfl,?_⟩;refine aB ?_;have z6:=x6.size;have lb5:w3.heap.size < w5.heap.size:=(Array.getElem?_eq_some_iff.1 b5).1;have b7:=k7 _ _ _ _ aC aH (x6.at b5);have hpq7:=aA (cs:=[aE lq.1, .int .i64 lq.2]) b7;clear hpq5;have h7:NodeI w1 w7 M7 TW:=h7;have o7:Own w6.heap.size 2 50 w7 r7 (bU lS1.out):=o7;refine_lift bK fun _ _ => ?_;refine bX (vX 6 lq _) fun w8 x8 => ?_;refine_lift aL ?_;have hA:=pR (h7.grow x8) 8 1 (qB 6 lq) zDk aH aH VP rfl lq rfl rfl TZ;rw [n7] at hA;unfold lD at hA;refine fY hA ?_;rintro _ w9 ⟨r9,M9,rfl,n9,h9,o9,k9,_,z9⟩;refine ⟨_,rfl,?_⟩;refine aB ?_;have z8:=x8.size;have h9:NodeI w1 w9 M9 VU:=h9;have b9:=k9 _ _ _ _ aC aH (x8.at b7);have hpq9:=aA (cs:=[aE lq.1, .int .i64 lq.2]) b9;have o7':=(o7.ext x8).ko k9 aH;have sl7:Sl 2 w9 r7 [[.int .i64 3,aE (aT lX.q).1]]:=o7'.sl;have sl9:Sl 2 w9 r9 []:=o9.sl;have n9':=n9.trans n7;have hel:=sl7.elem (i:=0) rfl;clear hpq7;refine_lift RH (fun hc hc => ?_) (fun hc => ?_) (fun hc hc _ _ => ?_)
 rotate_left
 ·simp at hc
 ·first | (simp at hc;done) | (rename_i hz;simp at hz)
 have cD:=mJ (w:=w9) (aT lX.q).1 zDk;unfold pN at cD;rw [VW] at cD;refine fY cD ?_;rintro _ w10 ⟨qv,av,uv,ev,rfl,⟨q1,q2,q3,q4⟩,x10⟩;refine ⟨_,rfl,?_⟩;refine aB ?_;refine_lift aL ?_;refine eX (z:=jL) fun w11 x11 s11 b11 => ?_;refine aB ?_;have hm10:MsgV w10 lX.q qv av uv ev:=⟨q1.sl,q2.sl,q3.sl,q4.sl⟩;refine fG (v:=.agg (aX lX.q qv av uv ev).toArray) b11 (gP (hm10.ext x11)) fun w12 p12 => ?_;have x12:=x10.trans (eC x11 p12);have x1012:=eC x11 p12;have hpm:=aA (cs:=aX lX.q qv av uv ev) p12.this;unfold aX at hpm;have sq:Sl 2 w12 qv (cG lX.q.qs):=(q1.ext x1012).sl;obtain ⟨ad3,cap3,rfl⟩:∃ a n,qv=.slice a 1 n:=by
  obtain ⟨a,n,e,_⟩:=sq;exact ⟨a,n,e⟩
 clear hel sl7;refine_lift bK fun _ _ => ?_;refine aG (v:=.agg #[aE [1,120,1,97], .int .i64 1, .int .i64 9,aE [49,50,51,52]]) (Runs.build (vals:=[(0,aE [1,120,1,97]),(1, .int .i64 1),(2, .int .i64 9),(3,aE [49,50,51,52])]) rfl (by kernel_rfl)) ?_;refine aB ?_;refine qP (e:=61) (k:=4) (bytes:=48) (xs:=[.agg #[aE [1,120,1,97], .int .i64 1, .int .i64 9,aE [49,50,51,52]]]) (by simp [Value.cells]) fun v13 w13 x13 _ sl13 _ => ?_;refine aB ?_;obtain ⟨ad4,cap4,rfl⟩:∃ a n,v13=.slice a 1 n:=by
  obtain ⟨a,n,e,_⟩:=sl13;exact ⟨a,n,e⟩
 refine aG (v:=.agg (aX lM (.slice ad3 1 cap3) (.slice ad4 1 cap4) cI cI).toArray) (Runs.build (vals:=[(0, .int .i64 lX.q.id),(1, .bool true),(8, .slice ad3 1 cap3),(9, .slice ad4 1 cap4)]) rfl (by kernel_rfl)) ?_;refine aB ?_;have hm13:MsgV w13 lM (.slice ad3 1 cap3) (.slice ad4 1 cap4) cI cI:=⟨sq.ext x13,sl13,Sl.nil _ _,Sl.nil _ _⟩;refine_lift aL ?_;have cE:=kN hm13;rw [VZ] at cE;refine bX cE fun w14 x14 => ?_;have x914:=x12.trans (x13.trans x14);have z14:=x914.size;have h14:=h9.grow x914;have hpq14:=hpq9.ext x914;clear hpm hpq9;refine_lift bK fun _ _ => ?_;have hA:=QN h14 2 lB zDk VR zDk aH VS rfl (y:=lY) rfl rfl VT WA aH zDk zDk zDk (fun _ r hr=>by cases hr) (fun _ r hr=>by cases hr) TX zDk zDk zDk zDk zDk zDk zDk zDk;rw [n9'] at hA;unfold lD at hA;rw [show lX.to=3 from rfl] at hA;refine fY hA ?_;rintro _ w15 ⟨r15,M15,rfl,n15,h15,o15,k15,_,z15⟩;refine ⟨_,rfl,?_⟩;refine aB ?_;have h15:NodeI w1 w15 M15 KR:=h15;have o15:Own w14.heap.size 2 50 w15 r15 (bU lS3.out):=o15;have n15':M15.nb=M.nb:=n15.trans n9';have b14:=x914.at b9;have b15:=k15 _ _ _ _ (Array.getElem?_eq_some_iff.1 b14).1 aH b14;have hpq15:=aA (cs:=[aE lq.1, .int .i64 lq.2]) b15;clear hpq14;refine_lift bK fun _ _ => ?_;refine bX (vX 9 lq _) fun w16 x16 => ?_;refine_lift aL ?_;have hA:=pR (h15.grow x16) 7 3 (qB 9 lq) zDk aH aH VQ rfl lq rfl rfl UA;rw [n15'] at hA;unfold lD at hA;refine fY hA ?_;rintro _ w17 ⟨r17,M17,rfl,n17,h17,o17,k17,_,z17⟩;refine ⟨_,rfl,?_⟩;refine aB ?_;have h17:NodeI w1 w17 M17 { lS4 with out:=[] }:=h17;have o17:Own w16.heap.size 2 50 w17 r17 (bU lS4.out):=o17;have n17':M17.nb=M.nb:=n17.trans n15';have o15':=(o15.ext x16).ko k17 aH;obtain ⟨c1,c2,hc⟩:=QR VX;obtain ⟨c3,hc3⟩:=QS VY;rw [hc] at o15';rw [hc3] at o17;have sl15:Sl 2 w17 r15 [[.int .i64 7,aE c1],[.int .i64 8,aE c2]]:=o15'.sl;have sl17:Sl 2 w17 r17 [[.int .i64 7,aE c3]]:=o17.sl;have hel1:=sl15.elem (i:=0) rfl;have hel2:=sl15.elem (i:=1) rfl;have hel3:=sl17.elem (i:=0) rfl;have cS:∀ w',Ext w17 w'→Calls Tryz.prog 17 #[.pointer (some ⟨M.nb,0,none⟩)] w' (bG w' (.int .i64 1)):=fun w' hx=>by
  have:=CO (h17.grow hx).w;rw [n17',show ({ lS4 with out:=[] }:NodeR).sent=1 from SB.1] at this;exact this
 have cP:∀ w',Ext w17 w'→Calls Tryz.prog 18 #[.pointer (some ⟨M.nb,0,none⟩)] w' (bG w' (.int .i64 0)):=fun w' hx=>by
  have:=pS (h17.grow hx).w;rw [n17',show ({ lS4 with out:=[] }:NodeR).nt.isSome=false from SB.2] at this;exact this
 clear hpq15;refine_lift RH (fun hc hc => ?_) (fun hc => ?_) (fun _ _ hc hc => ?_)
 rotate_left
 ·first | (simp at hc;done) | (rename_i hz;simp at hz;done)
 ·first | (simp at hc;done) | (rename_i hz;simp at hz;done)
 refine bX (cS _ (Ext.refl _)) fun w18 x18 => ?_;refine_lift aL ?_;refine bX (cP _ x18) fun w19 x19 => ?_;refine_lift aL ?_;go_ret;exact ⟨rfl,x1.trans ((h17.grow (x18.trans x19)).w.ext)⟩
end Go.Proofs.X
