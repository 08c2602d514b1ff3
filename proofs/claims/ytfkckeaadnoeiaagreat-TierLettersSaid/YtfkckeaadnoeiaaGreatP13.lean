/- Laws and walks that the proof of the statement is made of (part 13). -/
import Derived.Test.YtfkckeaadnoeiaaGreatP12
set_option linter.unusedSimpArgs false
set_option linter.unusedVariables false
set_option maxRecDepth 100000
set_option maxHeartbeats 20000000
namespace Go.Proofs.X
open Go.RowKit
variable {cs:Array Value} {held:Bool} {qt:Int} {ps rs:List (List UInt8×Nat)} {ls:List (List UInt8)} {css css0 es:List (List Value)} {d l m n o qn s t x y z:List UInt8} {B a b base c e fuel i j k p q:Nat} {fz:Nat×Nat} {row:Option Nat} {r u v:Value} {w w' w0 w1 w2:World}
def vE (x:NTask) (a:ActR) (l:List CliR):List wM:=l.flatMap fun c=>nY c x.ft a.code a.ans a.auth
def NodeR.done (S:NodeR) (x:NTask) (y:WaitR) (a:ActR):NodeR:={ S with nt:=none,tt:=none,out:=S.out++vE x a y.l }
abbrev kT:List TypeId:=[155,198,273,37,234,328,251,228,321,201,136]
def Ko (Bo:Nat) (w w':World):Prop:=∀ j cs t fz,j<Bo→t∉kT→w.heap[j]? = some (.cells cs t fz)→w'.heap[j]? = some (.cells cs t fz)
theorem Ko.of {Bo:Nat} (h:Ext w w'):Ko Bo w w':=fun _ _ _ _ _ _ a=>h.at a
theorem Ko.trans {Bo:Nat} {a b c:World} (h:Ko Bo a b) (k:Ko Bo b c):Ko Bo a c:=fun j cs t fz h1 h2 h3=>k j cs t fz h1 h2 (h j cs t fz h1 h2 h3)
theorem Ko.kf {Bo:Nat} {T:List TypeId} {N:List Nat} (h:Kf T N w w') (ht:∀ t∈T,t∈kT):Ko Bo w w':=fun _ _ _ _ _ a b=>h.cells _ _ _ _ b (fun e=>a (ht _ e))
theorem Ko.bn {Bo:Nat} {l:List Nat} (h:Bn Bo l w w') (hl:∀ j∈l,∀ cs t fz,w.heap[j]? = some (.cells cs t fz)→t∈kT):Ko Bo w w':=fun j cs t fz h1 h2 h3=>by
 rw [h j (Array.getElem?_eq_some_iff.1 h3).1 h1 (fun e=>h2 (hl j e cs t fz h3))];exact h3
theorem Ko.bf {Bo nb:Nat} (hb:w.heap[nb]? = some (.cells cs 155 fz)) (f:Bf Bo nb w w'):Ko Bo w w':=fun j cs' t fz' h1 h2 h3=>by
 rw [f j (Array.getElem?_eq_some_iff.1 h3).1 h1 (by
  rintro rfl;rw [hb]at h3;injection (Option.some.inj h3)with _ e2
  exact h2 (by rw [← e2];decide))]
 exact h3
theorem LF (c:CliR) (k d:Int) (p q:List Rec):(nY c k d p q).length≤1:=by
 unfold nY;split<;>simp
theorem EN (x:NTask) (a:ActR):∀ l:List CliR,(vE x a l).length≤l.length
 | []=>Nat.le_refl _
 | c::l=>by
   have h1:=EN x a l;have h2:=LF c x.ft a.code a.ans a.auth;simp [vE]at h1 ⊢;omega
theorem WQ {wL:World} {Bo:Nat} {M:NodeM} {S:NodeR} (h:NodeW wL Bo w M S) {x:NTask} (hx:S.nt=some x) {y:WaitR} (hy:S.tt=some y) (hn:y.n=x.n) (a:ActR) (u:Value) (hu:ActV w u a) (hk:a.kind=2) (ha:a.auth=[]) (now:Int) (hl:y.l.length≤10) (h4:S.out.length≤90000) :
 Calls Tryz.prog 95 #[.pointer (some ⟨M.nb,0,none⟩), .int .i64 x.n,u, .int .i64 now] w (fun e w'=>e=.returned (.tuple #[])∧∃ ov,NodeW wL Bo w' { M with ov:=ov } (S.done x y a)∧Ko Bo w w'∧Lo wL.heap.size w w'):=by
 obtain ⟨v1,v2,rfl,o1,o2⟩:=hu.out;obtain ⟨rb,qv,hN⟩:=h.tsk x hx;have hb:=h.nod.blk;have hp:=aA (cs:=[M.rv, .int .i64 S.bud, .int .i64 S.room, .int .i64 S.most, .int .i64 S.wt, .pointer (some ⟨M.cb,0,none⟩), .pointer (some ⟨M.db,0,none⟩), .pointer (some ⟨M.tb,0,none⟩), .map (some M.mb), .int .i64 (S.sent:Nat),M.ov]) hb;have hmap:=h.map;rw [hx]at hmap;have htm:eI Tryz.prog 150 3 195=true:=zDk;have hzv:∀ w,(zeroValue 195).run Tryz.prog w=.ok (.pointer none) w:=fun w=>by kernel_rfl
 go_enter Tryz.func95,Tryz.ntmps95
 refine_lift lQ ?_;intro _ _ _;refine jO (vs:=dV a v1 v2) fun w1 x1 s1 b1=>?_;refine aB ?_;have hpa:=aA (cs:=[.int .i64 a.kind, .int .i64 a.to,aE a.qn, .int .i64 a.qt, .int .i64 a.code,v1,v2]) b1;have hp1:=hp.ext x1;have m1:=hmap.ext x1;have hlk:=eU (i:=0) kN htm hzv m1 (x:=.int .i64 x.n) (v:=.pointer (some ⟨M.sb,0,none⟩)) ⟨_,rfl⟩ rfl (by simp [YI]) false;refine_lift bU fun _ _=>?_;refine aG (v:=.pointer (some ⟨M.sb,0,none⟩)) (Runs.lookup rfl rfl hlk) ?_;refine aB ?_;refine_lift lQ fun _ _ _=>?_;refine rA kN rfl rfl ⟨_,rfl⟩ m1 (fun w2 d2 p2 hd=>?_) (ht:=htm);have hd':(∃ i u,(YI (some x) M.sb)[i]? = some (.int .i64 x.n,u)∧MapS CK w2 M.mb ((YI (some x) M.sb).eraseIdx i))∨((∀ e∈YI (some x) M.sb,e.1≠.int .i64 x.n)∧MapS CK w2 M.mb (YI (some x) M.sb)):=hd;have hm2:MapS CK w2 M.mb []:=by
  rcases hd' with ⟨i,u,hi,hm⟩|⟨hn,_⟩
  ·match i,hi,hm with
   | 0,_,hm=>exact hm
  ·exact absurd rfl (hn _ (List.mem_singleton.2 rfl))
 have k2:Kf [] [M.mb,M.tm] w w2:=(Kf.of x1).trans (Kf.putMap p2 m1 aX);have b2:=k2.cells _ _ _ _ hb aX;have hp2:=aA (cs:=[M.rv, .int .i64 S.bud, .int .i64 S.room, .int .i64 S.most, .int .i64 S.wt, .pointer (some ⟨M.cb,0,none⟩), .pointer (some ⟨M.db,0,none⟩), .pointer (some ⟨M.tb,0,none⟩), .map (some M.mb), .int .i64 (S.sent:Nat),M.ov]) b2;clear hp hp1 hpa;have t2:TabAt wL.heap.size w2 M.tb M.tm S.last (some y):=by
  have:=(h.tab.ext x1).keep (Kf.putMap (T:=[]) (M:=[M.mb]) p2 m1 aX) (by simp [h.ne.2.2]) aK aK aK;rw [hy]at this;exact this
 have hD:=WP t2;rw [hn]at hD;refine_lift bU fun _ _=>?_;refine gS hD ?_;rintro _ w3 ⟨v3,rfl,r3,t3,k3,l3⟩;refine ⟨_,rfl,?_⟩;refine aB ?_;refine_lift mH fun _ _ _ _=>?_;have hcl:(lG y.l).length=y.l.length:=List.length_map ..;have sl3:=r3.sl;have k03:Kf [] [M.mb,M.tm] w w3:=k2.trans (k3.mono aX aX);have l03:Lo wL.heap.size w w3:=(Lo.of x1).trans ((Lo.put p2 h.gm).trans l3);have z03:=l03.size;have b3:=k03.cells _ _ _ _ hb aX;have s3:=k03.cells _ _ _ _ hN.blk aX;have hv3:NodV wL.heap.size Bo w3 M.nb (M.c S) S.out:=⟨h.nod.ge,b3,h.nod.row.keep k03.keep aX,h.nod.le.1,by have:=h.nod.le;omega⟩;have oa3:Own 0 4 37 w3 v1 (aF a.ans):=o1.keep k03.keep aX;have ou3:Own 0 4 37 w3 v2 (aF a.auth):=o2.keep k03.keep aX;have a3:w3.heap[w.heap.size]? = some (.cells (dV a v1 v2).toArray 201 (0,0)):=(k3.cells _ _ _ _ ((Kf.putMap (T:=[]) (M:=[M.mb]) p2 m1 aX).cells _ _ _ _ b1 aX) aX);refine_lift aT ?_;clear hp2;go_loopw [14,95] (fun _ iv wr=>∃ (k:Nat) (ov:Value),k≤y.l.length∧iv=.int .i64 k∧NodV wL.heap.size Bo wr M.nb { M.c S with ov:=ov } (S.out++vE x a (y.l.take k))∧Kf nT [] w3 wr∧Lo wL.heap.size w3 wr∧Bf Bo M.nb w3 wr) (fun _ iv _=>y.l.length - (intOf iv).toNat)
 case atStart=>exact ⟨0,M.ov,Nat.zero_le _,rfl,by rw [show S.out++vE x a (y.l.take 0)=S.out by simp [vE]];exact hv3,Kf.of (Ext.refl _),Lo.of (Ext.refl _),Bf.of (Ext.refl _)⟩
 case round =>
  obtain ⟨k,ov,hkl,rfl,hv,hK,hL,hF⟩:=hrel;have slr:Sl 3 wr v3 (lG y.l):=(r3.keep hK.keep aK).sl;have ar:=hK.cells _ _ _ _ a3 aK;have sr:=hK.cells _ _ _ _ s3 aK;have oar:=oa3.keep hK.keep aK;have our:=ou3.keep hK.keep aK;have zr:=hL.size;by_cases hlt:k<y.l.length
  ·have hel:=slr.elem (show (lG y.l)[k]? = some (GG y.l[k]) by simp [lG,hlt]);have hT:vE x a (y.l.take (k+1))=vE x a (y.l.take k)++nY y.l[k] x.ft a.code a.ans a.auth:=by
    unfold vE;rw [List.take_succ_eq_append_getElem hlt,List.flatMap_append];simp only [List.flatMap_cons,List.flatMap_nil,List.append_nil]
   have hTl:=EN x a (y.l.take k);rw [List.length_take]at hTl;generalize y.l[k]=c at *;unfold GG at hel;clear sl3;refine_lift rR ?_;intro _ _ _ _ _ _;refine dX (z:=[.int .i64 0, .int .i64 0,aE []]) fun w4 x4 s4 b4=>?_;refine aB ?_;refine dL (v:=.agg #[.int .i64 c.node, .int .i64 c.id,aE c.name]) b4 (by simp [Value.cells,aE,Value.oneCell']) fun w5 p5=>?_;have x5:=cJ x4 p5;have hpc:=aA (cs:=[.int .i64 c.node, .int .i64 c.id,aE c.name]) p5.this;have hpa5:=aA (cs:=[.int .i64 a.kind, .int .i64 a.to,aE a.qn, .int .i64 a.qt, .int .i64 a.code,v1,v2]) (x5.at ar);have hq5:Pts w5 (aV (.pointer (some ⟨M.sb,0,none⟩)) 3) [aE x.fn, .int .i64 x.ft]:=((aA (x5.at sr)).part 3).front 2;clear hel;refine_lift XH ?_;refine aO 13 (Ext w5) zDk ?_;intro w6 x6 _;refine ⟨x6,?_⟩;refine bE 0 ?_;refine bE 1 ?_;refine bE 2 ?_;refine bE 3 ?_;refine bE 4 ?_;refine bE 5 ?_;refine bE 6 ?_;refine bE 7 ?_;refine bE 8 ?_;refine bE 9 ?_;refine bE 10 ?_;refine bE 11 ?_;refine bE 12 ?_;refine dH 13 ?_;refine gS (GI (hv.ext (x5.trans x6)) c x.ft a.code v1 v2 a.ans a.auth (oar.ext (x5.trans x6)).sl (our.ext (x5.trans x6)).sl (by rw [List.length_append];omega)) ?_;rintro _ w7 ⟨rfl,ov7,h7,k7,l7,f7⟩;refine ⟨_,rfl,?_⟩;refine aB ?_;refine aD ⟨aN rfl,?_⟩;refine jP ?_;refine_lift aT ?_;refine ⟨⟨k+1,ov7,aC,by go_num,?_,hK.trans ((Kf.of (x5.trans x6)).trans k7),hL.trans ((Lo.of (x5.trans x6)).trans l7),hF.trans zr ((Bf.of (x5.trans x6)).trans (x5.trans x6).size f7)⟩,by simp [intOf];omega⟩;rw [hT,← List.append_assoc];exact h7
  ·have hkq:k=y.l.length:=aC;subst hkq;rw [List.take_length]at hv;have hpa9:=aA (cs:=[.int .i64 a.kind, .int .i64 a.to,aE a.qn, .int .i64 a.qt, .int .i64 a.code,v1,v2]) ar;have ur:=our.sl;rw [ha]at ur;have ul:(aF ([]:List Rec)).length=0:=rfl;refine_lift jQ fun _=>?_;go_loopw [16,17,117] (fun _ _ iv w9=>iv=.int .i64 0∧w9=wr) (fun _ _ _ _=>0)
   case atStart=>exact ⟨rfl,rfl⟩
   case round =>
    obtain ⟨rfl,rfl⟩:=hrel;refine_lift jQ fun _=>?_
    go_end0
    have kk:Kf nT [M.mb,M.tm] w wr:=(k03.mono aX aX).trans (hK.mono aX aX);have hE9:Ext wL wr:=(l03.trans hL).ext h.ext (Nat.le_refl _);have t9:=t3.keep hK aX aK aK aK;refine ⟨rfl,ov,⟨hE9,hv,h.rts.keep kk.keep aK,h.cac.keep kk (by simp [h.ne.1,h.ne.2.1]) aK aK aK,h.den.keep kk aK,t9,h.gm,?_,?_,h.ne⟩,(Ko.kf k03 aX).trans (Ko.bf b3 hF),l03.trans hL⟩
    ·exact (hm2.keep k3 (by simp [h.ne.2.2.symm])).keep hK aX
    ·rintro z ⟨⟩
theorem TI {wL:World} {Bo:Nat} {M:NodeM} {S:NodeR} (h:NodeW wL Bo w M S) (c:CliR) (qn:List UInt8) (hn:qn.length≤100000) (qt now:Int) (h0:0≤now) (h1:now≤1099511627776) (hk:-9223372036854775808≤qt∧qt≤9223372036854775807) (hfi:S.C.l.findIdx? (oV (fold qn) qt)=none) :
 Calls Tryz.prog 140 #[.pointer (some ⟨M.nb,0,none⟩), .agg #[.int .i64 c.node, .int .i64 c.id,aE c.name], .agg #[aE qn, .int .i64 qt], .int .i64 now] w (bC w (.bool false)):=by
 have hb:=h.nod.blk;have hp:=aA (cs:=[M.rv, .int .i64 S.bud, .int .i64 S.room, .int .i64 S.most, .int .i64 S.wt, .pointer (some ⟨M.cb,0,none⟩), .pointer (some ⟨M.db,0,none⟩), .pointer (some ⟨M.tb,0,none⟩), .map (some M.mb), .int .i64 (S.sent:Nat),M.ov]) hb;go_enter Tryz.func140,Tryz.ntmps140
 refine_lift mT fun _ _=>?_;refine jO (vs:=[.int .i64 c.node, .int .i64 c.id,aE c.name]) fun w1 x1 s1 b1=>?_;refine aB ?_;refine jO (vs:=[aE qn, .int .i64 qt]) fun w2 x2 s2 b2=>?_;refine aB ?_;have hpq:=aA (cs:=[aE qn, .int .i64 qt]) b2;have x02:=x1.trans x2;have hp2:=hp.ext x02;clear hp;refine_lift mH fun _ _ _ _=>?_;refine cQ (S:=fun w'=>Ext w2 w') zDk ?_;intro w3 x3 hh3;refine dM 0 ?_;refine aB ?_;refine dM 1 ?_;refine aB ?_;refine dM 2 ?_;refine aB ?_;refine dM 3 ?_;refine aB ?_;refine dM 4 ?_;refine aB ?_;refine dM 5 ?_;refine aB ?_;have y3:=x3.size;apply LW (F:=fun (b:Nat) w'=>Ext w2 w'∧w2.heap.size≤b∧w'.heap[b]? = some (.cells qU.toArray 37 (0,0)))
 ·intro hG;refine tT (i:=6) (j:=11) zDk rfl rfl rfl ?_ ?_
  ·refine wW (GH (h.grow (x02.trans x3)).den qn qt now h0 h1) fun w4 x4=>?_;refine aB ?_;have x24:=x3.trans x4;have y4:=x24.size;refine aD ⟨x24,?_⟩;refine dM 7 ?_;refine aB ?_;refine dM 8 ?_;refine aB ?_;refine dM 9 ?_;refine aB ?_;refine dM 10 ?_;refine aB ?_;refine bZ (i:=11) zDk rfl rfl ?_;refine dX (z:=qU) fun w5 x5 s5 b5=>?_;refine aB ?_;refine aD ⟨x24.trans x5,?_⟩;generalize w4.heap.size=b at *;exact hG b w5 ⟨x24.trans x5,y4,b5⟩
  ·refine dX (z:=qU) fun w4 x4 s4 b4=>?_;refine aB ?_;have x24:=x3.trans x4;refine aD ⟨x24,?_⟩;refine bZ (i:=6) zDk rfl rfl ?_;refine wW (GH (h.grow (x02.trans x24)).den qn qt now h0 h1) fun w5 x5=>?_;refine aB ?_;refine aD ⟨x24.trans x5,?_⟩;refine dM 7 ?_;refine aB ?_;refine dM 8 ?_;refine aB ?_;refine dM 9 ?_;refine aB ?_;refine dM 10 ?_;refine aB ?_;have b5:=x5.at b4;generalize w3.heap.size=b at *;exact hG b w5 ⟨x24.trans x5,y3,b5⟩
 clear hh3;rintro b3 w6 ⟨x6,g6,c6⟩;refine dM 12 ?_;refine aB ?_;refine bZ (i:=13) zDk rfl rfl ?_;refine dL (v:=.agg qU.toArray) c6 zDk fun w7 p7=>?_;have x27:=cJ x6 p7;refine aD ⟨x27,?_⟩;refine dM 14 ?_;refine aB ?_;refine cO zDk ?_;have hpq7:=hpq.ext x27;have hp7:=hp2.ext x27;have x07:=x02.trans x27;clear hpq hp2 c6 p7 x6 x3 g6 y3;refine_lift lQ fun _ _ _=>?_;refine cQ (S:=fun w'=>Ext w7 w') zDk ?_;intro w3 x3 hh3;refine dM 0 ?_;refine aB ?_;refine dM 1 ?_;refine aB ?_;refine dM 2 ?_;refine aB ?_;refine dM 3 ?_;refine aB ?_;refine dM 4 ?_;refine aB ?_;refine dM 5 ?_;refine aB ?_;refine dM 6 ?_;refine aB ?_;refine dM 7 ?_;refine aB ?_;refine dM 8 ?_;refine aB ?_;have y3:=x3.size;apply LW (F:=fun (b:Nat) w'=>Ext w7 w'∧w7.heap.size≤b∧w'.heap[b]? = some (.cells gT.toArray 136 (0,0)))
 ·intro hG;refine tT (i:=9) (j:=14) zDk rfl rfl rfl ?_ ?_
  ·refine wW (MU (h.grow (x07.trans x3)).cac qn hn qt now h0 h1 hk hfi) fun w4 x4=>?_;refine aB ?_;have x24:=x3.trans x4;have y4:=x24.size;refine aD ⟨x24,?_⟩;refine dM 10 ?_;refine aB ?_;refine dM 11 ?_;refine aB ?_;refine dM 12 ?_;refine aB ?_;refine dM 13 ?_;refine aB ?_;refine bZ (i:=14) zDk rfl rfl ?_;refine dX (z:=gT) fun w5 x5 s5 b5=>?_;refine aB ?_;refine aD ⟨x24.trans x5,?_⟩;generalize w4.heap.size=b at *;exact hG b w5 ⟨x24.trans x5,y4,b5⟩
  ·refine dX (z:=gT) fun w4 x4 s4 b4=>?_;refine aB ?_;have x24:=x3.trans x4;refine aD ⟨x24,?_⟩;refine bZ (i:=9) zDk rfl rfl ?_;refine wW (MU (h.grow (x07.trans x24)).cac qn hn qt now h0 h1 hk hfi) fun w5 x5=>?_;refine aB ?_;refine aD ⟨x24.trans x5,?_⟩;refine dM 10 ?_;refine aB ?_;refine dM 11 ?_;refine aB ?_;refine dM 12 ?_;refine aB ?_;refine dM 13 ?_;refine aB ?_;have b5:=x5.at b4;generalize w3.heap.size=b at *;exact hG b w5 ⟨x24.trans x5,y3,b5⟩
 clear hh3;rintro b4 w8 ⟨x8,g8,c8⟩;refine bZ (i:=15) zDk rfl rfl ?_;refine dL (v:=.agg gT.toArray) c8 zDk fun w9 p9=>?_;have x79:=cJ x8 p9;refine aD ⟨x79,?_⟩;refine dM 16 ?_;refine aB ?_;refine dM 17 ?_;refine aB ?_;refine cO zDk ?_;refine_lift aT ?_;go_ret;exact ⟨rfl,x07.trans x79⟩
theorem TJ {wL:World} {Bo:Nat} {M:NodeM} {S:NodeR} (h:NodeW wL Bo w M S) (c:CliR) (qn:List UInt8) (hn:qn.length≤100000) (qt now:Int) (h0:0≤now) (h1:now≤1099511627776) (hk:-9223372036854775808≤qt∧qt≤9223372036854775807) (hc:0≤S.C.calls∧S.C.calls≤1000000000) {x:EntR} (hfi:S.C.l.findIdx? (oV (fold qn) qt)=some i) (hix:S.C.l[i]? = some x) (hnx:now<x.till) (hxt:x.till≤1000000000000000000) (hrk:3≤x.rank) (hrl:(bD [⟨x.s.name,x.s.kind,x.till - now,x.s.data⟩]).length≤100000) (h4:S.out.length≤100000) :
 Calls Tryz.prog 140 #[.pointer (some ⟨M.nb,0,none⟩), .agg #[.int .i64 c.node, .int .i64 c.id,aE c.name], .agg #[aE qn, .int .i64 qt], .int .i64 now] w (fun e w'=>e=.returned (.bool true)∧∃ ov,NodeW wL Bo w' { M with ov:=ov } { S with C:=S.C.use i x,out:=S.out++nY c qt 0 (bD [⟨x.s.name,x.s.kind,x.till - now,x.s.data⟩]) [] }∧Ko Bo w w'∧Lo wL.heap.size w w'):=by
 have hb:=h.nod.blk;have hp:=aA (cs:=[M.rv, .int .i64 S.bud, .int .i64 S.room, .int .i64 S.most, .int .i64 S.wt, .pointer (some ⟨M.cb,0,none⟩), .pointer (some ⟨M.db,0,none⟩), .pointer (some ⟨M.tb,0,none⟩), .map (some M.mb), .int .i64 (S.sent:Nat),M.ov]) hb;go_enter Tryz.func140,Tryz.ntmps140
 refine_lift sF ?_;intro _ _ _;refine jO (vs:=[.int .i64 c.node, .int .i64 c.id,aE c.name]) fun w1 x1 s1 b1=>?_;refine aB ?_;refine jO (vs:=[aE qn, .int .i64 qt]) fun w2 x2 s2 b2=>?_;refine aB ?_;have hpq:=aA (cs:=[aE qn, .int .i64 qt]) b2;have x02:=x1.trans x2;have hp2:=hp.ext x02;clear hp;refine_lift mH fun _ _ _ _=>?_;refine cQ (S:=fun w'=>Ext w2 w') zDk ?_;intro w3 x3 hh3;refine dM 0 ?_;refine aB ?_;refine dM 1 ?_;refine aB ?_;refine dM 2 ?_;refine aB ?_;refine dM 3 ?_;refine aB ?_;refine dM 4 ?_;refine aB ?_;refine dM 5 ?_;refine aB ?_;have y3:=x3.size;apply LW (F:=fun (b:Nat) w'=>Ext w2 w'∧w2.heap.size≤b∧w'.heap[b]? = some (.cells qU.toArray 37 (0,0)))
 ·intro hG;refine tT (i:=6) (j:=11) zDk rfl rfl rfl ?_ ?_
  ·refine wW (GH (h.grow (x02.trans x3)).den qn qt now h0 h1) fun w4 x4=>?_;refine aB ?_;have x24:=x3.trans x4;have y4:=x24.size;refine aD ⟨x24,?_⟩;refine dM 7 ?_;refine aB ?_;refine dM 8 ?_;refine aB ?_;refine dM 9 ?_;refine aB ?_;refine dM 10 ?_;refine aB ?_;refine bZ (i:=11) zDk rfl rfl ?_;refine dX (z:=qU) fun w5 x5 s5 b5=>?_;refine aB ?_;refine aD ⟨x24.trans x5,?_⟩;generalize w4.heap.size=b at *;exact hG b w5 ⟨x24.trans x5,y4,b5⟩
  ·refine dX (z:=qU) fun w4 x4 s4 b4=>?_;refine aB ?_;have x24:=x3.trans x4;refine aD ⟨x24,?_⟩;refine bZ (i:=6) zDk rfl rfl ?_;refine wW (GH (h.grow (x02.trans x24)).den qn qt now h0 h1) fun w5 x5=>?_;refine aB ?_;refine aD ⟨x24.trans x5,?_⟩;refine dM 7 ?_;refine aB ?_;refine dM 8 ?_;refine aB ?_;refine dM 9 ?_;refine aB ?_;refine dM 10 ?_;refine aB ?_;have b5:=x5.at b4;generalize w3.heap.size=b at *;exact hG b w5 ⟨x24.trans x5,y3,b5⟩
 clear hh3;rintro b3 w6 ⟨x6,g6,c6⟩;refine dM 12 ?_;refine aB ?_;refine bZ (i:=13) zDk rfl rfl ?_;refine dL (v:=.agg qU.toArray) c6 zDk fun w7 p7=>?_;have x27:=cJ x6 p7;refine aD ⟨x27,?_⟩;refine dM 14 ?_;refine aB ?_;refine cO zDk ?_;have hpq7:=hpq.ext x27;have hp7:=hp2.ext x27;have x07:=x02.trans x27;clear hpq hp2 c6 p7 x6 x3 g6 y3;refine_lift lQ fun _ _ _=>?_;refine aO 9 (Ext w7) zDk ?_;intro w3 x3 _;refine ⟨x3,?_⟩;refine bE 0 ?_;refine bE 1 ?_;refine bE 2 ?_;refine bE 3 ?_;refine bE 4 ?_;refine bE 5 ?_;refine bE 6 ?_;refine bE 7 ?_;refine bE 8 ?_;have y3:=x3.size;apply Ci (F:=fun (b:Nat) (v:Value) w'=>w7.heap.size≤b∧w'.heap[b]? = some (.cells gT.toArray 136 (0,0))∧Own 0 1 9 w' v (aH x.s.data)∧CacheAt wL.heap.size w' M.cb M.em (S.C.use i x)∧Kf cT [] w7 w'∧Lo wL.heap.size w7 w')
 ·intro hG;refine ET (i:=9) (j:=14) zDk rfl rfl rfl ?_ ?_
  ·refine gS (MV (h.grow (x07.trans x3)).cac qn hn qt now h0 h1 hk hc hfi hix hnx hxt) ?_;rintro _ w4 ⟨v4,rfl,o4,c4,k4,l4⟩;refine ⟨_,rfl,?_⟩;refine aB ?_;refine aD ⟨aN rfl,?_⟩;refine cZ 10 ?_;refine cZ 11 ?_;refine cZ 12 ?_;refine cZ 13 ?_;refine dH 14 ?_;refine dX (z:=gT) fun w5 x5 s5 b5=>?_;refine aB ?_;refine aD ⟨aN rfl,?_⟩;have y4:w7.heap.size≤w4.heap.size:=Nat.le_trans y3 l4.size;have o5:=o4.ext x5;have c5:=c4.ext x5;generalize w4.heap.size=b at *;exact hG b v4 w5 ⟨y4,b5,o5.weaken (Nat.zero_le _),c5,(Kf.of x3).trans (k4.trans (Kf.of x5)),(Lo.of x3).trans (l4.trans (Lo.of x5))⟩
  ·refine dX (z:=gT) fun w4 x4 s4 b4=>?_;refine aB ?_;have x24:=x3.trans x4;refine aD ⟨aR x24,?_⟩;refine dH 9 ?_;refine gS (MV (h.grow (x07.trans x24)).cac qn hn qt now h0 h1 hk hc hfi hix hnx hxt) ?_;rintro _ w5 ⟨v4,rfl,o5,c5,k5,l5⟩;refine ⟨_,rfl,?_⟩;refine aB ?_;refine aD ⟨aN rfl,?_⟩;refine cZ 10 ?_;refine cZ 11 ?_;refine cZ 12 ?_;refine cZ 13 ?_;have b5:=k5.cells _ _ _ _ b4 aK;generalize w3.heap.size=b at *;exact hG b v4 w5 ⟨y3,b5,o5.weaken (Nat.zero_le _),c5,(Kf.of x24).trans k5,(Lo.of x24).trans l5⟩
 rintro b3 v3 w8 ⟨g8,c8,o8,ca8,k8,l8⟩;have lB:M.nb<w.heap.size:=(Array.getElem?_eq_some_iff.1 hb).1;have z02:=x02.size;have z1:=x1.size;have z27:=x27.size;refine dH 15 ?_;refine dL (v:=.agg #[aE x.s.name, .int .i64 x.s.kind, .int .i64 (x.till - now),v3]) c8 (gE rfl rfl rfl o8.one) fun w9 p9=>?_;refine aD ⟨aN rfl,?_⟩;refine cZ 16 ?_;refine cZ 17 ?_;refine jP ?_;have k79:Kf (136::cT) [] w7 w9:=(k8.mono aX aX).trans (Kf.put p9 c8 aX);have l79:Lo wL.heap.size w7 w9:=l8.trans (Lo.put p9 (by have:=h.ext.size;omega));have k09:Kf (136::cT) [] w w9:=(Kf.of x07).trans k79;have l09:Lo wL.heap.size w w9:=(Lo.of x07).trans l79;have z09:=l09.size;have bc9:=k79.cells _ _ _ _ ((x2.trans x27).at b1) aK;have bq9:=k79.cells _ _ _ _ (x27.at b2) aK;have bn9:=k09.cells _ _ _ _ hb aK;have hpc:=aA (cs:=[.int .i64 c.node, .int .i64 c.id,aE c.name]) bc9;have hpq:=aA (cs:=[aE qn, .int .i64 qt]) bq9;have hps:=aA (cs:=[aE x.s.name, .int .i64 x.s.kind, .int .i64 (x.till - now),v3]) p9.this;have hv9:NodV wL.heap.size Bo w9 M.nb (M.c S) S.out:=⟨h.nod.ge,bn9,h.nod.row.keep k09.keep aK,h.nod.le.1,by have:=h.nod.le;omega⟩;have o9:=eM o8 p9 c8;clear hp7 hpq7;refine_lift EZ fun _ _ _ _ _=>?_;refine aO 7 (Ext w9) zDk ?_;intro w10 x10 _;refine ⟨x10,?_⟩;refine bE 0 ?_;refine bE 1 ?_;refine bE 2 ?_;refine bE 3 ?_;refine bE 4 ?_;refine dH 5 ?_;refine oD (e:=136) (k:=4) (bytes:=56) (xs:=[.agg #[aE x.s.name, .int .i64 x.s.kind, .int .i64 (x.till - now),v3]]) (by simp [Value.cells]) fun v11 w11 x11 _ sl11 o11=>?_;refine aB ?_;refine aD ⟨aR (x10.trans x11),?_⟩;refine dH 6 ?_;have hS:SetsAt w11 v11 [⟨x.s.name,x.s.kind,x.till - now,x.s.data⟩]:=⟨_,sl11,rfl,fun j s hj=>by
  match j,hj with
  | 0,hj =>
   cases hj
   exact ⟨v3,rfl,(o9.ext (x10.trans x11)).sl⟩⟩
 refine gY (Bt v11 _ _ hS aC) fun v12 w12 x12 o12=>?_;refine aB ?_;have x912:=(x10.trans x11).trans x12;refine aD ⟨aR x912,?_⟩;refine dH 7 ?_;refine gS (GI (hv9.ext x912) c qt 0 v12 (.slice none 0 0) _ [] o12.sl (Sl.nil _ _) h4) ?_;rintro _ w13 ⟨rfl,ov,h13,k13,l13,f13⟩;refine ⟨_,rfl,?_⟩;refine aB ?_;refine aD ⟨aN rfl,?_⟩;refine jP ?_;refine_lift aT ?_;go_ret;have k013:Kf (175::155::136::cT) [] w w13:=(k09.mono aX aX).trans ((Kf.of x912).trans (k13.mono aX aX));have ca13:CacheAt wL.heap.size w13 M.cb M.em (S.C.use i x):=((ca8.keep (Kf.put (T:=[136]) (M:=[]) p9 c8 aX) aX aK aK aK).ext x912).keep k13 aX aK aK aK;have l013:Lo wL.heap.size w w13:=l09.trans ((Lo.of x912).trans l13);have hE:=l013.ext h.ext (Nat.le_refl _);have z912:=x912.size;refine ⟨rfl,ov,⟨hE,h13,h.rts.keep k013.keep aK,ca13,h.den.keep k013 aK,h.tab.keep k013 aX aK aK aK,h.gm,h.map.keep k013 aX,fun z hz=>?_,h.ne⟩,(Ko.kf k09 aK).trans ((Ko.of x912).trans (Ko.bf (x912.at bn9) f13)),l013⟩;obtain ⟨rb,qv,hN⟩:=h.tsk z hz;exact ⟨rb,qv,hN.keep k013 hE aK aK aK aK aK aK⟩
theorem Bn.bf {Bo nb:Nat} {l:List Nat} (hx:Ext w w0) (f:Bf Bo nb w0 w') (hl:nb∈l):Bn Bo l w w':=fun j j1 j2 j3=>by
 rw [f j (Nat.lt_of_lt_of_le j1 hx.size) j2 (fun e=>j3 (e▸hl)),hx.block j j1]
theorem CacheR.hit_some {C:CacheR} {k now:Int} {e:EntR} (h:C.hit n k now=some (i,e)):C.l.findIdx? (oV n k)=some i∧C.l[i]? = some e∧now<e.till:=by
 unfold CacheR.hit at h;split at h
 ·cases h
 ·rename_i j hj;split at h
  ·cases h
  ·rename_i e' he;split at h
   ·cases h
   ·cases h
    exact ⟨hj,he,aC⟩
theorem TaskAt.weaken {t:TaskR} (h:TaskAt w1 w b t) (hx:Ext w0 w1):TaskAt w0 w b t:=by
 obtain ⟨rv,sv,gv,ev,h⟩:=h;have z:=hx.size;refine ⟨rv,sv,gv,ev,Nat.le_trans z h.ge,hx.trans h.ext,h.blk,h.rs.weaken z,h.ss.weaken z,h.gs.weaken z,?_⟩;have:=h.es;generalize t.stop=s at *;cases s with
 | none=>exact this
 | some a =>
  obtain ⟨c,v1,v2,g1,g2,g3,g4,g5,g6⟩:=this;exact ⟨c,v1,v2,g1,Nat.le_trans z g2,g3,g4.weaken z,g5.weaken z,g6⟩
def NodeR.fresh (S:NodeR) (c:CliR) (q:mU) (now:Int):NodeR :=
 ({ S with last:=S.last+1,tt:=some ⟨S.last+1,fold q.1,q.2,[c]⟩,nt:=some ⟨S.last+1,(eG q.1 q.2 S.roots S.bud).on.1,[],0,q.1,q.2,0,zeroM,0⟩ }:NodeR).send ⟨S.last+1,(eG q.1 q.2 S.roots S.bud).on.1,[],0,q.1,q.2,0,zeroM,0⟩ (eG q.1 q.2 S.roots S.bud).on.2 now
def NodeR.ask (S:NodeR) (c:CliR) (q:mU) (now:Int):NodeR :=
 if q.2=251∨q.2=252∨255<q.2 then { S with out:=S.out++nY c q.2 5 [] [] }
 else match S.C.hit (fold q.1) q.2 now with
  | some (i,e)=>{ S with C:=S.C.use i e,out:=S.out++nY c q.2 0 (bD [⟨e.s.name,e.s.kind,e.till - now,e.s.data⟩]) [] }
  | none=>match S.tt with
    | some y=>{ S with tt:=some { y with l:=y.l ++ [c] } }
    | none=>S.fresh c q now
structure AskOk (S:NodeR) (q:mU) (now:Int):Prop where
 tm:0≤now∧now≤1099511627776
 lab:(aM q.1).isSome=true
 len:q.1.length≤100000
 qt:1≤q.2∧q.2≤65535
 te:nL q.1 q.2 S.roots S.bud=0
 on:(eG q.1 q.2 S.roots S.bud).on.2.kind=1
 rtl:S.roots.length≤100000
 last:0≤S.last∧S.last≤1000000000
 wt:0≤S.wt∧S.wt≤2147483647
 sent:S.sent≤1000000
 out:S.out.length≤90000
 calls:0≤S.C.calls∧S.C.calls≤1000000000
 same:∀ y,S.tt=some y→y.qn=fold q.1∧y.qt=q.2∧y.l.length<10
 idle:S.tt=none→S.nt=none
 hit:∀ i e,S.C.hit (fold q.1) q.2 now=some (i,e)→3≤e.rank∧e.till≤1000000000000000000∧(bD [⟨e.s.name,e.s.kind,e.till - now,e.s.data⟩]).length≤100000
 miss:S.C.hit (fold q.1) q.2 now=none→S.C.l.findIdx? (oV (fold q.1) q.2)=none
theorem Dc {wL:World} {Bo:Nat} {M:NodeM} {S:NodeR} (h:NodeW wL Bo w M S) (src now:Int) (m:MsgR) (qv a u e:Value) (hm:MsgV w m qv a u e) (q:mU) (hop:m.op=0) (hqs:m.qs=[q]) (ok:AskOk S q now) :
 Calls Tryz.prog 82 #[.pointer (some ⟨M.nb,0,none⟩), .int .i64 src, .agg (aP m qv a u e).toArray, .int .i64 now] w (fun e w'=>e=.returned (.tuple #[])∧∃ M',M'.nb=M.nb∧NodeW wL Bo w' M' (S.ask ⟨src,m.id,q.1⟩ q now)∧Ko Bo w w'∧Lo wL.heap.size w w'∧(S.C.l=[]→S.tt=none→Bn Bo [M.nb,M.tb,M.tm,M.mb] w w')):=by
 have hb:=h.nod.blk;have hp:=aA (cs:=[M.rv, .int .i64 S.bud, .int .i64 S.room, .int .i64 S.most, .int .i64 S.wt, .pointer (some ⟨M.cb,0,none⟩), .pointer (some ⟨M.db,0,none⟩), .pointer (some ⟨M.tb,0,none⟩), .map (some M.mb), .int .i64 (S.sent:Nat),M.ov]) hb;go_enter Tryz.func82,Tryz.ntmps82
 refine_lift sF ?_;intro _ _ _;refine jO (vs:=aP m qv a u e) fun w1 x1 s1 b1=>?_;refine aB ?_;have hpm:=aA (cs:=aP m qv a u e) b1;unfold aP at hpm;have hq1:=(hm.ext x1).qs;rw [hop]at hpm;rw [hqs]at hq1;have hq1':Sl 2 w1 qv [[aE q.1, .int .i64 q.2]]:=hq1;have hel:=hq1'.elem (i:=0) rfl;refine_lift lQ fun _ _ _=>?_;refine dX (z:=[aE [], .int .i64 0]) fun w2 x2 s2 b2=>?_;refine aB ?_;refine dL (v:=.agg #[aE q.1, .int .i64 q.2]) b2 (by simp [Value.cells,aE,Value.oneCell']) fun w3 p3=>?_;have x3:=cJ x2 p3;have hpq3:=aA (cs:=[aE q.1, .int .i64 q.2]) p3.this;have hpm3:=hpm.ext x3;clear hel;refine_lift bU fun _ _=>?_;refine aG (v:=.agg #[.int .i64 src, .int .i64 m.id,aE q.1]) (Runs.build (vals:=[(0, .int .i64 src),(1, .int .i64 m.id),(2,aE q.1)]) rfl (by kernel_rfl)) ?_;refine aB ?_;refine dX (z:=[.int .i64 0, .int .i64 0,aE []]) fun w4 x4 s4 b4=>?_;refine aB ?_;refine dL (v:=.agg #[.int .i64 src, .int .i64 m.id,aE q.1]) b4 (by simp [Value.cells,aE,Value.oneCell']) fun w5 p5=>?_;have x5:=cJ x4 p5;have hpc:=aA (cs:=[.int .i64 src, .int .i64 m.id,aE q.1]) p5.this;have hpq:=hpq3.ext x5;have x05:=x1.trans (x3.trans x5);have hp5:=hp.ext x05;have bq5:=x5.at p3.this;have bc5:=p5.this;clear hpm hpm3 hpq3 hq1 hq1' hp p3 p5 x2 x4 b2 b4
 (repeat' first|((with_reducible refine aZ ?_);go_step)|((with_reducible refine aS ?_);first|refine dN ?_|(refine bG ?_ ?_<;>intro hc))|fail)
 rotate_left
 ·have hR:¬ (q.2=251∨q.2=252∨255<q.2):=aC;cases hH:S.C.hit (fold q.1) q.2 now with
  | some ie =>
   obtain ⟨i,e⟩:=ie;obtain ⟨r1,r2,r3⟩:=ok.hit i e hH;obtain ⟨g1,g2,g3⟩:=CacheR.hit_some hH;refine gS (TJ (h.grow x05) ⟨src,m.id,q.1⟩ q.1 ok.len q.2 now ok.tm.1 ok.tm.2 (by have:=ok.qt;omega) ok.calls g1 g2 g3 r2 r1 r3 (by have:=ok.out;omega)) ?_;rintro _ w6 ⟨rfl,ov,h6,k6,l6⟩;refine ⟨_,rfl,?_⟩;refine aB ?_;refine_lift aT ?_;refine bodyPost_ret (results_none rfl _ _ _) rfl ⟨rfl,{ M with ov:=ov },rfl,?_,(Ko.of x05).trans k6,(Lo.of x05).trans l6,fun hC=>?_⟩
   ·rw [NodeR.ask,if_neg hR,hH];exact h6
   ·rw [hC]at g1;cases g1
  | none =>
   refine wW (TI (h.grow x05) ⟨src,m.id,q.1⟩ q.1 ok.len q.2 now ok.tm.1 ok.tm.2 (by have:=ok.qt;omega) (ok.miss hH)) fun w6 x6=>?_;refine aB ?_;have x06:=x05.trans x6;have bq6:=x6.at bq5;have bc6:=x6.at bc5;have hpq6:=hpq.ext x6;have hpc6:=hpc.ext x6;have hp6:=hp5.ext x6;clear hpq hpc hp5;refine_lift bU fun _ _=>?_;refine aO 6 (Ext w6) zDk ?_;intro w7 x7 _;refine ⟨x7,?_⟩;refine bE 0 ?_;refine bE 1 ?_;refine bE 2 ?_;refine bE 3 ?_;refine bE 4 ?_;refine bE 5 ?_;have x07:=x06.trans x7;have htab:=h.tab.ext x07;refine dH 6 ?_;cases hT:S.tt with
   | some y =>
    rw [hT]at htab;obtain ⟨g1,g2,g3⟩:=ok.same y hT;refine gS (WO htab q.1 q.2 ⟨src,m.id,q.1⟩ ok.lab ok.lab g1 g2 g3) ?_;rintro _ w8 ⟨rfl,t8,k8,l8⟩;refine ⟨_,rfl,?_⟩;refine aB ?_;refine aD ⟨aN rfl,?_⟩;refine cZ 7 ?_;refine cZ 8 ?_;refine cZ 9 ?_;refine cZ 10 ?_;refine cZ 11 ?_;refine cZ 12 ?_;refine cZ 13 ?_;refine jP ?_;refine_lift jQ fun _=>?_
    go_end0
    have kk:Kf oT [] w w8:=(Kf.of x07).trans k8;have ll:=(Lo.of x07).trans l8;have hE:=ll.ext h.ext (Nat.le_refl _);refine ⟨rfl,M,rfl,?_,Ko.kf kk aK,ll,fun _ hN=>by rw [hN]at hT;cases hT⟩;have e1:S.ask ⟨src,m.id,q.1⟩ q now={ S with tt:=some { y with l:=y.l ++ [⟨src,m.id,q.1⟩] } }:=by
     rw [NodeR.ask,if_neg hR,hH];simp only [hT]
    rw [e1];refine ⟨hE,h.nod.keep kk ll.size aK aK,h.rts.keep kk.keep aK,h.cac.keep kk aX aK aK aK,h.den.keep kk aK,t8,h.gm,h.map.keep kk aX,fun z hz=>?_,h.ne⟩;obtain ⟨rb,qv',hN⟩:=h.tsk z hz;exact ⟨rb,qv',hN.keep kk hE aK aK aK aK aK aK⟩
   | none =>
    rw [hT]at htab;refine gS (WK htab q.1 q.2 ⟨src,m.id,q.1⟩ ok.lab ok.lab ok.last) ?_;rintro _ w8 ⟨rfl,t8,k8,l8,f8⟩;refine ⟨_,rfl,?_⟩;refine aB ?_;refine aD ⟨aN rfl,?_⟩;refine cZ 7 ?_;refine cZ 8 ?_;refine cZ 9 ?_;refine cZ 10 ?_;refine cZ 11 ?_;refine cZ 12 ?_;refine cZ 13 ?_;refine jP ?_;have hI:=ok.idle hT;have kk:Kf oT [M.tm] w w8:=(Kf.of x07).trans k8;have ll:=(Lo.of x07).trans l8;have hE:=ll.ext h.ext (Nat.le_refl _);have h8:NodeW wL Bo w8 M { S with last:=S.last+1,tt:=some ⟨S.last+1,fold q.1,q.2,[⟨src,m.id,q.1⟩]⟩ }:=⟨hE,h.nod.keep kk ll.size aK aK,h.rts.keep kk.keep aK,h.cac.keep kk (by simp [h.ne.1]) aK aK aK,h.den.keep kk aK,t8,h.gm,h.map.keep kk (by simp [h.ne.2.2.symm]),fun z hz=>(by rw [show S.nt=none from hI]at hz;cases hz),h.ne⟩;have bq8:=k8.cells _ _ _ _ (x7.at bq6) aK;have hpq8:=aA (cs:=[aE q.1, .int .i64 q.2]) bq8;have hp8:=aA (cs:=[M.rv, .int .i64 S.bud, .int .i64 S.room, .int .i64 S.most, .int .i64 S.wt, .pointer (some ⟨M.cb,0,none⟩), .pointer (some ⟨M.db,0,none⟩), .pointer (some ⟨M.tb,0,none⟩), .map (some M.mb), .int .i64 (S.sent:Nat),M.ov]) h8.nod.blk;clear hpq6 hpc6 hp6;refine_lift lQ fun _ _ _=>?_;have hel1:=h8.rts.sl;refine cQ (S:=fun w'=>Ext w8 w') zDk ?_;intro w9 x9 hh9;refine dM 0 ?_;refine aB ?_;refine dM 1 ?_;refine aB ?_;refine dM 2 ?_;refine aB ?_;refine dM 3 ?_;refine aB ?_;refine dM 4 ?_;refine aB ?_;refine dM 5 ?_;refine aB ?_;refine dM 6 ?_;refine aB ?_;refine dM 7 ?_;refine aB ?_;refine dM 8 ?_;refine aB ?_;refine dM 9 ?_;refine aB ?_;refine dM 10 ?_;refine aB ?_;have y9:=x9.size;apply Ct (F:=fun (k b:Nat) (u:Value) w'=>Ext w8 w'∧w8.heap.size≤k∧w'.heap[k]? = some (.cells eY.toArray 201 (0,0))∧ActRet wL b (eG q.1 q.2 S.roots S.bud).on u w')
    ·intro hG;have cN:∀ w',Ext w8 w'→Calls Tryz.prog 142 #[.agg #[aE q.1, .int .i64 q.2],M.rv, .int .i64 S.bud] w' (kZ w' fun r w''=>∃ b u,r=.tuple #[.pointer (some ⟨b,0,none⟩),u, .int .i64 0]∧ActRet wL b (eG q.1 q.2 S.roots S.bud).on u w''):=fun w' hx=>by
      refine (Cx q.1 q.2 M.rv S.roots S.bud w' (hel1.ext hx) (by have:=ok.rtl;omega)).mono ?_;rintro e w'' ⟨r,rfl,hxx,hr⟩;unfold rC at hr;rw [if_pos ok.te]at hr;obtain ⟨b,u,rfl,g1,g2⟩:=hr;exact ⟨_,rfl,hxx,b,u,rfl,g1,g2.weaken (hE.trans hx)⟩
     refine tT (i:=11) (j:=16) zDk rfl rfl rfl ?_ ?_
     ·refine gY (cN _ x9) ?_;rintro _ wA xA ⟨b,u,rfl,hA⟩;refine aB ?_;have x1A:=x9.trans xA;have yA:=x1A.size;refine aD ⟨x1A,?_⟩;refine dM 12 ?_;refine aB ?_;refine dM 13 ?_;refine aB ?_;refine dM 14 ?_;refine aB ?_;refine dM 15 ?_;refine aB ?_;refine bZ (i:=16) zDk rfl rfl ?_;refine dX (z:=eY) fun wB xB sB bB=>?_;refine aB ?_;refine aD ⟨x1A.trans xB,?_⟩;have hB:=hA.ext xB;generalize wA.heap.size=k at *;exact hG k b u wB ⟨x1A.trans xB,yA,bB,hB⟩
     ·refine dX (z:=eY) fun wA xA sA bA=>?_;refine aB ?_;have x1A:=x9.trans xA;refine aD ⟨x1A,?_⟩;refine bZ (i:=11) zDk rfl rfl ?_;refine gY (cN _ x1A) ?_;rintro _ wB xB ⟨b,u,rfl,hA⟩;refine aB ?_;refine aD ⟨x1A.trans xB,?_⟩;refine dM 12 ?_;refine aB ?_;refine dM 13 ?_;refine aB ?_;refine dM 14 ?_;refine aB ?_;refine dM 15 ?_;refine aB ?_;have bB:=xB.at bA;generalize w9.heap.size=k at *;exact hG k b u wB ⟨x1A.trans xB,y9,bB,hA⟩
    clear hh9;rintro k b u w10 ⟨x10,g10,c10,hA⟩;refine dM 17 ?_;refine aB ?_;refine bZ (i:=18) zDk rfl rfl ?_;obtain ⟨v1,v2,rfl,o1,o2⟩:=hA.1.out;refine dL (v:=.agg (dV (eG q.1 q.2 S.roots S.bud).on.2 v1 v2).toArray) c10 (nN o1.one o2.one) fun w11 p11=>?_;have x811:=cJ x10 p11;refine aD ⟨x811,?_⟩;refine dM 19 ?_;refine aB ?_;refine cO zDk ?_;have hE10:=hE.trans x10;have y8:=hE.size;have hAV:ActV w11 (.agg (dV (eG q.1 q.2 S.roots S.bud).on.2 v1 v2).toArray) (eG q.1 q.2 S.roots S.bud).on.2:=hA.1.put p11 c10 aK;have hAT:TaskAt wL w11 b (eG q.1 q.2 S.roots S.bud).on.1:=by
     obtain ⟨rv,sv,gv,ev,hT'⟩:=hA.2;exact ⟨rv,sv,gv,ev,hT'.other p11 c10 (Nat.le_trans y8 g10)⟩
    have c11:=p11.this;have hpq11:=hpq8.ext x811;have hp11:=hp8.ext x811;have h11:=h8.grow x811;clear hpq8 hp8 hel1;refine_lift bU fun _ _=>?_;refine aO 9 (Ext w11) zDk ?_;intro w12 x12 _;refine ⟨x12,?_⟩;refine bE 0 ?_;refine bE 1 ?_;refine bE 2 ?_;refine bE 3 ?_;refine bE 4 ?_;refine bE 5 ?_;refine bE 6 ?_;have h12:=h11.grow x12;refine yB (i:=7) (v:=.agg (WN ⟨S.last+1,(eG q.1 q.2 S.roots S.bud).on.1,[],0,q.1,q.2,0,zeroM,0⟩ b aI).toArray) rfl rfl (fun _=>Runs.build (vals:=[(0, .pointer (some ⟨b,0,none⟩)),(2, .agg #[aE q.1, .int .i64 q.2])]) rfl (by kernel_rfl)) ?_;refine aB ?_;refine dH 8 ?_;refine jO (vs:=WN ⟨S.last+1,(eG q.1 q.2 S.roots S.bud).on.1,[],0,q.1,q.2,0,zeroM,0⟩ b aI) fun w13 x13 s13 b13=>?_;refine aB ?_;have x1113:=x12.trans x13;refine aD ⟨aR x1113,?_⟩;have hm13:MapS CK w13 M.mb []:=by
     have:=(h12.grow x13).map;rw [show S.nt=none from hI]at this;exact this
    have htm:eI Tryz.prog 150 3 195=true:=zDk;obtain ⟨w14,o14,hr14,p14,m14⟩:=nK kN htm hm13 (x:=.int .i64 (S.last+1)) (v:=.pointer (some ⟨w12.heap.size,0,none⟩)) ⟨_,rfl⟩ aX;refine dH 9 ?_;refine eQ rfl rfl rfl rfl hr14 ?_;refine aD ⟨aN rfl,?_⟩;refine jP ?_;have k14:Kf [] [M.mb] w11 w14:=(Kf.of x1113).trans (Kf.putMap p14 hm13 aX);have l14:Lo wL.heap.size w11 w14:=(Lo.of x1113).trans (Lo.put p14 h.gm);have c14:=k14.cells _ _ _ _ c11 aX;have hpa14:=aA (cs:=dV (eG q.1 q.2 S.roots S.bud).on.2 v1 v2) c14;unfold dV at hpa14;refine_lift aT ?_;have hE14:Ext wL w14:=l14.ext h11.ext (Nat.le_refl _);have kP:Kf [] [M.mb] w13 w14:=Kf.putMap p14 hm13 aX;have h14:NodeW wL Bo w14 { M with sb:=w12.heap.size } { S with last:=S.last+1,tt:=some ⟨S.last+1,fold q.1,q.2,[⟨src,m.id,q.1⟩]⟩,nt:=some ⟨S.last+1,(eG q.1 q.2 S.roots S.bud).on.1,[],0,q.1,q.2,0,zeroM,0⟩ }:=by
     refine ⟨hE14,h11.nod.keep k14 l14.size aX aX,h11.rts.keep k14.keep aX,h11.cac.keep k14 (by simp [h.ne.2.1]) aX aX aX,h11.den.keep k14 aX,h11.tab.keep k14 (by simp [h.ne.2.2]) aX aX aX,h.gm,m14,?_,h.ne⟩;rintro z ⟨⟩;exact ⟨b,aI,h12.ext.size,kP.cells _ _ _ _ b13 aX,hAT.keep k14 hE14 aX aX aX aX,Own.nil _ _ _ _,rfl,rfl,rfl⟩
    have hA14:ActV w14 (.agg (dV (eG q.1 q.2 S.roots S.bud).on.2 v1 v2).toArray) (eG q.1 q.2 S.roots S.bud).on.2:=by
     obtain ⟨u1,u2,g1,g2,g3⟩:=hAV.out;exact ⟨u1,u2,g1,g2.keep k14.keep aX,g3.keep k14.keep aX⟩
    refine gS (MW h14 rfl _ _ hA14 ok.on now ok.tm.1 ok.tm.2 ok.wt ok.sent (Nat.le_trans ok.out aC)) ?_;rintro _ w15 ⟨rfl,ov,h15,f15,l15⟩;refine ⟨_,rfl,?_⟩;refine aB ?_;refine_lift aT ?_
    go_end0
    have z07:=x07.size;have z8:=l8.size;have z811:=x811.size;have z12:=x12.size;have z13:=x13.size;have z14:=p14.size;have fB:Bn Bo [M.nb,M.tb,M.tm,M.mb] w w15:=fun j j1 j2 j3=>by
     have e1:j≠M.nb:=fun e=>j3 (by simp [e]);have e2:j≠M.tb:=fun e=>j3 (by simp [e]);have e3:j≠M.tm:=fun e=>j3 (by simp [e]);have e4:j≠M.mb:=fun e=>j3 (by simp [e]);rw [f15 j aC j2 (by simp;omega),p14.other j e4,x1113.block j aC,x811.block j aC,f8 j aC e2 e3,x07.block j j1]
    refine ⟨rfl,{ M with sb:=w12.heap.size,ov:=ov },rfl,?_,Ko.bn fB ?_,((Lo.of x07).trans l8).trans ((Lo.of x811).trans (l14.trans l15)),fun _ _=>fB⟩
    ·rw [NodeR.ask,if_neg hR,hH];simp only [hT];exact h15
    ·obtain ⟨tbk,hTb⟩:=h.tab;intro j hj cs t fz e;simp only [List.mem_cons,List.not_mem_nil,or_false]at hj;rcases hj with rfl|rfl|rfl|rfl
     ·rw [hb]at e;injection (Option.some.inj e)with _ e2
      rw [← e2]
      decide
     ·rw [hTb.blk]at e;injection (Option.some.inj e)with _ e2
      rw [← e2]
      decide
     ·exact absurd rfl (hTb.map.neCells e)
     ·exact absurd rfl (h.map.neCells e)
 all_goals
  refine gS (GI (h.grow x05).nod ⟨src,m.id,q.1⟩ q.2 5 (.slice none 0 0) (.slice none 0 0) [] [] (Sl.nil _ _) (Sl.nil _ _) (by have:=ok.out;omega)) ?_;rintro _ w6 ⟨rfl,ov,h6,k6,l6,f6⟩;refine ⟨_,rfl,?_⟩;refine aB ?_;refine_lift aT ?_;refine bodyPost_ret (results_none rfl _ _ _) rfl ⟨rfl,{ M with ov:=ov },rfl,?_,(Ko.of x05).trans (Ko.bf (x05.at hb) f6),(Lo.of x05).trans l6,fun _ _=>Bn.bf x05 f6 aX⟩;rw [NodeR.ask,if_pos aC];exact (h.grow x05).outs h6 k6 l6
theorem Av (a b:mU) (w:World):Calls Tryz.prog 181 #[.agg #[aE a.1, .int .i64 a.2], .agg #[aE b.1, .int .i64 b.2]] w (bC w (.bool (decide (a.2=b.2)&&oR a.1 b.1))):=by
 go_enter Tryz.func181,Tryz.ntmps181
 refine_lift mT fun _ _=>?_;refine mW (vs:=[aE a.1, .int .i64 a.2]) fun p w1 x1 hp=>?_;refine aB ?_;refine mW (vs:=[aE b.1, .int .i64 b.2]) fun q w2 x2 hq=>?_;refine aB ?_;have hp2:=hp.ext x2;refine_lift HO (fun hc=>?_) (fun _ _ hc=>?_)
 ·refine cB (yO a.1 b.1 _) fun w3 x3=>?_;refine_lift aT ?_;go_ret;exact ⟨by simp [*],x1.trans (x2.trans x3)⟩
 ·go_ret;exact ⟨by simp [*],x1.trans x2⟩
def LG (a b:mU):Bool:=decide (a.2=b.2)&&oR a.1 b.1
def Dd (l m:List mU):Bool:=decide (l.length=m.length)&&(l.zip m).all fun x=>LG x.1 x.2
theorem TK {l m:List mU} (h1:k<l.length) (h2:k<m.length):((l.take (k+1)).zip (m.take (k+1))).all (fun x=>LG x.1 x.2)=(((l.take k).zip (m.take k)).all (fun x=>LG x.1 x.2)&&LG l[k] m[k]):=by
 rw [List.take_succ_eq_append_getElem h1,List.take_succ_eq_append_getElem h2,List.zip_append (by simp;omega),List.all_append];simp
theorem De (u v:Value) (l m:List mU) (w:World) (hu:Sl 2 w u (cV l)) (hv:Sl 2 w v (cV m)):Calls Tryz.prog 180 #[u,v, .func (.func 181) #[] #[]] w (bC w (.bool (Dd l m))):=by
 have hl1:(cV l).length=l.length:=List.length_map ..;have hl2:(cV m).length=m.length:=List.length_map ..;have hle:=hu.le;go_enter Tryz.func180,Tryz.ntmps180
 refine_lift UT (fun _ _ _=>?_) (fun _=>?_)
 ·go_ret;refine ⟨?_,Ext.refl _⟩;have hne:¬ l.length=m.length:=by
   have hh:=‹(!decide (((cV l).length:Int)=(cV m).length))=true›;simp only [Bool.not_eq_true',decide_eq_false_iff_not,hl1,hl2]at hh;omega
  simp [Dd,hne]
 ·have he:l.length=m.length:=by
   have hh:=‹(!decide (((cV l).length:Int)=(cV m).length))=false›;simp only [Bool.not_eq_false',decide_eq_true_eq,hl1,hl2]at hh;omega
  go_loopw [7,8,9,17] (fun _ _ _ i wr=>∃ k:Nat,k≤l.length∧i=.int .i64 k∧Ext w wr∧((l.take k).zip (m.take k)).all (fun x=>LG x.1 x.2)=true) (fun _ _ _ i _=>l.length - (intOf i).toNat)
  case atStart=>exact ⟨0,Nat.zero_le _,rfl,Ext.refl _,rfl⟩
  case round =>
   obtain ⟨k,hk,rfl,hx,hall⟩:=hrel;have hu2:=hu.ext hx;have hv2:=hv.ext hx;by_cases hlt:k<l.length
   ·have hlm:k<m.length:=aC;have hpa:=hu2.elem (rV hlt);refine_lift rR ?_;intro _ _ _ _ _ _;refine dX (z:=[aE [], .int .i64 0]) fun w2 x2 s2 b2=>?_;refine aB ?_;refine_lift aT ?_;refine dL (v:=.agg #[aE l[k].1, .int .i64 l[k].2]) b2 (OZ rfl rfl) fun w3 p3=>?_;have x13:=cJ x2 p3;have hpl:=aA (cs:=[aE l[k].1, .int .i64 l[k].2]) p3.this;have hv3:=hv2.ext x13;have hpb:=hv3.elem (rV hlm);refine_lift bU fun _ _=>?_;refine dX (z:=[aE [], .int .i64 0]) fun w4 x4 s4 b4=>?_;refine aB ?_;refine dL (v:=.agg #[aE m[k].1, .int .i64 m[k].2]) b4 (OZ rfl rfl) fun w5 p5=>?_;have x35:=cJ x4 p5;have hpm:=aA (cs:=[aE m[k].1, .int .i64 m[k].2]) p5.this;have hpl5:=hpl.ext x35;refine_lift bU fun _ _=>?_;refine dW (enters_of Tryz.func181 rfl rfl) rfl rfl rfl (Av l[k] m[k] _) ?_;rintro e w6 ⟨rfl,x6⟩;refine ⟨_,rfl,?_⟩;refine aB ?_;have hx6:=(hx.trans x13).trans (x35.trans x6);cases hp:LG l[k] m[k] with
    | false =>
     rw [show (decide (l[k].2=m[k].2)&&oR l[k].1 m[k].1)=false from hp];refine_lift aT ?_;go_ret;refine ⟨?_,hx6⟩;have hn:(l.zip m).all (fun x=>LG x.1 x.2)=false:=by
      rw [List.all_eq_false];refine ⟨(l[k],m[k]),?_,by simp [hp]⟩;have:(l.zip m)[k]? = some (l[k],m[k]):=by rw [List.getElem?_zip_eq_some];exact ⟨List.getElem?_eq_getElem hlt,List.getElem?_eq_getElem hlm⟩
      exact List.mem_of_getElem? this
     simp [Dd,hn]
    | true =>
     rw [show (decide (l[k].2=m[k].2)&&oR l[k].1 m[k].1)=true from hp];refine_lift aT ?_;exact ⟨⟨k+1,aC,by go_num,hx6,by rw [TK hlt hlm,hall,hp];rfl⟩,by simp [intOf];omega⟩
   ·have hkl:k=l.length:=aC;rw [hkl,List.take_length,he,List.take_length]at hall;refine_lift jQ fun _=>?_;go_ret;exact ⟨by simp [Dd,he,hall],hx⟩
def JJ (q m:MsgR):Bool:=m.resp && !q.resp&&decide (q.id=m.id)&&decide (q.op=0)&&decide (m.op=0)&&(decide (q.qs.length=1)&&Dd q.qs m.qs)
theorem PF (q m:MsgR) (a1 a2 a3 a4 b1 b2 b3 b4:Value) (w:World) (hq:MsgV w q a1 a2 a3 a4) (hm:MsgV w m b1 b2 b3 b4):Calls Tryz.prog 136 #[.agg (aP q a1 a2 a3 a4).toArray, .agg (aP m b1 b2 b3 b4).toArray] w (bC w (.bool (JJ q m))):=by
 have hl:(cV q.qs).length=q.qs.length:=List.length_map ..;go_enter Tryz.func136,Tryz.ntmps136
 refine_lift mT fun _ _=>?_;refine mW (vs:=aP q a1 a2 a3 a4) fun pq w1 x1 hpq=>?_;refine aB ?_;refine mW (vs:=aP m b1 b2 b3 b4) fun pm w2 x2 hpm=>?_;refine aB ?_;have hpq2:=hpq.ext x2;unfold aP at hpq2 hpm;have hq2:=hq.qs.ext (x1.trans x2);have hm2:=hm.qs.ext (x1.trans x2);have hx:=x1.trans x2;clear hpq
 (repeat' first|((with_reducible refine aZ ?_);go_step)|((with_reducible refine aS ?_);first|refine dN ?_|(refine bG ?_ ?_<;>intro hc))|fail)
 all_goals first
  | (go_ret
     refine ⟨?_,hx⟩;simp_all [JJ]
     done)
  | skip
 ·refine cB (De a1 b1 q.qs m.qs _ hq2 hm2) fun w3 x3=>?_;refine_lift aT ?_;go_ret;refine ⟨?_,hx.trans x3⟩;have h1:q.qs.length=1:=aC;simp_all [JJ]
 ·go_ret;refine ⟨?_,hx⟩;have h1:¬ q.qs.length=1:=aC;simp_all [JJ]
theorem Sl.upper (h:Sl k w v es) (hf:From B v) (ha:∀ g,B≤g→g<w.heap.size→w'.heap[g]? = w.heap[g]?):Sl k w' v es:=by
 obtain ⟨a,cap,h1,h2,h3,h4,h5,h6⟩:=h;refine ⟨a,cap,h1,h2,h3,h4,h5,fun hn=>?_⟩;obtain ⟨g,o,e,hc⟩:=h6 hn;have hg:B≤g:=hf g o none _ _ (by rw [h1,e]);refine ⟨g,o,e,fun i e j x h1 h2=>?_⟩;have h9:=hc i e j x h1 h2;have hlt:g<w.heap.size:=by
  rcases Nat.lt_or_ge g w.heap.size with h8|h8
  ·exact h8
  ·have:w.heap[g]? = none:=Array.getElem?_eq_none h8;simp [World.cell?,this]at h9
 exact (World.cell?_of_block (ha g hg hlt)).trans h9
theorem Df {α β γ δ:Type} {F:α→β→γ→δ→World→Prop} {G:α→β→γ→δ→World→Prop} {goal:Prop} (h1:(∀ x y z u w',F x y z u w'→G x y z u w')→goal) (h2:∀ x y z u w',F x y z u w'→G x y z u w'):goal:=h1 h2
theorem Kf.fr {T:List TypeId} {N:List Nat} {rb:Nat} {t:TaskR} {rv sv gv ev:Value} (h:TaskV w0 w rb t rv sv gv ev) (f:Fr rb gv w w') (h1:273∈T) (h2:37∈T):Kf T N w w':=by
 refine ⟨fun j cs t fz hj ht=>?_,fun j es c hj _=>?_⟩
 ·rw [f.block j (Array.getElem?_eq_some_iff.1 hj).1 (by
   rintro rfl;rw [h.blk]at hj;injection (Option.some.inj hj)with _ e2
   exact ht (e2▸h1)) (fun e=>by
   obtain ⟨cur,fz',hq⟩:=h.gs.type e;rw [hq]at hj;injection (Option.some.inj hj)with _ e2
   exact ht (e2▸h2))]
  exact hj
 ·rw [f.block j (Array.getElem?_eq_some_iff.1 hj).1 (by
   rintro rfl;rw [h.blk]at hj;cases hj) (fun e=>by
   obtain ⟨cur,fz',hq⟩:=h.gs.type e;rw [hq]at hj;cases hj)]
  exact hj
def GJ:CacheR→List LrnR→Int→CacheR
 | C,[],_=>C
 | C,l::ls,now=>GJ (C.put l.set l.rank now).1 ls now
def tI:CacheR→List LrnR→Int→Bool
 | _,[],_=>true
 | C,l::ls,now=>decide ((1≤l.rank∧l.rank≤5)∧(0≤C.calls∧C.calls≤1000000000)∧(C.l.length:Int)<C.room∧(1≤C.most∧C.most≤2147483647))&&tI (C.put l.set l.rank now).1 ls now
def NodeR.tolds (S:NodeR) (x:NTask) (y:WaitR) (t:TaskR) (a:ActR) (ls:List LrnR) (now:Int):NodeR :=
 if a.kind=1 then ({ S with nt:=some { x with t:=t },C:=GJ S.C ls now }:NodeR).send { x with t:=t } a now
 else ({ S with nt:=some { x with t:=t },C:=GJ S.C ls now }:NodeR).done { x with t:=t } y a
theorem WR {wL:World} {Bo:Nat} {M:NodeM} {S:NodeR} (h:NodeW wL Bo w M S) {x:NTask} (hx:S.nt=some x) {y:WaitR} (hy:S.tt=some y) (hn:y.n=x.n) (a:ActR) (u:Value) (hu:ActV w u a) (hk:a.kind=1∨a.kind=2∧a.auth=[]) (now:Int) (h0:0≤now) (h1:now≤1099511627776) (h2:0≤S.wt∧S.wt≤2147483647) (h3:S.sent≤1000000) (hl:y.l.length≤10) (h4:S.out.length≤90000) :
 Calls Tryz.prog 95 #[.pointer (some ⟨M.nb,0,none⟩), .int .i64 x.n,u, .int .i64 now] w (fun e w'=>e=.returned (.tuple #[])∧∃ ov,NodeW wL Bo w' { M with ov:=ov } (if a.kind=1 then S.send x a now else S.done x y a)∧Ko Bo w w'∧Lo wL.heap.size w w'):=by
 rcases hk with hk|⟨hk,ha⟩
 ·rw [if_pos hk];refine (MW h hx a u hu hk now h0 h1 h2 h3 aC).mono ?_;rintro e w3 ⟨rfl,ov,g1,g2,g3⟩;refine ⟨rfl,ov,g1,Ko.bn g2 ?_,g3⟩;intro j hj cs t fz hb;rcases List.mem_cons.1 hj with rfl|hj
  ·rw [h.nod.blk]at hb;injection (Option.some.inj hb)with _ e2
   rw [← e2]
   decide
  ·rw [List.mem_singleton.1 hj]at hb;obtain ⟨rb,qv,hN⟩:=h.tsk _ hx;rw [hN.blk]at hb;injection (Option.some.inj hb)with _ e2
   rw [← e2]
   decide
 ·rw [if_neg (by rw [hk];decide)];exact WQ h hx hy hn a u hu hk ha now hl h4
theorem WS {wL:World} {Bo:Nat} {M:NodeM} {S:NodeR} (h:NodeW wL Bo w M S) {x:NTask} (hx:S.nt=some x) {y:WaitR} (hy:S.tt=some y) (hn:y.n=x.n) (m:MsgR) (q a u e:Value) {n:Nat} (hm:MsgW B w m q a u e) (hmt:JJ x.q m=true) (hB:TaskB x.t n) (hnn:n≤100000) (h1:m.an.length≤300) (h2:m.au.length≤300) (h3:m.ex.length≤300)
 (hd1:∀ z,∀ r∈x.t.of m.au z 2,r.data.length≤9223372036854775807) (hd2:∀ n,∀ r∈x.t.of m.ex n 1,r.data.length≤9223372036854775807) {t:TaskR} {ac:ActR} {ls:List LrnR} (hr:x.t.reply m=(t,ac,ls)) (hk:ac.kind=1∨ac.kind=2∧ac.auth=[]) (hwt:0≤S.wt∧S.wt≤2147483647) (hst:S.sent≤1000000) (hl:y.l.length≤10) (h4:S.out.length≤90000) (now:Int) (g0:0≤now) (g1:now≤1099511627776)
 (hpo:tI S.C ls now=true) (hls:ls.length≤100000) :
 Calls Tryz.prog 81 #[.pointer (some ⟨M.nb,0,none⟩), .int .i64 x.to, .agg (aP m q a u e).toArray, .int .i64 now] w (fun e w'=>e=.returned (.tuple #[])∧∃ M',M'.nb=M.nb∧NodeW wL Bo w' M' (S.tolds x y t ac ls now)∧Ko Bo w w'∧w.heap.size≤w'.heap.size):=by
 have hb:=h.nod.blk;have hp:=aA (cs:=[M.rv, .int .i64 S.bud, .int .i64 S.room, .int .i64 S.most, .int .i64 S.wt, .pointer (some ⟨M.cb,0,none⟩), .pointer (some ⟨M.db,0,none⟩), .pointer (some ⟨M.tb,0,none⟩), .map (some M.mb), .int .i64 (S.sent:Nat),M.ov]) hb;obtain ⟨rb,qv,hN⟩:=h.tsk x hx;have hmap:=h.map;rw [hx]at hmap;have htm:eI Tryz.prog 150 3 195=true:=zDk;have hzv:∀ w,(zeroValue 195).run Tryz.prog w=.ok (.pointer none) w:=fun w=>by kernel_rfl
 have cN:∀ w',Ext w w'→Calls Tryz.prog 94 #[.pointer (some ⟨M.nb,0,none⟩)] w' (kZ w' fun r w''=>Own 0 1 3 w'' r [[.int .i64 x.n]]):=fun w' hx'=>by
  refine (EM (h.grow hx')).mono ?_;rintro e w'' ⟨r,rfl,hxx,hr⟩;rw [show BO S=[x.n] by rw [BO,hx]]at hr;exact ⟨r,rfl,hxx,hr.weaken (Nat.zero_le _)⟩
 go_enter Tryz.func81,Tryz.ntmps81
 repeat' (first|((with_reducible refine aZ ?_);go_step)|fail)
 refine jO (vs:=aP m q a u e) fun w1 x1 s1 b1=>?_;refine aB ?_
 (repeat' first|((with_reducible refine aZ ?_);go_step)|((with_reducible refine aS ?_);first|refine dN ?_|(refine bG ?_ ?_<;>intro hc))|fail)
 refine gY (cN _ x1) fun v w2 x2 o2=>?_;refine aB ?_;have sl2:=o2.sl;have x02:=x1.trans x2;have hp2:=hp.ext x02;have hel:=sl2.elem (i:=0) rfl;have hlk:=eU (i:=0) kN htm hzv (hmap.ext x02) (x:=.int .i64 x.n) (v:=.pointer (some ⟨M.sb,0,none⟩)) ⟨_,rfl⟩ rfl (by simp [YI]) false;clear hp
 (repeat' first|((with_reducible refine aZ ?_);go_step)|((with_reducible refine aS ?_);first|refine dN ?_|(refine bG ?_ ?_<;>intro hc))|fail)
 go_loopw [18] (fun iv w9=>iv=.int .i64 0∧w9=w2) (fun _ _=>0)
 case atStart=>exact ⟨rfl,rfl⟩
 case round =>
  obtain ⟨rfl,rfl⟩:=hrel
  (repeat' first|((with_reducible refine aZ ?_);go_step)|((with_reducible refine aS ?_);first|refine dN ?_|(refine bG ?_ ?_<;>intro hc))|fail)
  refine aG (v:=.pointer (some ⟨M.sb,0,none⟩)) (Runs.lookup rfl rfl hlk) ?_;refine aB ?_;have bS:=x02.at hN.blk;have bM:=x2.at b1;have hpS:Pts wr (aV (.pointer (some ⟨M.sb,0,none⟩)) 5) [.int .i64 x.to]:=((aA bS).part 5).front 1;have hpQ:Pts wr (aV (.pointer (some ⟨M.sb,0,none⟩)) 6) (aP x.q qv aI aI aI):=((aA bS).part 6).front 13;have hpM:=aA (cs:=aP m q a u e) bM;unfold aP at hpQ hpM;have hmq:MsgV wr x.q qv aI aI aI:=⟨(hN.row.ext x02).sl,by rw [hN.nil.1];exact Sl.nil _ _,by rw [hN.nil.2.1];exact Sl.nil _ _,by rw [hN.nil.2.2];exact Sl.nil _ _⟩;have hmr:=hm.ext x02;have hck:∀ w',Ext wr w'→Calls Tryz.prog 136 #[.agg (aP x.q qv aI aI aI).toArray, .agg (aP m q a u e).toArray] w' (bC w' (.bool true)):=fun w' hx'=>by
   have:=PF x.q m qv aI aI aI q a u e w' (hmq.ext hx') (hmr.ext hx').msg;rw [hmt]at this;exact this
  (repeat' first|((with_reducible refine aZ ?_);go_step)|((with_reducible refine aS ?_);first|refine dN ?_|(refine bG ?_ ?_<;>intro hc))|fail)
  refine dA zDk zDk ?_
  (try ((with_reducible refine EW ?_);refine UO ?_))
  refine fL (v:=aV (.pointer (some ⟨M.sb,0,none⟩)) 5) (fun w' x'=>by apply Runs.fieldLitK (k:=2);rfl;decide +kernel) ?_;refine aB ?_
  (try ((with_reducible refine EW ?_);refine UO ?_))
  refine fL (v:=aV (.pointer (some ⟨M.sb,0,none⟩)) 6) (fun w' x'=>by apply Runs.fieldLitK (k:=2);rfl;decide +kernel) ?_;refine aB ?_
  (try ((with_reducible refine EW ?_);refine UO ?_))
  refine hO (enters_of Tryz.func136 rfl rfl) rfl rfl (fun w' x'=>hck w' x') ?_;refine aB ?_
  (try ((with_reducible refine EW ?_);refine UO ?_))
  intro w3 x3
  (repeat' first|((with_reducible refine aZ ?_);go_step)|((with_reducible refine aS ?_);first|refine dN ?_|(refine bG ?_ ?_<;>intro hc))|fail)
  have x03:=x02.trans x3;have hp0:Pts w3 (aV (.pointer (some ⟨M.sb,0,none⟩)) 0) [.pointer (some ⟨rb,0,none⟩)]:=((aA (x3.at bS)).part 0).front 1;have hpM3:=hpM.ext x3;have hm3:=hm.ext x03;obtain ⟨rv,sv,gv,ev,hTV⟩:=hN.tsk.grow x03;have cR:∀ w',Ext w3 w'→Calls Tryz.prog 137 #[.pointer (some ⟨rb,0,none⟩), .agg (aP m q a u e).toArray] w' (RRet wL w' rb gv (t,ac,ls)):=fun w' hx'=>by
   have hT':=hTV.grow hx';have hm':=hm3.ext hx';have:=VX hT' hB hnn m q a u e (fun w'' hv=>⟨(hm'.oq.mv hv (.inr (hm'.oq.neBlock hT'.blk aK))).sl,(hm'.oa.mv hv (.inr (hm'.oa.neBlock hT'.blk aK))).sl,(hm'.ou.mv hv (.inr (hm'.ou.neBlock hT'.blk aK))).sl,(hm'.oe.mv hv (.inr (hm'.oe.neBlock hT'.blk aK))).sl⟩) h1 h2 h3 hd1 hd2;rw [hr]at this;exact this
  clear hpS hpQ hpM hmq hmr hck hp2 hel hlk cN;refine aO 5 (Ext w3) zDk ?_;intro w4 x4 _;refine ⟨x4,?_⟩;refine bE 0 ?_;refine bE 1 ?_;refine bE 2 ?_;refine bE 3 ?_;refine bE 4 ?_;have y4:=x4.size;apply Df (F:=fun (k:Nat) (v1 v2 l:Value) w'=>w3.heap.size≤k∧w'.heap[k]? = some (.cells (dV ac v1 v2).toArray 201 (0,0))∧ActRet wL rb (t,ac) (.agg (dV ac v1 v2).toArray) w'∧LrnsV w3.heap.size w' l ls∧Kf [273,37,201] [] w3 w'∧w3.heap.size≤w'.heap.size)
  ·intro hG;refine ET (i:=5) (j:=9) zDk rfl rfl rfl ?_ ?_
   ·refine gS (cR _ x4) ?_;rintro _ w5 ⟨u',l,rfl,hA,hL,hF⟩;refine ⟨_,rfl,?_⟩;refine aB ?_;refine aD ⟨aN rfl,?_⟩;refine cZ 6 ?_;refine cZ 7 ?_;refine cZ 8 ?_;refine dH 9 ?_;refine dX (z:=eY) fun w6 x6 s6 b6=>?_;refine aB ?_;refine aD ⟨aN rfl,?_⟩;refine dH 10 ?_;obtain ⟨v1,v2,rfl,o1,o2⟩:=hA.1.out;refine dL (v:=.agg (dV ac v1 v2).toArray) b6 (nN o1.one o2.one) fun w7 p7=>?_;refine aD ⟨aN rfl,?_⟩;refine cZ 11 ?_;have x57:=cJ x6 p7;have y5:w3.heap.size≤w5.heap.size:=Nat.le_trans y4 hF.size;have y57:=x57.size;have b7:=p7.this;have kF:Kf [273,37] [] w3 w7:=(Kf.of x4).trans ((Kf.fr (hTV.grow x4) hF aX aX).trans (Kf.of x57));have hA7:=hA.ext x57;have hL7:=(hL.ext x57).weaken y4;clear p7 x6;generalize w5.heap.size=k at *;exact hG k v1 v2 l w7 ⟨y5,b7,hA7,hL7,kF.mono aX aX,aC⟩
   ·refine dX (z:=eY) fun w5 x5 s5 b5=>?_;refine aB ?_;have x45:=x4.trans x5;refine aD ⟨aR x45,?_⟩;refine dH 5 ?_;refine gS (cR _ x45) ?_;rintro _ w6 ⟨u',l,rfl,hA,hL,hF⟩;refine ⟨_,rfl,?_⟩;refine aB ?_;refine aD ⟨aN rfl,?_⟩;refine cZ 6 ?_;refine cZ 7 ?_;refine cZ 8 ?_;have kF:Kf [273,37] [] w3 w6:=(Kf.of x45).trans (Kf.fr (hTV.grow x45) hF aX aX);have b6:=(Kf.fr (T:=[273,37]) (N:=[]) (hTV.grow x45) hF aX aX).cells _ _ _ _ b5 aK;refine dH 10 ?_;obtain ⟨v1,v2,rfl,o1,o2⟩:=hA.1.out;refine dL (v:=.agg (dV ac v1 v2).toArray) b6 (nN o1.one o2.one) fun w7 p7=>?_;refine aD ⟨aN rfl,?_⟩;refine cZ 11 ?_;have y6:w5.heap.size≤w6.heap.size:=hF.size;have y67:=p7.size;have b7:=p7.this;have y5:=x45.size;have z03:=x03.size;have zL:=h.ext.size;have hA7:ActRet wL rb (t,ac) (.agg (dV ac v1 v2).toArray) w7:=by
     obtain ⟨rv',sv',gv',ev',hT'⟩:=hA.2;refine ⟨hA.1.put p7 b6 aK,rv',sv',gv',ev',hT'.other p7 b6 aC⟩
    have hL7:LrnsV w3.heap.size w7 l ls:=(hL.mvb p7.mv aC).weaken y5;have kF7:=kF.mono (T':=[273,37,201]) (M':=[]) aX aX;have kA:=kF7.trans (Kf.put p7 b6 aX);clear p7 b6;generalize w4.heap.size=k at *;exact hG k v1 v2 l w7 ⟨y4,b7,hA7,hL7,kA,aC⟩
  rintro k v1 v2 l w8 ⟨g8,b8,hA8,hL8,k8,y8⟩;refine jP ?_;obtain ⟨css,lo,llen,lel⟩:=hL8.out;have lsl:=lo.sl;have hE8:Ext wL w8:=by
   obtain ⟨rv',sv',gv',ev',hT'⟩:=hA8.2;exact hT'.ext
  have y03:=x03.size;have k08:Kf [273,37,201] [] w w8:=(Kf.of x03).trans k8;have h8:NodeW wL Bo w8 M { S with nt:=some { x with t:=t } }:=by
   refine ⟨hE8,h.nod.keep k08 aC aK aK,h.rts.keep k08.keep aK,h.cac.keep k08 aX aK aK aK,h.den.keep k08 aK,h.tab.keep k08 aX aK aK aK,h.gm,hmap.keep k08 aX,?_,h.ne⟩;rintro z ⟨⟩;exact ⟨rb,qv,hN.ge,k08.cells _ _ _ _ hN.blk aK,hA8.2,hN.row.keep k08.keep aK,hN.nil⟩
  (repeat' first|((with_reducible refine aZ ?_);go_step)|((with_reducible refine aS ?_);first|refine dN ?_|(refine bG ?_ ?_<;>intro hc))|fail)
  clear hr hd1 hd2 hB cR hTV hm hm3 hmap;have lcb:M.cb<w3.heap.size:=by
   obtain ⟨gs,hC⟩:=h.cac;have:=(Array.getElem?_eq_some_iff.1 hC.blk).1;omega
  have lem:M.em<w3.heap.size:=by
   obtain ⟨gs,hC⟩:=h.cac;have:=hC.map.lt;omega
  go_loopw [14,54] (fun _ iv wr=>∃ (k:Nat) (C:CacheR),k≤ls.length∧iv=.int .i64 k∧CacheAt wL.heap.size wr M.cb M.em C∧GJ C (ls.drop k) now=GJ S.C ls now∧tI C (ls.drop k) now=true∧Kf cT [M.em] w8 wr∧Lo wL.heap.size w8 wr∧∀ c,c<w8.heap.size→c≠M.cb→c≠M.em→wr.heap[c]? = w8.heap[c]?) (fun _ iv _=>ls.length - (intOf iv).toNat)
  case atStart=>exact ⟨0,S.C,Nat.zero_le _,rfl,h8.cac,rfl,hpo,Kf.of (Ext.refl _),Lo.of (Ext.refl _),fun _ _ _ _=>rfl⟩
  case round =>
   obtain ⟨k,C,hkl,rfl,c9,hpu,hpo9,k9,l9,ho9⟩:=hrel;have z9:=l9.size;have hE9:=l9.ext hE8 (Nat.le_refl _);have lsr:Sl 5 wr l css:=(lo.keep k9.keep aK).sl;by_cases hlt:k<ls.length
   ·obtain ⟨xv,lc,lx,lf,_⟩:=lel k ls[k] (List.getElem?_eq_getElem hlt);have hel:=lsr.elem lc;have hdr:ls.drop k=ls[k]::ls.drop (k+1):=(List.drop_eq_getElem_cons hlt);rw [hdr]at hpu hpo9;rw [show GJ C (ls[k]::ls.drop (k+1)) now=GJ (C.put ls[k].set ls[k].rank now).1 (ls.drop (k+1)) now from rfl]at hpu;unfold tI at hpo9;rw [Bool.and_eq_true,decide_eq_true_eq]at hpo9;obtain ⟨⟨⟨r1,r2⟩,hc,hroom,hmost⟩,hpo9⟩:=hpo9;generalize ls[k]=s at *;have lxr:Sl 1 wr xv (aH s.set.data):=lx.upper lf fun g hg hlt'=>ho9 g hlt' aC aC;clear lsl;unfold CG at hel
    (repeat' first|((with_reducible refine aZ ?_);go_step)|((with_reducible refine aS ?_);first|refine dN ?_|(refine bG ?_ ?_<;>intro hc))|fail)
    refine dX (z:=[aE [], .int .i64 0, .int .i64 0, .slice none 0 0, .int .i64 0]) fun w9 x9 s9 b9=>?_;refine aB ?_;refine dL (v:=.agg #[aE s.set.name, .int .i64 s.set.kind, .int .i64 s.set.ttl,xv, .int .i64 s.rank]) b9 (by obtain ⟨_,_,_,e9⟩:=lx.slf;rw [e9];simp [Value.cells,aE,Value.oneCell']) fun w10 p10=>?_;have x810:=cJ x9 p10;have b10:w10.heap[wr.heap.size]? = some (.cells [aE s.set.name, .int .i64 s.set.kind, .int .i64 s.set.ttl,xv, .int .i64 s.rank].toArray 248 (0,0)):=p10.this;have hps:Pts w10 (aV (.pointer (some ⟨wr.heap.size,0,none⟩)) 0) [aE s.set.name, .int .i64 s.set.kind, .int .i64 s.set.ttl,xv]:=((aA b10).part 0).front 4;have hp10:=aA (cs:=[M.rv, .int .i64 S.bud, .int .i64 S.room, .int .i64 S.most, .int .i64 S.wt, .pointer (some ⟨M.cb,0,none⟩), .pointer (some ⟨M.db,0,none⟩), .pointer (some ⟨M.tb,0,none⟩), .map (some M.mb), .int .i64 (S.sent:Nat),M.ov]) (x810.at (k9.cells _ _ _ _ h8.nod.blk aK));clear hel b9 p10
    repeat' (first|((with_reducible refine aZ ?_);go_step)|fail)
    refine aO 9 (Ext w10) zDk ?_;intro w11 x11 _;refine ⟨x11,?_⟩;refine bE 0 ?_;refine bE 1 ?_;refine bE 2 ?_;refine bE 3 ?_;refine bE 4 ?_;refine bE 5 ?_;clear hps;have hpl:=aA b10;refine bE 6 ?_;refine bE 7 ?_;refine bE 8 ?_;refine dH 9 ?_;refine gS (Ap (c9.ext (x810.trans x11)) s.set xv s.rank now (fun w' hs' ha'=>((lxr.ext (x810.trans x11)).upper lf fun g hg hlt=>ha' g hlt aC aC)) g0 g1 r1 r2 hc hroom hmost) ?_;rintro _ w12 ⟨rfl,c12,k12,l12,o12'⟩;refine ⟨_,rfl,?_⟩;refine aB ?_;refine aD ⟨aN rfl,?_⟩;refine jP ?_
    (repeat' first|((with_reducible refine aZ ?_);go_step)|((with_reducible refine aS ?_);first|refine dN ?_|(refine bG ?_ ?_<;>intro hc))|fail)
    have x011:=x810.trans x11;exact ⟨⟨k+1,_,aC,by go_num,c12,hpu,hpo9,k9.trans ((Kf.of x011).trans k12),l9.trans ((Lo.of x011).trans l12),fun c g1 g2 g3=>by rw [o12' c (by have:=x011.size;omega) g2 g3,x011.block c aC,ho9 c g1 g2 g3]⟩,by simp [intOf];omega⟩
   ·have hkq:k=ls.length:=aC;subst hkq;rw [List.drop_length,show GJ C [] now=C from rfl]at hpu;subst hpu;have b9:=k9.cells _ _ _ _ b8 aK;have hpa9:=aA (cs:=[.int .i64 ac.kind, .int .i64 ac.to,aE ac.qn, .int .i64 ac.qt, .int .i64 ac.code,v1,v2]) b9;have h9:NodeW wL Bo wr M { S with nt:=some { x with t:=t },C:=GJ S.C ls now }:=by
     refine ⟨hE9,h8.nod.keep k9 l9.size aK aK,h8.rts.keep k9.keep aK,c9,h8.den.keep k9 aK,h8.tab.keep k9 (by simp [h.ne.1.symm]) aK aK aK,h.gm,h8.map.keep k9 (by simp [h.ne.2.1.symm]),fun z hz=>?_,h.ne⟩;obtain ⟨rb',qv',hN'⟩:=h8.tsk z hz;exact ⟨rb',qv',hN'.keep k9 hE9 aK aK aK aK aK aK⟩
    have hA9:ActV wr (.agg (dV ac v1 v2).toArray) ac:=by
     obtain ⟨u1,u2,e1,e2,e3⟩:=hA8.1.out;exact ⟨u1,u2,e1,e2.keep k9.keep aK,e3.keep k9.keep aK⟩
    clear lsl
    (repeat' first|((with_reducible refine aZ ?_);go_step)|((with_reducible refine aS ?_);first|refine dN ?_|(refine bG ?_ ?_<;>intro hc))|fail)
    refine gS (WR h9 rfl hy hn ac _ hA9 hk now g0 g1 hwt hst hl h4) ?_;rintro _ w10 ⟨rfl,ov,h10,f10,l10⟩;refine ⟨_,rfl,?_⟩;refine aB ?_
    (repeat' first|((with_reducible refine aZ ?_);go_step)|((with_reducible refine aS ?_);first|refine dN ?_|(refine bG ?_ ?_<;>intro hc))|fail)
    exact bodyPost_ret (results_none rfl _ _ _) rfl ⟨rfl,{ M with ov:=ov },rfl,h10,(Ko.kf k08 aK).trans ((Ko.kf k9 aK).trans f10),by have:=l9.size;have:=l10.size;omega⟩
theorem rJ {n a b:Int} (h:a≤n∧n≤b) (w:World):Calls Tryz.prog 66 #[.int .i64 n, .int .i64 a, .int .i64 b] w (bC w (.bool true)):=by
 have:=TG n a b w;rw [decide_eq_true h.1,decide_eq_true h.2]at this;exact this
theorem Aw {n a b:Int} (h:¬(a≤n∧n≤b)) (w:World):Calls Tryz.prog 66 #[.int .i64 n, .int .i64 a, .int .i64 b] w (bC w (.bool false)):=by
 have:=TG n a b w;rw [show (decide (a≤n)&&decide (n≤b))=false by simp;omega]at this;exact this
theorem Ax (n:Int) (w:World):Calls Tryz.prog 68 #[.int .i64 n] w (bC w (.bool (!(decide (0≤n)&&decide (n≤99))))):=by
 go_enter Tryz.func68,Tryz.ntmps68
 refine_lift bU fun _ _=>?_;refine cB (TG n 0 99 _) fun w1 x1=>?_;refine_lift aT ?_;go_ret;exact ⟨rfl,x1⟩
theorem CacheAt.weaken {C:Nat} {cb em:Nat} {K:CacheR} (h:CacheAt B w cb em K) (hc:C≤B):CacheAt C w cb em K:=by
 obtain ⟨gs,h⟩:=h;exact ⟨gs,⟨Nat.le_trans hc h.ge.1,Nat.le_trans hc h.ge.2⟩,h.eq,h.blk,h.map,fun g hg=>let a:=h.ents g hg;⟨Nat.le_trans hc a.ge,a.blk,a.row.weaken hc,a.len,a.ok⟩,h.apart,h.keys⟩
theorem TabAt.weaken {C:Nat} {tb tm:Nat} {last:Int} {t:Option WaitR} (h:TabAt B w tb tm last t) (hc:C≤B):TabAt C w tb tm last t:=by
 obtain ⟨k,h⟩:=h;refine ⟨k,⟨Nat.le_trans hc h.ge.1,Nat.le_trans hc h.ge.2⟩,h.eq,h.blk,h.map,fun x b e=>?_⟩;obtain ⟨v,a⟩:=h.task x b e;exact ⟨v,Nat.le_trans hc a.ge,a.blk,a.row.weaken hc⟩
def NodeR.new (roots:List Int) (bud room most wt:Int):NodeR:=⟨roots,bud,room,most,wt,⟨room,most,0,[]⟩,0,none,none,0,[]⟩
theorem Ay (w:World):Calls Tryz.prog 35 #[.agg #[.slice none 0 0, .int .i64 0, .int .i64 0, .int .i64 0, .int .i64 0]] w (bC w (.tuple #[.pointer none, .int .i64 1])):=by
 go_enter Tryz.func35,Tryz.ntmps35
 refine_lift mT fun _ _=>?_;refine jO (vs:=[.slice none 0 0, .int .i64 0, .int .i64 0, .int .i64 0, .int .i64 0]) fun w1 x1 s1 b1=>?_;refine aB ?_;have hp:=aA (cs:=[.slice none 0 0, .int .i64 0, .int .i64 0, .int .i64 0, .int .i64 0]) b1;have sl0:Sl 1 w1 (.slice none 0 0) []:=Sl.nil _ _;refine_lift bU fun _ _=>?_;refine cB (Aw (n:=(([]:List (List Value)).length:Nat)) (a:=1) (b:=20) aX _) fun w2 x2=>?_;refine_lift aT ?_;exact bodyPost_ret (results_tmp2 rfl _ _ _) rfl ⟨rfl,x1.trans x2⟩
theorem Dg (rv:Value) (rl:List Int) (bud room most wt:Int) (w:World) (hv:Sl 1 w rv (bO rl)) (c1:1≤rl.length∧rl.length≤20) (c2:1≤bud∧bud≤100) (c3:1≤room∧room≤200) (c4:1≤most∧most≤2147483647) (c5:1≤wt∧wt≤2147483647) (c6:rl.any (fun n => !(decide (0≤n)&&decide (n≤99)))=false) :
 Calls Tryz.prog 35 #[.agg #[rv, .int .i64 bud, .int .i64 room, .int .i64 most, .int .i64 wt]] w (kZ w fun r w'=>∃ M,r=.tuple #[.pointer (some ⟨M.nb,0,none⟩), .int .i64 0]∧M.ov=.slice none 0 0∧NodeW w w'.heap.size w' M (NodeR.new rl bud room most wt)):=by
 have hlen:(bO rl).length=rl.length:=List.length_map ..;have hle:=hv.le;go_enter Tryz.func35,Tryz.ntmps35
 refine_lift sF ?_;intro _ _ _;refine jO (vs:=[rv, .int .i64 bud, .int .i64 room, .int .i64 most, .int .i64 wt]) fun w1 x1 s1 b1=>?_;refine aB ?_;have hp:=aA (cs:=[rv, .int .i64 bud, .int .i64 room, .int .i64 most, .int .i64 wt]) b1;have hv1:=hv.ext x1;refine_lift bU fun _ _=>?_;refine cB (rJ (n:=((bO rl).length:Nat)) (a:=1) (b:=20) (by rw [hlen];omega) _) fun w2 x2=>?_;refine_lift aT ?_;refine cB (rJ c2 _) fun w3 x3=>?_;refine_lift aT ?_;refine cB (rJ c3 _) fun w4 x4=>?_;refine_lift aT ?_;refine cB (rJ c4 _) fun w5 x5=>?_;refine_lift aT ?_;refine cB (rJ c5 _) fun w6 x6=>?_;have hx6:=x2.trans (x3.trans (x4.trans (x5.trans x6)));have hp6:=hp.ext hx6;have hv6:=hv1.ext hx6;clear hp hv1;refine_lift mH fun _ _ _ _=>?_;have hCF:=qA rv rl 68 (fun n => !(decide (0≤n)&&decide (n≤99))) w6 hv6 (enters_of Tryz.func68 rfl rfl) (fun n _ w'=>Ax n w');rw [c6]at hCF;refine cB hCF fun w7 x7=>?_;have hx7:=hx6.trans x7;have x07:=x1.trans hx7;have hp7:=hp6.ext x7;have hv7:=hv6.ext x7;refine_lift bU fun _ _=>?_;refine gY (JB rv rl _ hv7 aC) fun v8 w8 x8 o8=>?_;refine aB ?_;have z07:=x07.size;have z8:=x8.size;refine_lift aT ?_;refine fA 0 v8 (x8.at (hx7.at b1)) o8.one fun w9 p9=>?_;have b9:w9.heap[w.heap.size]? = some (.cells [v8, .int .i64 bud, .int .i64 room, .int .i64 most, .int .i64 wt].toArray 46 (0,0)):=p9.this;have o9:=eM o8 p9 (x8.at (hx7.at b1));have x09:=cJ (x07.trans x8) p9;have hp9:=aA b9;clear hp6 hp7;refine_lift bU fun _ _=>?_;refine lV (ok:=CK) rfl ?_;intro w10 x10 s10 m10;refine aB ?_;refine aG (v:=.agg #[v8, .int .i64 bud, .int .i64 room, .int .i64 most, .int .i64 wt, .pointer none, .pointer none, .pointer none, .map (some w9.heap.size), .int .i64 0, .slice none 0 0]) (Runs.build (vals:=[(0, .agg #[v8, .int .i64 bud, .int .i64 room, .int .i64 most, .int .i64 wt]),(4, .map (some w9.heap.size))]) rfl (by kernel_rfl)) ?_;refine aB ?_;refine jO (vs:=[v8, .int .i64 bud, .int .i64 room, .int .i64 most, .int .i64 wt, .pointer none, .pointer none, .pointer none, .map (some w9.heap.size), .int .i64 0, .slice none 0 0]) fun w11 x11 s11 b11=>?_;refine aB ?_;have hp11:=(hp9.ext x10).ext x11;refine_lift bU fun _ _=>?_;refine gY (Ao room most _ c3.1 c3.2 c4.1 c4.2) ?_;rintro _ w12 x12 ⟨cb,em,rfl,ne12,ca12⟩;refine aB ?_;have hp12:=hp11.ext x12;refine_lift aT ?_;refine fA 5 (.pointer (some ⟨cb,0,none⟩)) (x12.at b11) rfl fun w13 p13=>?_;have b13:w13.heap[w10.heap.size]? = some (.cells [v8, .int .i64 bud, .int .i64 room, .int .i64 most, .int .i64 wt, .pointer (some ⟨cb,0,none⟩), .pointer none, .pointer none, .map (some w9.heap.size), .int .i64 0, .slice none 0 0].toArray 155 (0,0)):=p13.this;have z9:=x09.size;have z10:=x10.size;have z11:=x11.size;have z12:=x12.size;have z13:=p13.size;have lw:w.heap.size<w9.heap.size:=(Array.getElem?_eq_some_iff.1 b9).1;have c13:=(p13.other w.heap.size aC).trans (x12.at (x11.at (x10.at b9)));have hp13:=aA c13;clear hp9 hp11 hp12;refine_lift bU fun _ _=>?_;refine gY (Ar room most _ c3.1 c3.2 c4.1 c4.2) ?_;rintro _ w14 x14 ⟨db,rfl,de14⟩;refine aB ?_;have z14:=x14.size;have hp14:=hp13.ext x14;refine_lift aT ?_;refine fA 6 (.pointer (some ⟨db,0,none⟩)) (x14.at b13) rfl fun w15 p15=>?_;have b15:w15.heap[w10.heap.size]? = some (.cells [v8, .int .i64 bud, .int .i64 room, .int .i64 most, .int .i64 wt, .pointer (some ⟨cb,0,none⟩), .pointer (some ⟨db,0,none⟩), .pointer none, .map (some w9.heap.size), .int .i64 0, .slice none 0 0].toArray 155 (0,0)):=p15.this;have z15:=p15.size;refine_lift bU fun _ _=>?_;refine gY (Aq _) ?_;rintro _ w16 x16 ⟨tb,tm,rfl,ne16,ta16⟩;refine aB ?_;have z16:=x16.size;refine_lift aT ?_;refine fA 7 (.pointer (some ⟨tb,0,none⟩)) (x16.at b15) rfl fun w17 p17=>?_;have z17:=p17.size;refine_lift aT ?_;refine bodyPost_ret (results_tmp2 rfl _ _ _) rfl ?_;have k13:Kf [155] [] w12 w13:=Kf.put p13 (x12.at b11) aX;have k15:Kf [155] [] w14 w15:=Kf.put p15 (x14.at b13) aX;have k17:Kf [155] [] w16 w17:=Kf.put p17 (x16.at b15) aX;have k1417:=(k15.trans (Kf.of x16)).trans k17;have k1217:=(k13.trans (Kf.of x14)).trans k1417;have k917:=(Kf.of (x10.trans (x11.trans x12))).trans k1217;have l917:Lo w9.heap.size w9 w17:=(Lo.of (x10.trans (x11.trans x12))).trans ((Lo.put p13 z10).trans ((Lo.of x14).trans ((Lo.put p15 z10).trans ((Lo.of x16).trans (Lo.put p17 z10)))));have hx:Ext w w17:=l917.ext x09 z9;obtain ⟨gs,hC⟩:=ca12;have le1:=hC.map.lt;have le2:=hC.ge;obtain ⟨tbk,hT⟩:=ta16;have le3:=hT.ge;have ca:CacheAt w11.heap.size w12 cb em ⟨room,most,0,[]⟩:=⟨gs,hC⟩;have ta:TabAt w15.heap.size w16 tb tm 0 none:=⟨tbk,hT⟩;refine ⟨_,rfl,hx,⟨w10.heap.size,v8, .slice none 0 0,cb,em,db,tb,tm,w9.heap.size,0⟩,rfl,rfl,hx,⟨by dsimp only;omega,p17.this,Own.nil _ _ _ _,aC⟩,(o9.keep k917.keep aK).weaken aC,?_,?_,?_,by dsimp only;omega,(m10.ext (x11.trans x12)).keep k1217 aX,?_,by dsimp only;omega,by dsimp only;omega,by dsimp only;omega⟩
 ·exact (ca.keep k1217 aX aK aK aK).weaken aC
 ·have:=de14.keep k1417 aK;exact ⟨Nat.le_trans aC this.ge,this.blk⟩
 ·exact (ta.keep k17 aX aK aK aK).weaken aC
 ·rintro z ⟨⟩
def lq:mU:=([1,88,1,97],1)
def qM (id:Int) (q:mU):MsgR:={ zeroM with id:=id,want:=true,qs:=[q] }
def qB (id:Int) (q:mU):List UInt8:=(bP (qM id q)).1
def lA:ActR:=(eG lq.1 lq.2 [3] 5).on.2
def lX:NTask:=(⟨1,(eG lq.1 lq.2 [3] 5).on.1,[],0,lq.1,lq.2,0,zeroM,0⟩:NTask).send 0 lA 5
def lM:MsgR:={ zeroM with id:=lX.q.id,resp:=true,qs:=lX.q.qs,an:=[⟨[1,120,1,97],1,9,[49,50,51,52]⟩] }
def lB:List UInt8:=(bP lM).1
section
variable {P:Program} {Q:Exit→Act→World→Prop} {S:World→Prop} {l:List Oper} {ts:List Value} {df:List Deferred} {w:World} {fuel:Nat} {listed:List Bool}
theorem TL (i1 i2 i3 i4 i5 i6 i7 i8 i9 i10 i11:Nat) (d1 d2 d3 d4 d5 d6 d7 d8 d9 d10:Nat) (c q1 q2 q3 q4 q5 q6 q7 q8 q9 q10 q11:Bool→Bool→Bool→Bool→Bool→Bool→Bool→Bool→Bool→Bool→Bool→Bool) (F:Bool→Bool→Bool→Bool→Bool→Bool→Bool→Bool→Bool→Bool→Bool→Value→Value→Value→Value→Value→Value→Value→Value→Value→Value→World→Prop)
 {fuel2:Nat} {o1 o2 o3 o4 o5 o6 o7 o8 o9 o10 o11:Oper}
 (hF:F false false false false false false false false false false false (List.getD ts d1 undef) (List.getD ts d2 undef) (List.getD ts d3 undef) (List.getD ts d4 undef) (List.getD ts d5 undef) (List.getD ts d6 undef) (List.getD ts d7 undef) (List.getD ts d8 undef) (List.getD ts d9 undef) (List.getD ts d10 undef) w)
 (h1:∀ b1 b2 b3 b4 b5 b6 b7 b8 b9 b10 b11:Bool,∀ v1 v2 v3 v4 v5 v6 v7 v8 v9 v10:Value,∀ w1:World,(q1 false b2 b3 b4 b5 b6 b7 b8 b9 b10 b11&&c false b2 b3 b4 b5 b6 b7 b8 b9 b10 b11)=true→F false b2 b3 b4 b5 b6 b7 b8 b9 b10 b11 v1 v2 v3 v4 v5 v6 v7 v8 v9 v10 w1→wpList P l.toArray (pD Q fun a w2=>S w2∧∃ u,a=Act.mk (List.set (List.set (List.set (List.set (List.set (List.set (List.set (List.set (List.set (List.set ts d1 u) d2 v2) d3 v3) d4 v4) d5 v5) d6 v6) d7 v7) d8 v8) d9 v9) d10 v10).toArray df∧F true b2 b3 b4 b5 b6 b7 b8 b9 b10 b11 u v2 v3 v4 v5 v6 v7 v8 v9 v10 w2) [o1] (Act.mk (List.set (List.set (List.set (List.set (List.set (List.set (List.set (List.set (List.set (List.set ts d1 v1) d2 v2) d3 v3) d4 v4) d5 v5) d6 v6) d7 v7) d8 v8) d9 v9) d10 v10).toArray df) w1)
 (h2:∀ b1 b2 b3 b4 b5 b6 b7 b8 b9 b10 b11:Bool,∀ v1 v2 v3 v4 v5 v6 v7 v8 v9 v10:Value,∀ w1:World,(q2 b1 false b3 b4 b5 b6 b7 b8 b9 b10 b11&&c b1 false b3 b4 b5 b6 b7 b8 b9 b10 b11)=true→F b1 false b3 b4 b5 b6 b7 b8 b9 b10 b11 v1 v2 v3 v4 v5 v6 v7 v8 v9 v10 w1→wpList P l.toArray (pD Q fun a w2=>S w2∧∃ u,a=Act.mk (List.set (List.set (List.set (List.set (List.set (List.set (List.set (List.set (List.set (List.set ts d1 v1) d2 u) d3 v3) d4 v4) d5 v5) d6 v6) d7 v7) d8 v8) d9 v9) d10 v10).toArray df∧F b1 true b3 b4 b5 b6 b7 b8 b9 b10 b11 v1 u v3 v4 v5 v6 v7 v8 v9 v10 w2) [o2] (Act.mk (List.set (List.set (List.set (List.set (List.set (List.set (List.set (List.set (List.set (List.set ts d1 v1) d2 v2) d3 v3) d4 v4) d5 v5) d6 v6) d7 v7) d8 v8) d9 v9) d10 v10).toArray df) w1)
 (h3:∀ b1 b2 b3 b4 b5 b6 b7 b8 b9 b10 b11:Bool,∀ v1 v2 v3 v4 v5 v6 v7 v8 v9 v10:Value,∀ w1:World,(q3 b1 b2 false b4 b5 b6 b7 b8 b9 b10 b11&&c b1 b2 false b4 b5 b6 b7 b8 b9 b10 b11)=true→F b1 b2 false b4 b5 b6 b7 b8 b9 b10 b11 v1 v2 v3 v4 v5 v6 v7 v8 v9 v10 w1→wpList P l.toArray (pD Q fun a w2=>S w2∧∃ u,a=Act.mk (List.set (List.set (List.set (List.set (List.set (List.set (List.set (List.set (List.set (List.set ts d1 v1) d2 v2) d3 u) d4 v4) d5 v5) d6 v6) d7 v7) d8 v8) d9 v9) d10 v10).toArray df∧F b1 b2 true b4 b5 b6 b7 b8 b9 b10 b11 v1 v2 u v4 v5 v6 v7 v8 v9 v10 w2) [o3] (Act.mk (List.set (List.set (List.set (List.set (List.set (List.set (List.set (List.set (List.set (List.set ts d1 v1) d2 v2) d3 v3) d4 v4) d5 v5) d6 v6) d7 v7) d8 v8) d9 v9) d10 v10).toArray df) w1)
 (h4:∀ b1 b2 b3 b4 b5 b6 b7 b8 b9 b10 b11:Bool,∀ v1 v2 v3 v4 v5 v6 v7 v8 v9 v10:Value,∀ w1:World,(q4 b1 b2 b3 false b5 b6 b7 b8 b9 b10 b11&&c b1 b2 b3 false b5 b6 b7 b8 b9 b10 b11)=true→F b1 b2 b3 false b5 b6 b7 b8 b9 b10 b11 v1 v2 v3 v4 v5 v6 v7 v8 v9 v10 w1→wpList P l.toArray (pD Q fun a w2=>S w2∧∃ u,a=Act.mk (List.set (List.set (List.set (List.set (List.set (List.set (List.set (List.set (List.set (List.set ts d1 v1) d2 v2) d3 v3) d4 u) d5 v5) d6 v6) d7 v7) d8 v8) d9 v9) d10 v10).toArray df∧F b1 b2 b3 true b5 b6 b7 b8 b9 b10 b11 v1 v2 v3 u v5 v6 v7 v8 v9 v10 w2) [o4] (Act.mk (List.set (List.set (List.set (List.set (List.set (List.set (List.set (List.set (List.set (List.set ts d1 v1) d2 v2) d3 v3) d4 v4) d5 v5) d6 v6) d7 v7) d8 v8) d9 v9) d10 v10).toArray df) w1)
 (h5:∀ b1 b2 b3 b4 b5 b6 b7 b8 b9 b10 b11:Bool,∀ v1 v2 v3 v4 v5 v6 v7 v8 v9 v10:Value,∀ w1:World,(q5 b1 b2 b3 b4 false b6 b7 b8 b9 b10 b11&&c b1 b2 b3 b4 false b6 b7 b8 b9 b10 b11)=true→F b1 b2 b3 b4 false b6 b7 b8 b9 b10 b11 v1 v2 v3 v4 v5 v6 v7 v8 v9 v10 w1→wpList P l.toArray (pD Q fun a w2=>S w2∧∃ u,a=Act.mk (List.set (List.set (List.set (List.set (List.set (List.set (List.set (List.set (List.set (List.set ts d1 v1) d2 v2) d3 v3) d4 v4) d5 u) d6 v6) d7 v7) d8 v8) d9 v9) d10 v10).toArray df∧F b1 b2 b3 b4 true b6 b7 b8 b9 b10 b11 v1 v2 v3 v4 u v6 v7 v8 v9 v10 w2) [o5] (Act.mk (List.set (List.set (List.set (List.set (List.set (List.set (List.set (List.set (List.set (List.set ts d1 v1) d2 v2) d3 v3) d4 v4) d5 v5) d6 v6) d7 v7) d8 v8) d9 v9) d10 v10).toArray df) w1)
 (h6:∀ b1 b2 b3 b4 b5 b6 b7 b8 b9 b10 b11:Bool,∀ v1 v2 v3 v4 v5 v6 v7 v8 v9 v10:Value,∀ w1:World,(q6 b1 b2 b3 b4 b5 false b7 b8 b9 b10 b11&&c b1 b2 b3 b4 b5 false b7 b8 b9 b10 b11)=true→F b1 b2 b3 b4 b5 false b7 b8 b9 b10 b11 v1 v2 v3 v4 v5 v6 v7 v8 v9 v10 w1→wpList P l.toArray (pD Q fun a w2=>S w2∧∃ u,a=Act.mk (List.set (List.set (List.set (List.set (List.set (List.set (List.set (List.set (List.set (List.set ts d1 v1) d2 v2) d3 v3) d4 v4) d5 v5) d6 u) d7 v7) d8 v8) d9 v9) d10 v10).toArray df∧F b1 b2 b3 b4 b5 true b7 b8 b9 b10 b11 v1 v2 v3 v4 v5 u v7 v8 v9 v10 w2) [o6] (Act.mk (List.set (List.set (List.set (List.set (List.set (List.set (List.set (List.set (List.set (List.set ts d1 v1) d2 v2) d3 v3) d4 v4) d5 v5) d6 v6) d7 v7) d8 v8) d9 v9) d10 v10).toArray df) w1)
 (h7:∀ b1 b2 b3 b4 b5 b6 b7 b8 b9 b10 b11:Bool,∀ v1 v2 v3 v4 v5 v6 v7 v8 v9 v10:Value,∀ w1:World,(q7 b1 b2 b3 b4 b5 b6 false b8 b9 b10 b11&&c b1 b2 b3 b4 b5 b6 false b8 b9 b10 b11)=true→F b1 b2 b3 b4 b5 b6 false b8 b9 b10 b11 v1 v2 v3 v4 v5 v6 v7 v8 v9 v10 w1→wpList P l.toArray (pD Q fun a w2=>S w2∧∃ u,a=Act.mk (List.set (List.set (List.set (List.set (List.set (List.set (List.set (List.set (List.set (List.set ts d1 v1) d2 v2) d3 v3) d4 v4) d5 v5) d6 v6) d7 u) d8 v8) d9 v9) d10 v10).toArray df∧F b1 b2 b3 b4 b5 b6 true b8 b9 b10 b11 v1 v2 v3 v4 v5 v6 u v8 v9 v10 w2) [o7] (Act.mk (List.set (List.set (List.set (List.set (List.set (List.set (List.set (List.set (List.set (List.set ts d1 v1) d2 v2) d3 v3) d4 v4) d5 v5) d6 v6) d7 v7) d8 v8) d9 v9) d10 v10).toArray df) w1)
 (h8:∀ b1 b2 b3 b4 b5 b6 b7 b8 b9 b10 b11:Bool,∀ v1 v2 v3 v4 v5 v6 v7 v8 v9 v10:Value,∀ w1:World,(q8 b1 b2 b3 b4 b5 b6 b7 false b9 b10 b11&&c b1 b2 b3 b4 b5 b6 b7 false b9 b10 b11)=true→F b1 b2 b3 b4 b5 b6 b7 false b9 b10 b11 v1 v2 v3 v4 v5 v6 v7 v8 v9 v10 w1→wpList P l.toArray (pD Q fun a w2=>S w2∧∃ u,a=Act.mk (List.set (List.set (List.set (List.set (List.set (List.set (List.set (List.set (List.set (List.set ts d1 v1) d2 v2) d3 v3) d4 v4) d5 v5) d6 v6) d7 v7) d8 u) d9 v9) d10 v10).toArray df∧F b1 b2 b3 b4 b5 b6 b7 true b9 b10 b11 v1 v2 v3 v4 v5 v6 v7 u v9 v10 w2) [o8] (Act.mk (List.set (List.set (List.set (List.set (List.set (List.set (List.set (List.set (List.set (List.set ts d1 v1) d2 v2) d3 v3) d4 v4) d5 v5) d6 v6) d7 v7) d8 v8) d9 v9) d10 v10).toArray df) w1)
 (h9:∀ b1 b2 b3 b4 b5 b6 b7 b8 b9 b10 b11:Bool,∀ v1 v2 v3 v4 v5 v6 v7 v8 v9 v10:Value,∀ w1:World,(q9 b1 b2 b3 b4 b5 b6 b7 b8 false b10 b11&&c b1 b2 b3 b4 b5 b6 b7 b8 false b10 b11)=true→F b1 b2 b3 b4 b5 b6 b7 b8 false b10 b11 v1 v2 v3 v4 v5 v6 v7 v8 v9 v10 w1→wpList P l.toArray (pD Q fun a w2=>S w2∧∃ u,a=Act.mk (List.set (List.set (List.set (List.set (List.set (List.set (List.set (List.set (List.set (List.set ts d1 v1) d2 v2) d3 v3) d4 v4) d5 v5) d6 v6) d7 v7) d8 v8) d9 u) d10 v10).toArray df∧F b1 b2 b3 b4 b5 b6 b7 b8 true b10 b11 v1 v2 v3 v4 v5 v6 v7 v8 u v10 w2) [o9] (Act.mk (List.set (List.set (List.set (List.set (List.set (List.set (List.set (List.set (List.set (List.set ts d1 v1) d2 v2) d3 v3) d4 v4) d5 v5) d6 v6) d7 v7) d8 v8) d9 v9) d10 v10).toArray df) w1)
 (h10:∀ b1 b2 b3 b4 b5 b6 b7 b8 b9 b10 b11:Bool,∀ v1 v2 v3 v4 v5 v6 v7 v8 v9 v10:Value,∀ w1:World,(q10 b1 b2 b3 b4 b5 b6 b7 b8 b9 false b11&&c b1 b2 b3 b4 b5 b6 b7 b8 b9 false b11)=true→F b1 b2 b3 b4 b5 b6 b7 b8 b9 false b11 v1 v2 v3 v4 v5 v6 v7 v8 v9 v10 w1→wpList P l.toArray (pD Q fun a w2=>S w2∧∃ u,a=Act.mk (List.set (List.set (List.set (List.set (List.set (List.set (List.set (List.set (List.set (List.set ts d1 v1) d2 v2) d3 v3) d4 v4) d5 v5) d6 v6) d7 v7) d8 v8) d9 v9) d10 u).toArray df∧F b1 b2 b3 b4 b5 b6 b7 b8 b9 true b11 v1 v2 v3 v4 v5 v6 v7 v8 v9 u w2) [o10] (Act.mk (List.set (List.set (List.set (List.set (List.set (List.set (List.set (List.set (List.set (List.set ts d1 v1) d2 v2) d3 v3) d4 v4) d5 v5) d6 v6) d7 v7) d8 v8) d9 v9) d10 v10).toArray df) w1)
 (h11:∀ b1 b2 b3 b4 b5 b6 b7 b8 b9 b10 b11:Bool,∀ v1 v2 v3 v4 v5 v6 v7 v8 v9 v10:Value,∀ w1:World,(q11 b1 b2 b3 b4 b5 b6 b7 b8 b9 b10 false&&c b1 b2 b3 b4 b5 b6 b7 b8 b9 b10 false)=true→F b1 b2 b3 b4 b5 b6 b7 b8 b9 b10 false v1 v2 v3 v4 v5 v6 v7 v8 v9 v10 w1→wpList P l.toArray (pD Q fun a w2=>S w2∧a=Act.mk (List.set (List.set (List.set (List.set (List.set (List.set (List.set (List.set (List.set (List.set ts d1 v1) d2 v2) d3 v3) d4 v4) d5 v5) d6 v6) d7 v7) d8 v8) d9 v9) d10 v10).toArray df∧F b1 b2 b3 b4 b5 b6 b7 b8 b9 b10 true v1 v2 v3 v4 v5 v6 v7 v8 v9 v10 w2) [o11] (Act.mk (List.set (List.set (List.set (List.set (List.set (List.set (List.set (List.set (List.set (List.set ts d1 v1) d2 v2) d3 v3) d4 v4) d5 v5) d6 v6) d7 v7) d8 v8) d9 v9) d10 v10).toArray df) w1)
 (hG:∀ v1 v2 v3 v4 v5 v6 v7 v8 v9 v10:Value,∀ w1:World,F true true true true true true true true true true true v1 v2 v3 v4 v5 v6 v7 v8 v9 v10 w1→wpAnyH P .any l.toArray Q S fuel (List.set (List.set (List.set (List.set (List.set (List.set (List.set (List.set (List.set (List.set (List.set listed i1 true) i2 true) i3 true) i4 true) i5 true) i6 true) i7 true) i8 true) i9 true) i10 true) i11 true).toArray (Act.mk (List.set (List.set (List.set (List.set (List.set (List.set (List.set (List.set (List.set (List.set ts d1 v1) d2 v2) d3 v3) d4 v4) d5 v5) d6 v6) d7 v7) d8 v8) d9 v9) d10 v10).toArray df) w1)
 (hi:l[i1]? = some o1∧l[i2]? = some o2∧l[i3]? = some o3∧l[i4]? = some o4∧l[i5]? = some o5∧l[i6]? = some o6∧l[i7]? = some o7∧l[i8]? = some o8∧l[i9]? = some o9∧l[i10]? = some o10∧l[i11]? = some o11:=by refine ⟨rfl,rfl,rfl,rfl,rfl,rfl,rfl,rfl,rfl,rfl,rfl⟩)
 (hr:(∀ b1 b2 b3 b4 b5 b6 b7 b8 b9 b10 b11:Bool,c b1 b2 b3 b4 b5 b6 b7 b8 b9 b10 b11=true→(b1&&b2&&b3&&b4&&b5&&b6&&b7&&b8&&b9&&b10&&b11)=false→(decide (0<(Region.ready .any l.toArray (List.set (List.set (List.set (List.set (List.set (List.set (List.set (List.set (List.set (List.set (List.set listed i1 b1) i2 b2) i3 b3) i4 b4) i5 b5) i6 b6) i7 b7) i8 b8) i9 b9) i10 b10) i11 b11).toArray).length)&&(Region.ready .any l.toArray (List.set (List.set (List.set (List.set (List.set (List.set (List.set (List.set (List.set (List.set (List.set listed i1 b1) i2 b2) i3 b3) i4 b4) i5 b5) i6 b6) i7 b7) i8 b8) i9 b9) i10 b10) i11 b11).toArray).all fun i=>(i == i1&&(!b1&&((q1 false b2 b3 b4 b5 b6 b7 b8 b9 b10 b11&&c false b2 b3 b4 b5 b6 b7 b8 b9 b10 b11)&&c true b2 b3 b4 b5 b6 b7 b8 b9 b10 b11)))||(i == i2&&(!b2&&((q2 b1 false b3 b4 b5 b6 b7 b8 b9 b10 b11&&c b1 false b3 b4 b5 b6 b7 b8 b9 b10 b11)&&c b1 true b3 b4 b5 b6 b7 b8 b9 b10 b11)))||(i == i3&&(!b3&&((q3 b1 b2 false b4 b5 b6 b7 b8 b9 b10 b11&&c b1 b2 false b4 b5 b6 b7 b8 b9 b10 b11)&&c b1 b2 true b4 b5 b6 b7 b8 b9 b10 b11)))||(i == i4&&(!b4&&((q4 b1 b2 b3 false b5 b6 b7 b8 b9 b10 b11&&c b1 b2 b3 false b5 b6 b7 b8 b9 b10 b11)&&c b1 b2 b3 true b5 b6 b7 b8 b9 b10 b11)))||(i == i5&&(!b5&&((q5 b1 b2 b3 b4 false b6 b7 b8 b9 b10 b11&&c b1 b2 b3 b4 false b6 b7 b8 b9 b10 b11)&&c b1 b2 b3 b4 true b6 b7 b8 b9 b10 b11)))||(i == i6&&(!b6&&((q6 b1 b2 b3 b4 b5 false b7 b8 b9 b10 b11&&c b1 b2 b3 b4 b5 false b7 b8 b9 b10 b11)&&c b1 b2 b3 b4 b5 true b7 b8 b9 b10 b11)))||(i == i7&&(!b7&&((q7 b1 b2 b3 b4 b5 b6 false b8 b9 b10 b11&&c b1 b2 b3 b4 b5 b6 false b8 b9 b10 b11)&&c b1 b2 b3 b4 b5 b6 true b8 b9 b10 b11)))||(i == i8&&(!b8&&((q8 b1 b2 b3 b4 b5 b6 b7 false b9 b10 b11&&c b1 b2 b3 b4 b5 b6 b7 false b9 b10 b11)&&c b1 b2 b3 b4 b5 b6 b7 true b9 b10 b11)))||(i == i9&&(!b9&&((q9 b1 b2 b3 b4 b5 b6 b7 b8 false b10 b11&&c b1 b2 b3 b4 b5 b6 b7 b8 false b10 b11)&&c b1 b2 b3 b4 b5 b6 b7 b8 true b10 b11)))||(i == i10&&(!b10&&((q10 b1 b2 b3 b4 b5 b6 b7 b8 b9 false b11&&c b1 b2 b3 b4 b5 b6 b7 b8 b9 false b11)&&c b1 b2 b3 b4 b5 b6 b7 b8 b9 true b11)))||(i == i11&&(!b11&&((q11 b1 b2 b3 b4 b5 b6 b7 b8 b9 b10 false&&c b1 b2 b3 b4 b5 b6 b7 b8 b9 b10 false)&&c b1 b2 b3 b4 b5 b6 b7 b8 b9 b10 true))))=true):=by decide +kernel) (hc0:c false false false false false false false false false false false=true:=by rfl)
 (hf:fuel2=fuel+11:=by rfl) (hn:i1≠i2∧i1≠i3∧i1≠i4∧i1≠i5∧i1≠i6∧i1≠i7∧i1≠i8∧i1≠i9∧i1≠i10∧i1≠i11∧i2≠i3∧i2≠i4∧i2≠i5∧i2≠i6∧i2≠i7∧i2≠i8∧i2≠i9∧i2≠i10∧i2≠i11∧i3≠i4∧i3≠i5∧i3≠i6∧i3≠i7∧i3≠i8∧i3≠i9∧i3≠i10∧i3≠i11∧i4≠i5∧i4≠i6∧i4≠i7∧i4≠i8∧i4≠i9∧i4≠i10∧i4≠i11∧i5≠i6∧i5≠i7∧i5≠i8∧i5≠i9∧i5≠i10∧i5≠i11∧i6≠i7∧i6≠i8∧i6≠i9∧i6≠i10∧i6≠i11∧i7≠i8∧i7≠i9∧i7≠i10∧i7≠i11∧i8≠i9∧i8≠i10∧i8≠i11∧i9≠i10∧i9≠i11∧i10≠i11:=by simp) (hl0:(List.set (List.set (List.set (List.set (List.set (List.set (List.set (List.set (List.set (List.set (List.set listed i1 false) i2 false) i3 false) i4 false) i5 false) i6 false) i7 false) i8 false) i9 false) i10 false) i11 false)=listed:=by rfl) (ht0:(List.set (List.set (List.set (List.set (List.set (List.set (List.set (List.set (List.set (List.set ts d1 (List.getD ts d1 undef)) d2 (List.getD ts d2 undef)) d3 (List.getD ts d3 undef)) d4 (List.getD ts d4 undef)) d5 (List.getD ts d5 undef)) d6 (List.getD ts d6 undef)) d7 (List.getD ts d7 undef)) d8 (List.getD ts d8 undef)) d9 (List.getD ts d9 undef)) d10 (List.getD ts d10 undef))=ts:=by rfl)
 : wpAnyH P .any l.toArray Q S fuel2 listed.toArray (Act.mk ts.toArray df) w:=by
 obtain ⟨e1,e2,e3,e4,e5,e6,e7,e8,e9,e10,e11⟩:=hi;obtain ⟨n1_2,n1_3,n1_4,n1_5,n1_6,n1_7,n1_8,n1_9,n1_10,n1_11,n2_3,n2_4,n2_5,n2_6,n2_7,n2_8,n2_9,n2_10,n2_11,n3_4,n3_5,n3_6,n3_7,n3_8,n3_9,n3_10,n3_11,n4_5,n4_6,n4_7,n4_8,n4_9,n4_10,n4_11,n5_6,n5_7,n5_8,n5_9,n5_10,n5_11,n6_7,n6_8,n6_9,n6_10,n6_11,n7_8,n7_9,n7_10,n7_11,n8_9,n8_10,n8_11,n9_10,n9_11,n10_11⟩:=hn;rw [hf];refine uB (Inv:=fun m L a w=>∃ b1 b2 b3 b4 b5 b6 b7 b8 b9 b10 b11:Bool,∃ v1 v2 v3 v4 v5 v6 v7 v8 v9 v10:Value,c b1 b2 b3 b4 b5 b6 b7 b8 b9 b10 b11=true∧m=iB b1+iB b2+iB b3+iB b4+iB b5+iB b6+iB b7+iB b8+iB b9+iB b10+iB b11∧L=(List.set (List.set (List.set (List.set (List.set (List.set (List.set (List.set (List.set (List.set (List.set listed i1 b1) i2 b2) i3 b3) i4 b4) i5 b5) i6 b6) i7 b7) i8 b8) i9 b9) i10 b10) i11 b11)∧a=Act.mk (List.set (List.set (List.set (List.set (List.set (List.set (List.set (List.set (List.set (List.set ts d1 v1) d2 v2) d3 v3) d4 v4) d5 v5) d6 v6) d7 v7) d8 v8) d9 v9) d10 v10).toArray df∧F b1 b2 b3 b4 b5 b6 b7 b8 b9 b10 b11 v1 v2 v3 v4 v5 v6 v7 v8 v9 v10 w) ?_ ?_ 11 listed _ w ⟨false,false,false,false,false,false,false,false,false,false,false,(List.getD ts d1 undef),(List.getD ts d2 undef),(List.getD ts d3 undef),(List.getD ts d4 undef),(List.getD ts d5 undef),(List.getD ts d6 undef),(List.getD ts d7 undef),(List.getD ts d8 undef),(List.getD ts d9 undef),(List.getD ts d10 undef),hc0,by rfl,hl0.symm,by rw [ht0],hF⟩
 ·rintro m L a w ⟨b1,b2,b3,b4,b5,b6,b7,b8,b9,b10,b11,v1,v2,v3,v4,v5,v6,v7,v8,v9,v10,hcc,hm,rfl,rfl,hf⟩;have hb:(b1&&b2&&b3&&b4&&b5&&b6&&b7&&b8&&b9&&b10&&b11)=false:=by
   cases hq:(b1&&b2&&b3&&b4&&b5&&b6&&b7&&b8&&b9&&b10&&b11) with
   | false=>rfl
   | true =>
    exfalso
    simp only [Bool.and_eq_true]at hq;obtain ⟨⟨⟨⟨⟨⟨⟨⟨⟨⟨p1,p2⟩,p3⟩,p4⟩,p5⟩,p6⟩,p7⟩,p8⟩,p9⟩,p10⟩,p11⟩:=hq;subst p1 p2 p3 p4 p5 p6 p7 p8 p9 p10 p11;simp [iB]at hm
  have hr:=hr b1 b2 b3 b4 b5 b6 b7 b8 b9 b10 b11 hcc hb;simp only [Bool.and_eq_true,decide_eq_true_eq,List.all_eq_true,Bool.or_eq_true,beq_iff_eq,Bool.not_eq_true']at hr;refine ⟨hr.1,fun i hi=>?_⟩;rcases hr.2 i hi with ((((((((((⟨rfl,rfl,c1,cc1⟩|⟨rfl,rfl,c2,cc2⟩)|⟨rfl,rfl,c3,cc3⟩)|⟨rfl,rfl,c4,cc4⟩)|⟨rfl,rfl,c5,cc5⟩)|⟨rfl,rfl,c6,cc6⟩)|⟨rfl,rfl,c7,cc7⟩)|⟨rfl,rfl,c8,cc8⟩)|⟨rfl,rfl,c9,cc9⟩)|⟨rfl,rfl,c10,cc10⟩)|⟨rfl,rfl,c11,cc11⟩)
  ·refine wpOp_mono ?_ (dI (by simpa using e1) (h1 true b2 b3 b4 b5 b6 b7 b8 b9 b10 b11 v1 v2 v3 v4 v5 v6 v7 v8 v9 v10 w (Bool.and_eq_true_iff.2 c1) hf));rintro a w2 ⟨hS,u,rfl,hf2⟩;refine ⟨hS,true,b2,b3,b4,b5,b6,b7,b8,b9,b10,b11,u,v2,v3,v4,v5,v6,v7,v8,v9,v10,cc1,?_,?_,rfl,hf2⟩
   ·simp only [iB,Bool.false_eq_true,if_true,if_false]at hm ⊢;omega
   ·rw [List.set_comm _ _ n1_11.symm,List.set_comm _ _ n1_10.symm,List.set_comm _ _ n1_9.symm,List.set_comm _ _ n1_8.symm,List.set_comm _ _ n1_7.symm,List.set_comm _ _ n1_6.symm,List.set_comm _ _ n1_5.symm,List.set_comm _ _ n1_4.symm,List.set_comm _ _ n1_3.symm,List.set_comm _ _ n1_2.symm,List.set_set]
  ·refine wpOp_mono ?_ (dI (by simpa using e2) (h2 b1 true b3 b4 b5 b6 b7 b8 b9 b10 b11 v1 v2 v3 v4 v5 v6 v7 v8 v9 v10 w (Bool.and_eq_true_iff.2 c2) hf));rintro a w2 ⟨hS,u,rfl,hf2⟩;refine ⟨hS,b1,true,b3,b4,b5,b6,b7,b8,b9,b10,b11,v1,u,v3,v4,v5,v6,v7,v8,v9,v10,cc2,?_,?_,rfl,hf2⟩
   ·simp only [iB,Bool.false_eq_true,if_true,if_false]at hm ⊢;omega
   ·rw [List.set_comm _ _ n2_11.symm,List.set_comm _ _ n2_10.symm,List.set_comm _ _ n2_9.symm,List.set_comm _ _ n2_8.symm,List.set_comm _ _ n2_7.symm,List.set_comm _ _ n2_6.symm,List.set_comm _ _ n2_5.symm,List.set_comm _ _ n2_4.symm,List.set_comm _ _ n2_3.symm,List.set_set]
  ·refine wpOp_mono ?_ (dI (by simpa using e3) (h3 b1 b2 true b4 b5 b6 b7 b8 b9 b10 b11 v1 v2 v3 v4 v5 v6 v7 v8 v9 v10 w (Bool.and_eq_true_iff.2 c3) hf));rintro a w2 ⟨hS,u,rfl,hf2⟩;refine ⟨hS,b1,b2,true,b4,b5,b6,b7,b8,b9,b10,b11,v1,v2,u,v4,v5,v6,v7,v8,v9,v10,cc3,?_,?_,rfl,hf2⟩
   ·simp only [iB,Bool.false_eq_true,if_true,if_false]at hm ⊢;omega
   ·rw [List.set_comm _ _ n3_11.symm,List.set_comm _ _ n3_10.symm,List.set_comm _ _ n3_9.symm,List.set_comm _ _ n3_8.symm,List.set_comm _ _ n3_7.symm,List.set_comm _ _ n3_6.symm,List.set_comm _ _ n3_5.symm,List.set_comm _ _ n3_4.symm,List.set_set]
  ·refine wpOp_mono ?_ (dI (by simpa using e4) (h4 b1 b2 b3 true b5 b6 b7 b8 b9 b10 b11 v1 v2 v3 v4 v5 v6 v7 v8 v9 v10 w (Bool.and_eq_true_iff.2 c4) hf));rintro a w2 ⟨hS,u,rfl,hf2⟩;refine ⟨hS,b1,b2,b3,true,b5,b6,b7,b8,b9,b10,b11,v1,v2,v3,u,v5,v6,v7,v8,v9,v10,cc4,?_,?_,rfl,hf2⟩
   ·simp only [iB,Bool.false_eq_true,if_true,if_false]at hm ⊢;omega
   ·rw [List.set_comm _ _ n4_11.symm,List.set_comm _ _ n4_10.symm,List.set_comm _ _ n4_9.symm,List.set_comm _ _ n4_8.symm,List.set_comm _ _ n4_7.symm,List.set_comm _ _ n4_6.symm,List.set_comm _ _ n4_5.symm,List.set_set]
  ·refine wpOp_mono ?_ (dI (by simpa using e5) (h5 b1 b2 b3 b4 true b6 b7 b8 b9 b10 b11 v1 v2 v3 v4 v5 v6 v7 v8 v9 v10 w (Bool.and_eq_true_iff.2 c5) hf));rintro a w2 ⟨hS,u,rfl,hf2⟩;refine ⟨hS,b1,b2,b3,b4,true,b6,b7,b8,b9,b10,b11,v1,v2,v3,v4,u,v6,v7,v8,v9,v10,cc5,?_,?_,rfl,hf2⟩
   ·simp only [iB,Bool.false_eq_true,if_true,if_false]at hm ⊢;omega
   ·rw [List.set_comm _ _ n5_11.symm,List.set_comm _ _ n5_10.symm,List.set_comm _ _ n5_9.symm,List.set_comm _ _ n5_8.symm,List.set_comm _ _ n5_7.symm,List.set_comm _ _ n5_6.symm,List.set_set]
  ·refine wpOp_mono ?_ (dI (by simpa using e6) (h6 b1 b2 b3 b4 b5 true b7 b8 b9 b10 b11 v1 v2 v3 v4 v5 v6 v7 v8 v9 v10 w (Bool.and_eq_true_iff.2 c6) hf));rintro a w2 ⟨hS,u,rfl,hf2⟩;refine ⟨hS,b1,b2,b3,b4,b5,true,b7,b8,b9,b10,b11,v1,v2,v3,v4,v5,u,v7,v8,v9,v10,cc6,?_,?_,rfl,hf2⟩
   ·simp only [iB,Bool.false_eq_true,if_true,if_false]at hm ⊢;omega
   ·rw [List.set_comm _ _ n6_11.symm,List.set_comm _ _ n6_10.symm,List.set_comm _ _ n6_9.symm,List.set_comm _ _ n6_8.symm,List.set_comm _ _ n6_7.symm,List.set_set]
  ·refine wpOp_mono ?_ (dI (by simpa using e7) (h7 b1 b2 b3 b4 b5 b6 true b8 b9 b10 b11 v1 v2 v3 v4 v5 v6 v7 v8 v9 v10 w (Bool.and_eq_true_iff.2 c7) hf));rintro a w2 ⟨hS,u,rfl,hf2⟩;refine ⟨hS,b1,b2,b3,b4,b5,b6,true,b8,b9,b10,b11,v1,v2,v3,v4,v5,v6,u,v8,v9,v10,cc7,?_,?_,rfl,hf2⟩
   ·simp only [iB,Bool.false_eq_true,if_true,if_false]at hm ⊢;omega
   ·rw [List.set_comm _ _ n7_11.symm,List.set_comm _ _ n7_10.symm,List.set_comm _ _ n7_9.symm,List.set_comm _ _ n7_8.symm,List.set_set]
  ·refine wpOp_mono ?_ (dI (by simpa using e8) (h8 b1 b2 b3 b4 b5 b6 b7 true b9 b10 b11 v1 v2 v3 v4 v5 v6 v7 v8 v9 v10 w (Bool.and_eq_true_iff.2 c8) hf));rintro a w2 ⟨hS,u,rfl,hf2⟩;refine ⟨hS,b1,b2,b3,b4,b5,b6,b7,true,b9,b10,b11,v1,v2,v3,v4,v5,v6,v7,u,v9,v10,cc8,?_,?_,rfl,hf2⟩
   ·simp only [iB,Bool.false_eq_true,if_true,if_false]at hm ⊢;omega
   ·rw [List.set_comm _ _ n8_11.symm,List.set_comm _ _ n8_10.symm,List.set_comm _ _ n8_9.symm,List.set_set]
  ·refine wpOp_mono ?_ (dI (by simpa using e9) (h9 b1 b2 b3 b4 b5 b6 b7 b8 true b10 b11 v1 v2 v3 v4 v5 v6 v7 v8 v9 v10 w (Bool.and_eq_true_iff.2 c9) hf));rintro a w2 ⟨hS,u,rfl,hf2⟩;refine ⟨hS,b1,b2,b3,b4,b5,b6,b7,b8,true,b10,b11,v1,v2,v3,v4,v5,v6,v7,v8,u,v10,cc9,?_,?_,rfl,hf2⟩
   ·simp only [iB,Bool.false_eq_true,if_true,if_false]at hm ⊢;omega
   ·rw [List.set_comm _ _ n9_11.symm,List.set_comm _ _ n9_10.symm,List.set_set]
  ·refine wpOp_mono ?_ (dI (by simpa using e10) (h10 b1 b2 b3 b4 b5 b6 b7 b8 b9 true b11 v1 v2 v3 v4 v5 v6 v7 v8 v9 v10 w (Bool.and_eq_true_iff.2 c10) hf));rintro a w2 ⟨hS,u,rfl,hf2⟩;refine ⟨hS,b1,b2,b3,b4,b5,b6,b7,b8,b9,true,b11,v1,v2,v3,v4,v5,v6,v7,v8,v9,u,cc10,?_,?_,rfl,hf2⟩
   ·simp only [iB,Bool.false_eq_true,if_true,if_false]at hm ⊢;omega
   ·rw [List.set_comm _ _ n10_11.symm,List.set_set]
  ·refine wpOp_mono ?_ (dI (by simpa using e11) (h11 b1 b2 b3 b4 b5 b6 b7 b8 b9 b10 true v1 v2 v3 v4 v5 v6 v7 v8 v9 v10 w (Bool.and_eq_true_iff.2 c11) hf));rintro a w2 ⟨hS,rfl,hf2⟩;refine ⟨hS,b1,b2,b3,b4,b5,b6,b7,b8,b9,b10,true,v1,v2,v3,v4,v5,v6,v7,v8,v9,v10,cc11,?_,?_,rfl,hf2⟩
   ·simp only [iB,Bool.false_eq_true,if_true,if_false]at hm ⊢;omega
   ·rw [List.set_set]
 ·rintro L a w ⟨b1,b2,b3,b4,b5,b6,b7,b8,b9,b10,b11,v1,v2,v3,v4,v5,v6,v7,v8,v9,v10,hcc,hm,rfl,rfl,hf⟩;have p1:b1=true:=cI aC;have p2:b2=true:=cI aC;have p3:b3=true:=cI aC;have p4:b4=true:=cI aC;have p5:b5=true:=cI aC;have p6:b6=true:=cI aC;have p7:b7=true:=cI aC;have p8:b8=true:=cI aC;have p9:b9=true:=cI aC;have p10:b10=true:=cI aC;have p11:b11=true:=cI aC;subst p1 p2 p3 p4 p5 p6 p7 p8 p9 p10 p11;exact hG v1 v2 v3 v4 v5 v6 v7 v8 v9 v10 w hf
end
def Az (id op:Int):MsgR:={ zeroM with id:=id,resp:=true,op:=op,rcode:=1 }
def Ba (s:List UInt8):Int:=(((lW s).1 / 2048 &&& 15:Nat):Int)
def iN (hs:List HldR) (s:List UInt8) (stream:Bool):List UInt8×Bool :=
 if s.length<12∨aW (lW s).1 32768=true then ([],false)
 else if (cP s).2≠0 then ((bP (Az ((sD s).1:Nat) (Ba s))).1,true)
 else if (vB (gF hs (cP s).1) (nW (cP s).1.size stream)).2.2≠0 then ((bP (bareR (cP s).1 2)).1,true)
 else ((vB (gF hs (cP s).1) (nW (cP s).1.size stream)).2.1,true)
theorem TM:∀ (f:Nat) (l:List mU) (r:RdS),(OY s f l r).1.length≤l.length+f:=by
 intro f;induction f with
 | zero=>intro l r;unfold OY;exact Nat.le_refl _
 | succ f ih =>
  intro l r;unfold OY;split
  ·simp
  ·refine Nat.le_trans (ih _ _) ?_;simp;omega
theorem Dh:∀ (f:Nat) (l:List mU) (r:RdS),(OY s f l r).2.e=0→r.e=0:=by
 intro f;cases f with
 | zero=>intro l r h;exact h
 | succ f =>
  intro l r h;unfold OY at h;split at h
  ·exact h
  ·rename_i c
   simpa using c
theorem tJ {r:RdS} {n:Nat} {last:Bool} (h:(jM s r n last).2.2.e=0):r.e=0:=by
 unfold jM at h;generalize hq:r.want (decide ((n:Int)≤200+(if last=true then 1 else 0))) 2=q at h;have hq0:q.e=0:=by
  cases n with
  | zero=>exact h
  | succ n =>
   unfold sJ at h;split at h
   ·exact h
   ·rename_i c
    simpa using c
 rw [← hq]at hq0;exact (rD aK hq0).1
theorem TN (h:(Bv s).e=0):(sE s).1≤10:=by
 have h1:=(rD aK h).1;have h2:=tJ (tJ (tJ h1));have h3:=(rD aK (Dh _ _ _ h2)).2;have:=of_decide_eq_true h3;omega
theorem WT (v:Value) (hs:List HldR) (s:List UInt8) (stream:Bool) (w:World) (hv:HldsAt w v hs) (hl:hs.length≤1000) (hb:∀ h∈hs,∀ s∈h.l,s.data.length≤1000000) (hsl:s.length≤1000000):Calls Tryz.prog 42 #[v,aE s, .bool stream] w (bC w (.tuple #[aE (iN hs s stream).1, .bool (iN hs s stream).2])):=by
 have hch:=fun w'=>Ag (w:=w') s hsl;have hcd:=fun w'=>SV (w:=w') s hsl;have hS:iN hs s stream=iN hs s stream:=rfl
 conv at hS=>rhs;unfold iN
 have hlq:(cP s).1.qs.length≤1000:=by
  unfold cP;split
  ·rename_i he;show (WG s).1.length≤1000;have:=TM (s:=s) (sE s).1 [] (Ah s);have h9:=TN he;unfold WG;simp at this;omega
  ·exact Nat.zero_le _
 unfold GD at hch;unfold SS at hcd;generalize iN hs s stream=RES at *;generalize cP s=D at *;go_enter Tryz.func42,Tryz.ntmps42
 by_cases cl:s.length<12
 ·simp only [if_pos cl]at hch;rw [if_pos (.inl cl)]at hS;refine_lift bU fun _ _=>?_;refine Bz (hch _) fun w1 x1=>?_;refine_lift jQ fun _=>?_;go_ret2;rw [hS];exact ⟨rfl,x1⟩
 ·simp only [if_neg cl]at hch;refine_lift bU fun _ _=>?_;refine Bz (hch _) fun w1 x1=>?_;obtain ⟨rb,hrb⟩:∃ rb,aW (lW s).1 32768=rb:=⟨_,rfl⟩;rw [hrb]at hS;rw [hrb];cases rb with
  | true =>
   rw [if_pos (.inr rfl)]at hS;refine_lift jQ fun _=>?_;go_ret2;rw [hS];exact ⟨rfl,x1⟩
  | false =>
   rw [if_neg (by rintro (h|h);exact cl h;cases h)]at hS;refine_lift lQ fun _ _ _=>?_;refine gS (hcd _) ?_;rintro _ w2 ⟨q,a,u,x,rfl,hm2,x2⟩;refine ⟨_,rfl,?_⟩;refine aB ?_;refine_lift aT ?_;refine dX (z:=iW) fun w3 x3 s3 h3=>?_;refine aB ?_;have hm3:=hm2.ext x3;refine dL (v:=.agg (aP D.1 q a u x).toArray) h3 (dR hm3) fun w4 p4=>?_;have x24:=cJ x3 p4;have hB4:w4.heap[w2.heap.size]? = some (.cells (aP D.1 q a u x).toArray 54 (0,0)):=p4.this;have hpM:=aA (cs:=aP D.1 q a u x) hB4;unfold aP at hpM;have hm4:=hm2.ext x24;have x04:=x1.trans (x2.trans x24);clear p4 h3 x3 hm3;generalize w2.heap.size=mb at *;by_cases cD:D.2=0
   ·rw [if_neg (by simpa using cD)]at hS;refine_lift Cb (fun _ _ _=>?_) (fun _ _ _ _ _=>?_)
    all_goals first
     | (have hh:False:=by have h9:=‹(!decide (D.2=0))=true›;rw [decide_eq_true cD]at h9;cases h9
        exact hh.elim)
     | skip
    have hcR:∀ w',Ext w4 w'→Calls Tryz.prog 91 #[v, .agg (aP D.1 q a u x).toArray] w' (kZ w' (Da w' (gF hs D.1))):=fun w' x'=>WI v hs D.1 q a u x w' ((hv.ext x04).ext x') (hm4.ext x') hl hb;have hcF:∀ w' {q1 a1 u1 e1:Value},MsgV w' (gF hs D.1) q1 a1 u1 e1→Calls Tryz.prog 90 #[.agg (aP (gF hs D.1) q1 a1 u1 e1).toArray, .int .i64 (nW D.1.size stream)] w' (kZ w' (SX w' (vB (gF hs D.1) (nW D.1.size stream)))):=fun w' _ _ _ _ h'=>YG _ _ _ _ _ _ w' h';have hlim:nW D.1.size stream=nW D.1.size stream:=rfl;generalize vB (gF hs D.1) (nW D.1.size stream)=FF at *;generalize gF hs D.1=R at *;refine cQ (S:=fun w'=>Ext w4 w') zDk ?_;intro w21 x21 _;refine dM 0 ?_;refine aB ?_;refine dM 1 ?_;refine aB ?_;refine dM 3 ?_;refine aB ?_;refine dM 4 ?_;refine aB ?_;refine TL 2 5 6 7 8 9 10 11 13 14 12 47 50 51 44 52 53 54 15 16 11 (fun b1 b2 b3 b4 b5 b6 b7 b8 b9 b10 b11=>(!b2||b1)&&(!b3||b1)&&(!b3||b2)&&(!b4||b3)&&(!b5||b4)&&(!b6||b4)&&(!b7||b4)&&(!b9||b6)&&(!b9||b11)&&(!b10||b7)&&(!b10||b9)&&(!b11||b8)&&(!b11||b5)) (fun b1 b2 b3 b4 b5 b6 b7 b8 b9 b10 b11 => !b2 && !b3) (fun b1 b2 b3 b4 b5 b6 b7 b8 b9 b10 b11=>b1 && !b3) (fun b1 b2 b3 b4 b5 b6 b7 b8 b9 b10 b11=>b1&&b2 && !b4) (fun b1 b2 b3 b4 b5 b6 b7 b8 b9 b10 b11=>b3 && !b5 && !b6 && !b7) (fun b1 b2 b3 b4 b5 b6 b7 b8 b9 b10 b11=>b4 && !b11) (fun b1 b2 b3 b4 b5 b6 b7 b8 b9 b10 b11=>b4 && !b9) (fun b1 b2 b3 b4 b5 b6 b7 b8 b9 b10 b11=>b4 && !b10) (fun b1 b2 b3 b4 b5 b6 b7 b8 b9 b10 b11 => !b11) (fun b1 b2 b3 b4 b5 b6 b7 b8 b9 b10 b11=>b6&&b11 && !b10) (fun b1 b2 b3 b4 b5 b6 b7 b8 b9 b10 b11=>b7&&b9) (fun b1 b2 b3 b4 b5 b6 b7 b8 b9 b10 b11=>b8&&b5 && !b9) (fun b1 b2 b3 b4 b5 b6 b7 b8 b9 b10 b11 v1 v2 v3 v4 v5 v6 v7 v8 v9 v10 w'=>∃ q1 a1 u1 e1 q2 a2 u2 e2 zk,Ext w4 w'∧(b1=true→v1=.agg (aP R q1 a1 u1 e1).toArray∧(b3=false→MsgV w' R q1 a1 u1 e1))∧(b2=true→v2=.int .i64 (nW D.1.size stream))∧(b3=true→v3=.tuple #[.agg (aP FF.1 q2 a2 u2 e2).toArray,aE FF.2.1, .int .i64 FF.2.2]∧(∀ x∈aP FF.1 q2 a2 u2 e2,x.oneCell'=true))∧(b4=true→v4=.tuple #[.agg (aP FF.1 q2 a2 u2 e2).toArray,aE FF.2.1, .int .i64 FF.2.2])∧(b5=true→v5=.agg (aP FF.1 q2 a2 u2 e2).toArray)∧(b6=true→v6=aE FF.2.1)∧(b7=true→v7=.int .i64 FF.2.2)∧(b8=true→v8=.pointer (some ⟨zk,0,none⟩)∧w4.heap.size≤zk∧(b11=false→w'.heap[zk]? = some (.cells iW.toArray 54 (0,0))))∧(b9=true→v9=aE FF.2.1)∧(b10=true→v10=.int .i64 FF.2.2)) ?_ ?_ ?_ ?_ ?_ ?_ ?_ ?_ ?_ ?_ ?_ ?_ ?_
    ·exact ⟨undef,undef,undef,undef,undef,undef,undef,undef,0,x21,aX,aX,aX,aX,aX,aX,aX,aX,aX,aX⟩
    ·rintro b1 b2 b3 b4 b5 b6 b7 b8 b9 b10 b11 v1 v2 v3 v4 v5 v6 v7 v8 v9 v10 w5 hq ⟨q1,a1,u1,e1,q2,a2,u2,e2,zk,x5,f1,f2,f3,f4,f5,f6,f7,f8,f9,f10⟩;refine aB ?_;refine gY (hcR _ x5) ?_;rintro _ w6 x6 ⟨q1',a1',u1',e1',rfl,hm6⟩;refine aB ?_;refine aD ⟨x5.trans x6,_,rfl,q1',a1',u1',e1',q2,a2,u2,e2,zk,x5.trans x6,fun _=>⟨rfl,fun _=>hm6.msg⟩,f2,f3,f4,f5,f6,f7,fun e=>⟨(f8 e).1,(f8 e).2.1,fun e2=>x6.at ((f8 e).2.2 e2)⟩,f9,f10⟩
    ·rintro b1 b2 b3 b4 b5 b6 b7 b8 b9 b10 b11 v1 v2 v3 v4 v5 v6 v7 v8 v9 v10 w5 hq ⟨q1,a1,u1,e1,q2,a2,u2,e2,zk,x5,f1,f2,f3,f4,f5,f6,f7,f8,f9,f10⟩;refine aB ?_;refine cB (WF D.1 q a u x stream _ (hm4.ext x5)) fun w6 x6=>?_;refine aD ⟨x5.trans x6,_,rfl,q1,a1,u1,e1,q2,a2,u2,e2,zk,x5.trans x6,fun e=>⟨(f1 e).1,fun e2=>((f1 e).2 e2).ext x6⟩,fun _=>rfl,f3,f4,f5,f6,f7,fun e=>⟨(f8 e).1,(f8 e).2.1,fun e2=>x6.at ((f8 e).2.2 e2)⟩,f9,f10⟩
    ·rintro b1 b2 b3 b4 b5 b6 b7 b8 b9 b10 b11 v1 v2 v3 v4 v5 v6 v7 v8 v9 v10 w5 hq ⟨q1,a1,u1,e1,q2,a2,u2,e2,zk,x5,f1,f2,f3,f4,f5,f6,f7,f8,f9,f10⟩;have hb1:b1=true:=by revert hq;cases b1<;>simp
     have hb2:b2=true:=by revert hq;cases b2<;>simp
     have hb4:b4=false:=by revert hq;cases b4<;>simp
     have hb5:b5=false:=by revert hq;subst hb4;cases b5<;>simp
     subst hb1 hb2 hb4 hb5;obtain ⟨rfl,g1⟩:=f1 rfl;obtain rfl:=f2 rfl;refine aB ?_;refine gY (hcF _ (g1 rfl)) ?_;rintro _ w6 x6 ⟨q2',a2',u2',e2',rfl,hm6⟩;refine aB ?_;refine aD ⟨x5.trans x6,_,rfl,q1,a1,u1,e1,q2',a2',u2',e2',zk,x5.trans x6,fun _=>⟨rfl,aX⟩,aX,fun _=>⟨rfl,hm6.one⟩,aX,aX,f6,f7,fun e=>⟨(f8 e).1,(f8 e).2.1,fun e2=>x6.at ((f8 e).2.2 e2)⟩,f9,f10⟩
    ·rintro b1 b2 b3 b4 b5 b6 b7 b8 b9 b10 b11 v1 v2 v3 v4 v5 v6 v7 v8 v9 v10 w5 hq ⟨q1,a1,u1,e1,q2,a2,u2,e2,zk,x5,f1,f2,f3,f4,f5,f6,f7,f8,f9,f10⟩;have hb3:b3=true:=by revert hq;cases b3<;>simp
     subst hb3;obtain ⟨rfl,g1⟩:=f3 rfl;refine aB ?_
     ((with_reducible refine aS ?_);(first|(refine gV ?_;refine eS ?_)|(refine lY ?_;refine nR ?_;(with_reducible refine aS ?_);refine gV ?_;refine eS ?_)))
     refine aD ⟨x5,_,rfl,q1,a1,u1,e1,q2,a2,u2,e2,zk,x5,fun e=>⟨(f1 e).1,aX⟩,f2,fun _=>⟨rfl,g1⟩,fun _=>rfl,f5,f6,f7,f8,f9,f10⟩
    ·rintro b1 b2 b3 b4 b5 b6 b7 b8 b9 b10 b11 v1 v2 v3 v4 v5 v6 v7 v8 v9 v10 w5 hq ⟨q1,a1,u1,e1,q2,a2,u2,e2,zk,x5,f1,f2,f3,f4,f5,f6,f7,f8,f9,f10⟩;have hb4:b4=true:=by revert hq;cases b4<;>simp
     subst hb4;have g4:=f4 rfl;subst g4;refine aB ?_
     ((with_reducible refine aS ?_);(first|(refine gV ?_;refine eS ?_)|(refine lY ?_;refine nR ?_;(with_reducible refine aS ?_);refine gV ?_;refine eS ?_)))
     refine aD ⟨x5,_,rfl,q1,a1,u1,e1,q2,a2,u2,e2,zk,x5,f1,f2,f3,fun _=>rfl,fun _=>rfl,f6,f7,f8,f9,f10⟩
    ·rintro b1 b2 b3 b4 b5 b6 b7 b8 b9 b10 b11 v1 v2 v3 v4 v5 v6 v7 v8 v9 v10 w5 hq ⟨q1,a1,u1,e1,q2,a2,u2,e2,zk,x5,f1,f2,f3,f4,f5,f6,f7,f8,f9,f10⟩;have hb4:b4=true:=by revert hq;cases b4<;>simp
     subst hb4;have g4:=f4 rfl;subst g4;refine aB ?_
     ((with_reducible refine aS ?_);(first|(refine gV ?_;refine eS ?_)|(refine lY ?_;refine nR ?_;(with_reducible refine aS ?_);refine gV ?_;refine eS ?_)))
     refine aD ⟨x5,_,rfl,q1,a1,u1,e1,q2,a2,u2,e2,zk,x5,f1,f2,f3,fun _=>rfl,f5,fun _=>rfl,f7,f8,f9,f10⟩
    ·rintro b1 b2 b3 b4 b5 b6 b7 b8 b9 b10 b11 v1 v2 v3 v4 v5 v6 v7 v8 v9 v10 w5 hq ⟨q1,a1,u1,e1,q2,a2,u2,e2,zk,x5,f1,f2,f3,f4,f5,f6,f7,f8,f9,f10⟩;have hb4:b4=true:=by revert hq;cases b4<;>simp
     subst hb4;have g4:=f4 rfl;subst g4;refine aB ?_
     ((with_reducible refine aS ?_);(first|(refine gV ?_;refine eS ?_)|(refine lY ?_;refine nR ?_;(with_reducible refine aS ?_);refine gV ?_;refine eS ?_)))
     refine aD ⟨x5,_,rfl,q1,a1,u1,e1,q2,a2,u2,e2,zk,x5,f1,f2,f3,fun _=>rfl,f5,f6,fun _=>rfl,f8,f9,f10⟩
    ·rintro b1 b2 b3 b4 b5 b6 b7 b8 b9 b10 b11 v1 v2 v3 v4 v5 v6 v7 v8 v9 v10 w5 hq ⟨q1,a1,u1,e1,q2,a2,u2,e2,zk,x5,f1,f2,f3,f4,f5,f6,f7,f8,f9,f10⟩;refine aB ?_;refine dX (z:=iW) fun w6 x6 s6 h6=>?_;refine aB ?_;refine aD ⟨x5.trans x6,_,rfl,q1,a1,u1,e1,q2,a2,u2,e2,_,x5.trans x6,fun e=>⟨(f1 e).1,fun e2=>((f1 e).2 e2).ext x6⟩,f2,f3,f4,f5,f6,f7,fun _=>⟨rfl,x5.size,fun _=>h6⟩,f9,f10⟩
    ·rintro b1 b2 b3 b4 b5 b6 b7 b8 b9 b10 b11 v1 v2 v3 v4 v5 v6 v7 v8 v9 v10 w5 hq ⟨q1,a1,u1,e1,q2,a2,u2,e2,zk,x5,f1,f2,f3,f4,f5,f6,f7,f8,f9,f10⟩;have hb6:b6=true:=by revert hq;cases b6<;>simp
     subst hb6;have g6:=f6 rfl;subst g6;refine aB ?_
     ((with_reducible refine aS ?_);(first|(refine gV ?_;refine eS ?_)|(refine lY ?_;refine nR ?_;(with_reducible refine aS ?_);refine gV ?_;refine eS ?_)))
     refine aD ⟨x5,_,rfl,q1,a1,u1,e1,q2,a2,u2,e2,zk,x5,f1,f2,f3,f4,f5,aX,f7,f8,fun _=>rfl,f10⟩
    ·rintro b1 b2 b3 b4 b5 b6 b7 b8 b9 b10 b11 v1 v2 v3 v4 v5 v6 v7 v8 v9 v10 w5 hq ⟨q1,a1,u1,e1,q2,a2,u2,e2,zk,x5,f1,f2,f3,f4,f5,f6,f7,f8,f9,f10⟩;have hb7:b7=true:=by revert hq;cases b7<;>simp
     subst hb7;have g7:=f7 rfl;subst g7;refine aB ?_
     ((with_reducible refine aS ?_);(first|(refine gV ?_;refine eS ?_)|(refine lY ?_;refine nR ?_;(with_reducible refine aS ?_);refine gV ?_;refine eS ?_)))
     refine aD ⟨x5,_,rfl,q1,a1,u1,e1,q2,a2,u2,e2,zk,x5,f1,f2,f3,f4,f5,f6,aX,f8,f9,fun _=>rfl⟩
    ·rintro b1 b2 b3 b4 b5 b6 b7 b8 b9 b10 b11 v1 v2 v3 v4 v5 v6 v7 v8 v9 v10 w5 hq ⟨q1,a1,u1,e1,q2,a2,u2,e2,zk,x5,f1,f2,f3,f4,f5,f6,f7,f8,f9,f10⟩;have hb5:b5=true:=by revert hq;cases b5<;>simp
     have hb8:b8=true:=by revert hq;cases b8<;>simp
     have hb4:b4=true:=by revert hq;subst hb5;cases b4<;>simp
     have hb3:b3=true:=by revert hq;subst hb4;cases b3<;>simp
     subst hb3 hb5 hb8;have g5:=f5 rfl;subst g5;obtain ⟨g2,g3⟩:=f3 rfl;obtain ⟨rfl,g8,g9⟩:=f8 rfl;refine aB ?_;refine dL (v:=.agg (aP FF.1 q2 a2 u2 e2).toArray) (g9 rfl) (by simp only [Value.cells,List.all_toArray,List.all_eq_true];exact g3) fun w6 p6=>?_;have x6:=cJ x5 p6;refine aD ⟨x6,rfl,q1,a1,u1,e1,q2,a2,u2,e2,zk,x6,fun e=>⟨(f1 e).1,aX⟩,f2,fun _=>⟨g2,g3⟩,f4,fun _=>rfl,f6,f7,fun _=>⟨rfl,g8,aX⟩,f9,f10⟩
    ·rintro v1 v2 v3 v4 v5 v6 v7 v8 v9 v10 w9 ⟨q1,a1,u1,e1,q2,a2,u2,e2,zk,x9,f1,f2,f3,f4,f5,f6,f7,f8,f9,f10⟩;have k3:=(f3 rfl).1;have k9:=f9 rfl;have k10:=f10 rfl;clear f1 f2 f3 f4 f5 f6 f7 f8 f9 f10;subst k9 k10;refine aB ?_;refine cO zDk ?_;have hB9:=x9.at hB4;have hp9:=aA (cs:=aP D.1 q a u x) hB9;unfold aP at hp9;have hm9:=hm4.ext x9;have x09:=x04.trans x9;clear hpM;by_cases cF:FF.2.2=0
     ·rw [if_neg (by simpa using cF)]at hS;refine_lift HO (fun _=>?_) (fun _ _ _=>?_)
      all_goals first
       | (have hh:False:=by have h9:=‹(!decide (FF.2.2=0))=true›;rw [decide_eq_true cF]at h9;cases h9
          exact hh.elim)
       | skip
      go_ret2;rw [hS];exact ⟨by kernel_rfl,x09⟩
     ·rw [if_pos cF]at hS;refine_lift HO (fun _=>?_) (fun _ _ _=>?_)
      all_goals first
       | (have hh:False:=by have h9:=‹(!decide (FF.2.2=0))=false›;rw [decide_eq_false cF]at h9;cases h9
          exact hh.elim)
       | skip
      refine gY (nX D.1 q a u x 2 _ hm9 hlq) ?_;intro _ wb xb ⟨qb,er,ob⟩;subst er;refine aB ?_;have hmb:MsgV wb (bareR D.1 2) qb aI aI aI:=⟨ob.sl,Sl.nil _ _,Sl.nil _ _,Sl.nil _ _⟩;refine cB (rI hmb) fun w10 x10=>?_;refine_lift aT ?_;go_ret2;rw [hS];exact ⟨by kernel_rfl,x09.trans (xb.trans x10)⟩
   ·rw [if_pos cD]at hS;refine_lift Cb (fun _ _ _=>?_) (fun _ _ _ _ _=>?_)
    all_goals first
     | (have hh:False:=by have h9:=‹(!decide (D.2=0))=false›;rw [decide_eq_false cD]at h9;cases h9
        exact hh.elim)
     | skip
    refine aG (v:=.agg (aP (Az ((sD s).1:Nat) (Ba s)) aI aI aI aI).toArray) (Runs.build rfl (by kernel_rfl)) ?_;refine aB ?_;have hma:MsgV w4 (Az ((sD s).1:Nat) (Ba s)) aI aI aI aI:=⟨Sl.nil _ _,Sl.nil _ _,Sl.nil _ _,Sl.nil _ _⟩;refine cB (rI hma) fun w5 x5=>?_;refine_lift aT ?_;go_ret2;rw [hS];exact ⟨by kernel_rfl,x04.trans x5⟩
end Go.Proofs.X
