/- Laws and walks that the proof of the statement is made of (part 12). -/
import Derived.Test.YtfkckeaadnoeiaaGreatP11
set_option linter.unusedSimpArgs false
set_option linter.unusedVariables false
set_option maxRecDepth 100000
set_option maxHeartbeats 20000000
namespace Go.Proofs.X
open Go.RowKit
variable {cs:Array Value} {held:Bool} {qt:Int} {ps rs:List (List UInt8×Nat)} {ls:List (List UInt8)} {css css0 es:List (List Value)} {d l m n o qn s t x y z:List UInt8} {B a b base c e fuel i j k p q:Nat} {fz:Nat×Nat} {row:Option Nat} {r u v:Value} {w w' w0 w1 w2:World}
theorem EL (n a b:Int) (w:World):Calls Tryz.prog 127 #[.int .i64 n, .int .i64 a, .int .i64 b] w (bC w (.bool (decide (a≤n)&&decide (n≤b)))):=by
 go_enter Tryz.func127,Tryz.ntmps127
 refine_lift lP (fun hc=>?_) (fun hc=>?_)
 all_goals
  go_ret;refine ⟨?_,Ext.refl _⟩;simp;omega
structure EntR where
 s:RSet
 rank:Int
 till:Int
 used:Int
structure CacheR where
 room:Int
 most:Int
 calls:Int
 l:List EntR
def oV (n:List UInt8) (k:Int) (e:EntR):Bool:=decide (e.s.name=n)&&decide (e.s.kind=k)
structure EntM where
 e:EntR
 b:Nat
 v:Value
def pS (n:List UInt8) (k:Int):Value:=.agg #[aE n, .int .i64 k]
def EntM.key (g:EntM):Value×Value:=(pS g.e.s.name g.e.s.kind, .pointer (some ⟨g.b,0,none⟩))
def JH (e:EntR) (v:Value):List Value:=[aE e.s.name, .int .i64 e.s.kind, .int .i64 e.s.ttl,v, .int .i64 e.rank, .int .i64 e.till, .int .i64 e.used]
theorem Db:Tryz.prog.keyTypeAt 2 317=true:=by kernel_rfl
theorem An:Tryz.prog.tiled 2 317=true:=by kernel_rfl
theorem LE (n:List UInt8) (k:Int) (hn:n.length≤1000000) (hk:-9223372036854775808≤k∧k≤9223372036854775807):∃ l,keyOf Tryz.prog 317 (pS n k)=some l:=by
 unfold keyOf pS;rw [Tryz.underlying317];have kt2:Tryz.prog.keyType 317=true:=by kernel_rfl
 simp only [kt2];rw [show Tryz.prog.types.size=420 from by kernel_rfl];have c48:Tryz.prog.cellsOf 317=2:=by kernel_rfl
 have c30:Tryz.prog.cellsOf 23=1:=by kernel_rfl
 have c3:Tryz.prog.cellsOf 3=1:=by kernel_rfl
 have f:Value.formed Tryz.prog 317 (Value.agg #[aE n,Value.int IntKind.i64 k])=true:=by simp [Value.formed,Tryz.underlying317,c48]
 have hs:(ByteArray.mk n.toArray).size≤maxLen:=by rw [fD];unfold maxLen;omega
 have hw:(Lit.int .i64 k).wf=true:=by simp [Lit.wf,IntKind.min,IntKind.max,IntKind.bits,IntKind.signed];omega
 have l30:Tryz.prog.keyLits 420 23 [aE n]=some [.string n]:=by simp [Program.keyLits,Tryz.underlying23,aE,-ByteArray.size_data,hs]
 have l3:Tryz.prog.keyLits 420 3 [Value.int .i64 k]=some [.int .i64 k]:=by simp [Program.keyLits,Tryz.underlying3,hw]
 rw [f];simp only [Bool.and_self,if_true];unfold Program.keyLits;simp [Tryz.underlying317,c48,c30,c3,Value.cells,l30,l3]
def SY (v:Value):Prop:=∃ l,keyOf Tryz.prog 317 v=some l
theorem wK:KL Tryz.prog 317 SY:=KL.wide (deep_law (m:=2) aC Db An (by kernel_rfl))
theorem oW {n':List UInt8} {k k':Int}:pS n k=pS n' k'↔n=n'∧k=k':=by
 unfold pS aE;constructor
 ·intro h;simp only [Value.agg.injEq,Array.mk.injEq,List.cons.injEq,Value.string.injEq,ByteArray.mk.injEq,Value.int.injEq]at h;exact ⟨by simpa using h.1,h.2.1.2⟩
 ·rintro ⟨rfl,rfl⟩;rfl
structure EntM.At (B:Nat) (w:World) (g:EntM):Prop where
 ge:B≤g.b
 blk:w.heap[g.b]? = some (.cells (JH g.e g.v).toArray 321 (0,0))
 row:Own B 1 9 w g.v (aH g.e.s.data)
 len:g.e.s.data.length≤1000000
 ok:SY (pS g.e.s.name g.e.s.kind)
structure CacheV (B:Nat) (w:World) (cb em:Nat) (C:CacheR) (gs:List EntM):Prop where
 ge:B≤cb∧B≤em
 eq:C.l=gs.map (·.e)
 blk:w.heap[cb]? = some (.cells #[.int .i64 C.room, .int .i64 C.most, .map (some em), .int .i64 C.calls] 228 (0,0))
 map:MapS SY w em (gs.map EntM.key)
 ents:∀ g∈gs,g.At B w
 apart:(gs.map (·.b)).Nodup
 keys:(gs.map fun g=>(g.e.s.name,g.e.s.kind)).Nodup
def CacheAt (B:Nat) (w:World) (cb em:Nat) (C:CacheR):Prop:=∃ gs,CacheV B w cb em C gs
abbrev cT:List TypeId:=[228,321]
theorem EntM.At.keep {g:EntM} {T:List TypeId} {M:List Nat} (h:g.At B w) (hk:Kf T M w w') (h1:321∉T) (h2:9∉T):g.At B w' :=
 ⟨h.ge,hk.cells _ _ _ _ h.blk h1,h.row.keep hk.keep h2,h.len,h.ok⟩
theorem CacheAt.keep {cb em:Nat} {C:CacheR} {T:List TypeId} {M:List Nat} (h:CacheAt B w cb em C) (hk:Kf T M w w') (h0:em∉M) (h1:228∉T) (h2:321∉T) (h3:9∉T):CacheAt B w' cb em C:=by
 obtain ⟨gs,a⟩:=h;exact ⟨gs,a.ge,a.eq,hk.cells _ _ _ _ a.blk h1,a.map.keep hk h0,fun g hg=>(a.ents g hg).keep hk h2 h3,a.apart,a.keys⟩
theorem Ao (room most:Int) (w:World) (h1:1≤room) (h2:room≤200) (h3:1≤most) (h4:most≤2147483647):Calls Tryz.prog 70 #[.int .i64 room, .int .i64 most] w (kZ w fun r w'=>∃ cb em,r=.tuple #[.pointer (some ⟨cb,0,none⟩), .int .i64 0]∧cb≠em∧CacheAt w.heap.size w' cb em ⟨room,most,0,[]⟩):=by
 have e1:(decide (1≤room)&&decide (room≤200))=true:=by simp;omega
 have e2:(decide (1≤most)&&decide (most≤2147483647))=true:=by simp;omega
 go_enter Tryz.func70,Tryz.ntmps70
 refine_lift EZ ?_;intro _ _ _ _ _;refine cB (EL room 1 200 _) fun w1 x1=>?_;rw [e1];refine_lift aT ?_;refine cB (EL most 1 2147483647 _) fun w2 x2=>?_;rw [e2];refine_lift bU fun _ _=>?_;refine lV (ok:=SY) rfl ?_;intro w3 x3 s3 m3;refine aB ?_;refine aG (v:=.agg #[.int .i64 room, .int .i64 most, .map (some w2.heap.size), .int .i64 0]) (Runs.build (vals:=[(0, .int .i64 room),(1, .int .i64 most),(2, .map (some w2.heap.size))]) rfl (by kernel_rfl)) ?_;refine aB ?_;refine jO (vs:=[.int .i64 room, .int .i64 most, .map (some w2.heap.size), .int .i64 0]) fun w4 x4 s4 b4=>?_;refine aB ?_;refine_lift aT ?_;go_ret2;have hx:=x1.trans (x2.trans (x3.trans x4));refine ⟨_,rfl,hx,w3.heap.size,w2.heap.size,rfl,aC,[],⟨by have:=x1.size;have:=x2.size;omega,by have:=x1.size;have:=x2.size;omega⟩,rfl,b4,m3.ext x4,aX, .nil, .nil⟩
def CacheR.hit (C:CacheR) (n:List UInt8) (k now:Int):Option (Nat×EntR):=match C.l.findIdx? (oV n k) with
 | none=>none
 | some i=>match C.l[i]? with
   | none=>none
   | some e=>if e.till≤now then none else some (i,e)
def CacheR.use (C:CacheR) (i:Nat) (e:EntR):CacheR:={ C with calls:=C.calls+1,l:=C.l.set i { e with used:=C.calls+1 } }
theorem CacheV.uniq {cb em:Nat} {C:CacheR} {gs:List EntM} (h:CacheV B w cb em C gs):(gs.map EntM.key).Pairwise (fun a b=>a.1≠b.1):=by
 rw [List.pairwise_map];refine (List.pairwise_map.1 h.keys).imp fun hne hh=>hne ?_;simp only [EntM.key,oW]at hh;rw [hh.1,hh.2]
theorem CacheV.look {cb em:Nat} {C:CacheR} {gs:List EntM} (h:CacheV B w cb em C gs) {k:Int} (hi:C.l.findIdx? (oV n k)=some i):∃ g,gs[i]? = some g∧(gs.map EntM.key)[i]? = some (pS n k, .pointer (some ⟨g.b,0,none⟩))∧g.At B w∧C.l[i]? = some g.e:=by
 rw [List.findIdx?_eq_some_iff_getElem]at hi;obtain ⟨h1,h2,-⟩:=hi;have hl:i<gs.length:=by rw [h.eq]at h1;simpa using h1
 have he:C.l[i]=gs[i].e:=by simp [h.eq]
 rw [he]at h2;simp only [oV,Bool.and_eq_true,decide_eq_true_eq]at h2;refine ⟨gs[i],List.getElem?_eq_getElem hl,?_,h.ents _ (List.getElem_mem hl),?_⟩
 ·rw [List.getElem?_map,List.getElem?_eq_getElem hl];simp [EntM.key,h2]
 ·rw [List.getElem?_eq_getElem h1,he]
theorem CacheV.miss {cb em:Nat} {C:CacheR} {gs:List EntM} (h:CacheV B w cb em C gs) {k:Int} (hn:C.l.findIdx? (oV n k)=none):∀ e∈gs.map EntM.key,e.1≠pS n k:=by
 intro e he;obtain ⟨g,hg,rfl⟩:=List.mem_map.1 he;rw [List.findIdx?_eq_none_iff]at hn;have:=hn g.e (by rw [h.eq];exact List.mem_map.2 ⟨g,hg,rfl⟩);simp only [EntM.key,ne_eq,oW];simp only [oV,Bool.and_eq_false_iff,decide_eq_false_iff_not]at this;rintro ⟨h1,h2⟩;rcases this with h|h
 ·exact h h1
 ·exact h h2
theorem pT {α β:Type} {f:α→β} {l:List α} {a b:α} (hi:l[i]? = some a) (h:f b=f a):(l.set i b).map f=l.map f:=by
 apply List.ext_getElem?;intro j;rw [List.getElem?_map,List.getElem?_map,List.getElem?_set];split
 ·rename_i e;subst e;rw [hi];split
  ·simp [h]
  ·rename_i hn;exact absurd (List.getElem?_eq_some_iff.1 hi).1 hn
 ·rfl
theorem EntM.At.same {g:EntM} (h:g.At B w) (h1:w'.heap[g.b]? = w.heap[g.b]?) (h2:∀ r,g.v.ownBlock=some r→w'.heap[r]? = w.heap[r]?):g.At B w' :=
 ⟨h.ge,h1.trans h.blk,h.row.same h2,h.len,h.ok⟩
theorem CacheV.used {cb em:Nat} {C:CacheR} {gs:List EntM} {g:EntM} (h:CacheV B w cb em C gs) (hg:gs[i]? = some g)
 (h1:w'.heap[cb]? = some (.cells #[.int .i64 C.room, .int .i64 C.most, .map (some em), .int .i64 (C.calls+1)] 228 (0,0)))
 (h2:w'.heap[g.b]? = some (.cells (JH { g.e with used:=C.calls+1 } g.v).toArray 321 (0,0)))
 (h3:∀ c,c<w.heap.size→c≠cb→c≠g.b→w'.heap[c]? = w.heap[c]?):CacheV B w' cb em (C.use i g.e) (gs.set i { g with e:={ g.e with used:=C.calls+1 } }):=by
 have hgA:=h.ents g (List.mem_of_getElem? hg);have hrow:∀ x∈gs,∀ r,x.v.ownBlock=some r→w'.heap[r]? = w.heap[r]? := fun x hx r hr=>by
  have hxA:=h.ents x hx;refine h3 r (hxA.row.block r hr).2 ?_ ?_
  ·rintro rfl;exact hxA.row.neBlock h.blk aK hr
  ·rintro rfl;exact hxA.row.neBlock hgA.blk aK hr
 refine ⟨h.ge,?_,h1,?_,?_,?_,?_⟩
 ·rw [List.map_set,← h.eq];rfl
 ·rw [pT hg (show EntM.key { g with e:={ g.e with used:=C.calls+1 } }=EntM.key g from rfl)];exact h.map.at fun es c x=>by rw [h3 em h.map.lt (h.map.neCells h.blk) (h.map.neCells hgA.blk)];exact x
 ·intro x hx;obtain ⟨j,hj,rfl⟩:=List.mem_iff_getElem.1 hx;rw [List.getElem_set];have hjl:j<gs.length:=by simpa using hj
  split
  ·exact ⟨hgA.ge,h2,hgA.row.same (hrow g (List.mem_of_getElem? hg)),hgA.len,hgA.ok⟩
  ·rename_i hne;have hxA:=h.ents gs[j] (List.getElem_mem hjl);refine hxA.same (h3 _ (Array.getElem?_eq_some_iff.1 hxA.blk).1 (mJ hxA.blk h.blk aK) ?_) (hrow _ (List.getElem_mem hjl));intro e;obtain ⟨hil,hig⟩:=List.getElem?_eq_some_iff.1 hg;exact hne ((List.getElem_inj (h₀:=by simpa using hil) (h₁:=by simpa using hjl) h.apart).1 (by simp [hig,e]))
 ·rw [pT hg (show (fun x:EntM=>x.b) { g with e:={ g.e with used:=C.calls+1 } }=(fun x:EntM=>x.b) g from rfl)];exact h.apart
 ·rw [pT hg (show (fun x:EntM=>(x.e.s.name,x.e.s.kind)) { g with e:={ g.e with used:=C.calls+1 } }=(fun x:EntM=>(x.e.s.name,x.e.s.kind)) g from rfl)];exact h.keys
theorem MU {cb em:Nat} {C:CacheR} (h:CacheAt B w cb em C) (n:List UInt8) (hn:n.length≤100000) (k now:Int) (h0:0≤now) (h1:now≤1099511627776) (hk:-9223372036854775808≤k∧k≤9223372036854775807) (hfi:C.l.findIdx? (oV (fold n) k)=none) :
 Calls Tryz.prog 191 #[.pointer (some ⟨cb,0,none⟩),aE n, .int .i64 k, .int .i64 now] w (bC w (.tuple #[.agg gT.toArray, .int .i64 0, .bool false])):=by
 obtain ⟨gs,hC⟩:=h;have hb:=hC.blk;have hp:=aA (cs:=[.int .i64 C.room, .int .i64 C.most, .map (some em), .int .i64 C.calls]) hb;have e1:(decide (0≤now)&&decide (now≤1099511627776))=true:=by simp;omega
 have hmiss:=hC.miss hfi;have hf:(fold n).length≤1000000:=by
  cases hl:aM n with
  | none=>unfold fold;rw [hl];show n.length≤_;omega
  | some ls=>exact Nat.le_trans (jE n (by rw [hl];rfl)) aC
 have hok:SY (pS (fold n) k):=LE _ _ hf hk;have hzv:∀ w,(zeroValue 318).run Tryz.prog w=.ok (.pointer none) w:=fun w=>by kernel_rfl
 have htm:eI Tryz.prog 226 317 318=true:=zDk;go_enter Tryz.func191,Tryz.ntmps191
 refine_lift bU fun _ _=>?_;refine dX (z:=gT) fun w1 x1 s1 b1=>?_;refine aB ?_;refine_lift mH fun _ _ _ _=>?_;refine cB (EL now 0 1099511627776 _) fun w2 x2=>?_;rw [e1];have hx2:=x1.trans x2;have hp2:=hp.ext hx2;have hm2:=hC.map.ext hx2;refine_lift bU fun _ _=>?_;refine dA zDk zDk ?_;refine_lift vO ?_;refine hO (enters_of Tryz.func53 rfl rfl) rfl rfl (fun w' x'=>vQ n w') ?_;refine aB ?_;refine_lift vO ?_;refine fL (v:=pS (fold n) k) (fun w' x'=>Runs.build (vals:=[(0,aE (fold n)),(1, .int .i64 k)]) rfl (by kernel_rfl)) ?_;refine aB ?_;refine fL (v:=.tuple #[.pointer none, .bool false]) (fun w' x'=>Runs.lookup rfl rfl (lE wK htm hzv (hm2.ext x') hok hmiss true)) ?_;refine aB ?_;refine_lift vO ?_;intro w3 x3;refine_lift mH fun _ _ _ _=>?_;refine aG (v:=.agg gT.toArray) (Runs.build0 (by kernel_rfl)) ?_;refine aB ?_;have b3:=(x2.trans x3).at b1;refine dL (v:=.agg gT.toArray) b3 zDk fun w4 p4=>?_;refine_lift aT ?_;refine bodyPost_ret (gR (cs:=gT) rfl rfl p4.this zDk) rfl ⟨rfl,(hx2.trans x3).move p4.mv (by rintro k ⟨⟩;exact Nat.le_refl _)⟩
theorem MV {cb em:Nat} {C:CacheR} (h:CacheAt B w cb em C) (n:List UInt8) (hn:n.length≤100000) (k now:Int) (h0:0≤now) (h1:now≤1099511627776) (hk:-9223372036854775808≤k∧k≤9223372036854775807) (hc:0≤C.calls∧C.calls≤1000000000) {x:EntR} (hfi:C.l.findIdx? (oV (fold n) k)=some i) (hix:C.l[i]? = some x) (hnx:now<x.till) (hxt:x.till≤1000000000000000000) :
 Calls Tryz.prog 191 #[.pointer (some ⟨cb,0,none⟩),aE n, .int .i64 k, .int .i64 now] w (fun e w'=>∃ v,e=.returned (.tuple #[.agg #[aE x.s.name, .int .i64 x.s.kind, .int .i64 (x.till - now),v], .int .i64 x.rank, .bool true])∧Own w.heap.size 1 9 w' v (aH x.s.data)∧CacheAt B w' cb em (C.use i x)∧Kf cT [] w w'∧Lo B w w'):=by
 obtain ⟨gs,hC⟩:=h;have hb:=hC.blk;have hp:=aA (cs:=[.int .i64 C.room, .int .i64 C.most, .map (some em), .int .i64 C.calls]) hb;have e1:(decide (0≤now)&&decide (now≤1099511627776))=true:=by simp;omega
 obtain ⟨g,hg,hgk,hgA,hgl⟩:=hC.look hfi;rw [hix]at hgl;cases hgl
 have hf:(fold n).length≤1000000:=by
  cases hl:aM n with
  | none=>unfold fold;rw [hl];show n.length≤_;omega
  | some ls=>exact Nat.le_trans (jE n (by rw [hl];rfl)) aC
 have hok:SY (pS (fold n) k):=LE _ _ hf hk;have hzv:∀ w,(zeroValue 318).run Tryz.prog w=.ok (.pointer none) w:=fun w=>by kernel_rfl
 have htm:eI Tryz.prog 226 317 318=true:=zDk;go_enter Tryz.func191,Tryz.ntmps191
 refine_lift lQ ?_;intro _ _ _;refine dX (z:=gT) fun w1 x1 s1 b1=>?_;refine aB ?_;refine_lift mH fun _ _ _ _=>?_;refine cB (EL now 0 1099511627776 _) fun w2 x2=>?_;rw [e1];have hx2:=x1.trans x2;have hp2:=hp.ext hx2;have hm2:=hC.map.ext hx2;refine_lift bU fun _ _=>?_;refine dA zDk zDk ?_;refine_lift vO ?_;refine hO (enters_of Tryz.func53 rfl rfl) rfl rfl (fun w' x'=>vQ n w') ?_;refine aB ?_;refine_lift vO ?_;refine fL (v:=pS (fold n) k) (fun w' x'=>Runs.build (vals:=[(0,aE (fold n)),(1, .int .i64 k)]) rfl (by kernel_rfl)) ?_;refine aB ?_;refine fL (v:=.tuple #[.pointer (some ⟨g.b,0,none⟩), .bool true]) (fun w' x'=>Runs.lookup rfl rfl (eU wK htm hzv (hm2.ext x') hok hgk hC.uniq true)) ?_;refine aB ?_;refine_lift vO ?_;intro w3 x3;have hx3:=hx2.trans x3;have hpg:=aA (cs:=JH g.e g.v) (hx3.at hgA.blk);have hpc:=hp.ext hx3;refine_lift lQ fun _ _ _=>?_;have hb3:=hx3.at hb;have hg3:=hx3.at hgA.blk;have hne:g.b≠cb:=mJ hgA.blk hb aK;refine fA 3 (.int .i64 (C.calls+1)) hb3 rfl fun w4 p4=>?_;have hg4:=p4.mv.at hg3 (by intro e;exact hne (Option.some.inj e));have hb4:=p4.this;have hpc4:=aA (cs:=[.int .i64 C.room, .int .i64 C.most, .map (some em), .int .i64 (C.calls+1)]) hb4;clear hpg hpc;refine_lift bU fun _ _=>?_;refine fA 6 (.int .i64 (C.calls+1)) hg4 rfl fun w5 p5=>?_;have hb5:=p5.mv.at hb4 (by intro e;exact hne (Option.some.inj e).symm);have hg5:=p5.this;have hpg5:=aA (cs:=JH { g.e with used:=C.calls+1 } g.v) hg5;have hps5:Pts w5 (aV (.pointer (some ⟨g.b,0,none⟩)) 0) [aE g.e.s.name, .int .i64 g.e.s.kind, .int .i64 g.e.s.ttl,g.v]:=(hpg5.part 0).front 4;refine_lift bU fun _ _=>?_;refine dX (z:=gT) fun w6 x6 s6 b6=>?_;refine aB ?_;have hr0:g.v.oneCell'=true:=hgA.row.one;refine dL (v:=.agg #[aE g.e.s.name, .int .i64 g.e.s.kind, .int .i64 g.e.s.ttl,g.v]) b6 (gE rfl rfl rfl hr0) fun w7 p7=>?_;have x57:=cJ x6 p7;have hpS:=aA (cs:=[aE g.e.s.name, .int .i64 g.e.s.kind, .int .i64 g.e.s.ttl,g.v]) p7.this;have hpg7:=hpg5.ext x57;have row7:Own B 1 9 w7 g.v (aH g.e.s.data):=((eM (eM (hgA.row.ext hx3) p4 hb3) p5 hg4).ext x57);refine_lift mT fun _ _=>?_;refine aO 10 (Ext w7) zDk ?_;intro w8 x8 _;refine ⟨x8,?_⟩;refine bE 0 ?_;refine bE 1 ?_;refine bE 2 ?_;refine bE 3 ?_;refine bE 4 ?_;refine bE 5 ?_;refine bE 6 ?_;refine bE 7 ?_;refine cZ 9 ?_;refine dH 8 ?_;refine gY (Ee g.v g.e.s.data _ (row7.sl.ext x8) (by have:=hgA.len;omega)) fun v9 w9 x9 o9=>?_;refine aB ?_;have x79:=x8.trans x9;refine aD ⟨aR x79,?_⟩;refine dH 10 ?_;refine fA 2 (.int .i64 (g.e.till - now)) (x79.at p7.this) rfl fun w10 p10=>?_;refine aD ⟨aN rfl,?_⟩;refine cZ 11 ?_;refine dH 12 ?_;refine fA 3 v9 p10.this o9.one fun w11 p11=>?_;refine aD ⟨aN rfl,?_⟩;refine jP ?_;have b11:=p11.this;have x511:=cJ (cJ (x57.trans x79) p10) p11;refine_lift mT fun _ _=>?_;have lc:cb<w.heap.size:=(Array.getElem?_eq_some_iff.1 hb).1;have lg:g.b<w.heap.size:=(Array.getElem?_eq_some_iff.1 hgA.blk).1;have bR:w11.heap[w.heap.size]? = some (.cells gT.toArray 136 (0,0)):=x511.at ((p5.other _ aC).trans ((p4.other _ aC).trans ((x2.trans x3).at b1)));have hpg11:=hpg5.ext x511;have hpS11:=aA (cs:=[aE g.e.s.name, .int .i64 g.e.s.kind, .int .i64 (g.e.till - now),v9]) b11;have o11:Own w.heap.size 1 9 w11 v9 (aH g.e.s.data):=(eM (eM o9 p10 (x79.at p7.this)) p11 p10.this).weaken (by have:=hx3.size;have:=p4.size;have:=p5.size;have:=x57.size;have:=x8.size;omega);clear hpS hpg7 hpg5 hpc4 hps5 hp2 hp;refine aO 6 (fun w'=>Pts w' (.pointer (some ⟨g.b,0,none⟩)) (JH { g.e with used:=C.calls+1 } g.v)∧Pts w' (.pointer (some ⟨w5.heap.size,0,none⟩)) [aE g.e.s.name, .int .i64 g.e.s.kind, .int .i64 (g.e.till - now),v9]) zDk ?_;intro w12 x12 _;refine ⟨⟨hpg11.ext x12,hpS11.ext x12⟩,?_⟩;refine oE (i:=0) (v:=.agg #[aE g.e.s.name, .int .i64 g.e.s.kind, .int .i64 (g.e.till - now),v9]) rfl rfl (fun w' hF=>by obtain ⟨_,hF⟩:=hF;exact vM) ?_;refine aB ?_;refine cZ 1 ?_;refine cZ 2 ?_;refine cZ 3 ?_;refine oE (i:=4) (v:=.int .i64 g.e.rank) rfl rfl (fun w' hF=>by obtain ⟨hF,_⟩:=hF;exact vM) ?_;refine aB ?_;refine dH 5 ?_;refine dL (v:=.agg #[aE g.e.s.name, .int .i64 g.e.s.kind, .int .i64 (g.e.till - now),v9]) (x12.at bR) (gE rfl rfl rfl o11.one) fun w13 p13=>?_;have h13:w.heap.size<w3.heap.size:=by have:=x2.size;have:=x3.size;omega
 have b13a:=p13.mv.at (x12.at (x511.at hg5)) (by intro e;have:=Option.some.inj e;omega);have b13b:=p13.mv.at (x12.at b11) (by intro e;have:=Option.some.inj e;have:=p4.size;have:=p5.size;omega);refine aD ⟨aR ⟨aA b13a,aA b13b⟩,?_⟩;refine dH 6 ?_
 ((with_reducible refine aS ?_);(first|(refine gV ?_;refine eS ?_)|(refine lY ?_;refine nR ?_;(with_reducible refine aS ?_);refine gV ?_;refine eS ?_)))
 refine aD ⟨aN rfl,?_⟩;refine cZ 7 ?_;refine jP ?_;refine_lift aT ?_;have m13:=p13.mv.at (x12.at (x511.at hb5)) (by intro e;have:=Option.some.inj e;omega);refine bodyPost_ret (gR (cs:=[aE g.e.s.name, .int .i64 g.e.s.kind, .int .i64 (g.e.till - now),v9]) rfl rfl p13.this (by kernel_rfl)) rfl ⟨v9,rfl,eM (o11.ext x12) p13 (x12.at bR),?_,?_,(Lo.of hx3).trans ((Lo.put p4 hC.ge.1).trans ((Lo.put p5 hgA.ge).trans ((Lo.of (x511.trans x12)).trans (Lo.put p13 (by have:=hC.ge;omega)))))⟩
 ·refine ⟨_,hC.used hg m13 b13a fun c hc h1 h2=>?_⟩;rw [p13.other c aC,x12.block c (by have:=x511.size;have:=p4.size;have:=p5.size;omega),x511.block c (by have:=p4.size;have:=p5.size;omega),p5.other c h2,p4.other c h1,hx3.block c hc]
 ·have k1:Kf cT [] w w3:=Kf.of hx3;have k2:Kf cT [] w3 w4:=Kf.put p4 hb3 aK;have k3:Kf cT [] w4 w5:=Kf.put p5 hg4 aK;have k4:Kf cT [] w5 w12:=Kf.of (x511.trans x12);refine ⟨fun c cs t fz hc ht=>?_,fun c es q hc _=>?_⟩
  ·have hlt:=(Array.getElem?_eq_some_iff.1 hc).1;rw [p13.other c aC];exact (((k1.trans k2).trans k3).trans k4).cells c cs t fz hc ht
  ·have hlt:=(Array.getElem?_eq_some_iff.1 hc).1;rw [p13.other c aC];exact (((k1.trans k2).trans k3).trans k4).maps c es q hc aX
def CacheR.drop (C:CacheR) (n:List UInt8) (k:Int):List EntR:=match C.l.findIdx? (oV n k) with
 | none=>C.l
 | some i=>C.l.eraseIdx i
def CacheR.bars (C:CacheR) (s:RSet) (rank now:Int):Bool:=match C.l.findIdx? (oV s.name s.kind) with
 | none=>false
 | some i=>match C.l[i]? with
   | none=>false
   | some x=>decide (now<x.till)&&decide (rank<x.rank)
def CacheR.put (C:CacheR) (s:RSet) (rank now:Int):CacheR×Int :=
 if cU [s]≠0 then (C,1)else if C.bars s rank now=true then (C,9) else
 if s.ttl=0 then ({ C with l:=C.drop s.name s.kind },0) else
 ({ C with calls:=C.calls+1,l:=C.drop s.name s.kind ++ [⟨s,rank,now+min s.ttl C.most,C.calls+1⟩] },0)
theorem SZ {x:Value} {s:RSet} (h:Sl 4 w u [[aE s.name, .int .i64 s.kind, .int .i64 s.ttl,x]]) (hx:Sl 1 w x (aH s.data)):SetsAt w u [s]:=by
 refine (SetsC.sets ⟨rfl,fun i t ht=>?_⟩ h)
 match i,ht with
 | 0,ht =>
  cases ht
  exact ⟨x,rfl,hx⟩
theorem PD {s:RSet} (h:cU [s]=0):s.name.length≤254∧1≤s.kind∧s.kind≤65535∧s.data.length≤20∧0≤s.ttl∧s.ttl≤2147483647:=by
 have hb:kI [s] 0=false:=by
  cases hb:kI [s] 0 with
  | false=>rfl
  | true=>rw [sX (i:=0) aX hb]at h;cases h
 have hm:lS s=true:=by simpa [kI]using hb
 simp only [lS,Bool.and_eq_true,decide_eq_true_eq,List.all_eq_true,List.mem_range]at hm;obtain ⟨⟨⟨m1,m2⟩,m3⟩,m4⟩:=hm;have h0:=m4 0 aC;simp only [qO,Bool.not_eq_true',Bool.or_eq_false_iff,decide_eq_false_iff_not,Decidable.not_not]at h0;obtain ⟨a1,a2,a3⟩:=jD (n:=[]) h0.1;obtain ⟨b1,b2⟩:=Option.isSome_iff_exists.1 a1;have ht:=h0.1;unfold bI at ht;refine ⟨(fM b2).2.2,a2,a3,m3,?_⟩;split at ht
 ·cases ht
 ·split at ht
  ·cases ht
  ·rename_i hh;simp only [not_or]at hh;omega
theorem EntM.At.ext {g:EntM} (h:g.At B w) (hx:Ext w w'):g.At B w':=⟨h.ge,hx.at h.blk,h.row.ext hx,h.len,h.ok⟩
theorem CacheV.ext {cb em:Nat} {C:CacheR} {gs:List EntM} (h:CacheV B w cb em C gs) (hx:Ext w w'):CacheV B w' cb em C gs :=
 ⟨h.ge,h.eq,hx.at h.blk,h.map.ext hx,fun g hg=>(h.ents g hg).ext hx,h.apart,h.keys⟩
theorem CacheV.dropped {cb em:Nat} {C:CacheR} {gs:List EntM} (h:CacheV B w cb em C gs) {k:Int} {o:Obj} (hp:Put w w' em o)
 (hd:(∃ i u,(gs.map EntM.key)[i]? = some (pS n k,u)∧MapS SY w' em ((gs.map EntM.key).eraseIdx i))∨((∀ e∈gs.map EntM.key,e.1≠pS n k)∧MapS SY w' em (gs.map EntM.key))) :
 ∃ gs',CacheV B w' cb em { C with l:=C.drop n k } gs'∧(∀ g∈gs',¬ (g.e.s.name=n∧g.e.s.kind=k))∧gs'.length≤gs.length:=by
 have hcell:∀ (c:Nat) (cs:Array Value) (t:TypeId) (fz:Nat×Nat),w.heap[c]? = some (.cells cs t fz)→w'.heap[c]? = some (.cells cs t fz):=fun c cs t fz hc=>hp.mv.at hc (by rintro ⟨⟩;exact h.map.neCells hc rfl);have hent:∀ g∈gs,g.At B w':=fun g hg=>by
  have a:=h.ents g hg;refine ⟨a.ge,hcell _ _ _ _ a.blk,a.row.same fun r hr=>?_,a.len,a.ok⟩;obtain ⟨cur,fz,hq⟩:=a.row.type hr;rw [hq,hcell _ _ _ _ hq]
 rcases hd with ⟨i,u,hi,hm⟩|⟨hn,hm⟩
 ·rw [List.getElem?_map]at hi;cases hg:gs[i]? with
  | none=>rw [hg]at hi;cases hi
  | some g =>
   rw [hg]at hi;simp only [Option.map_some,Option.some.injEq,EntM.key,Prod.mk.injEq,oW]at hi;obtain ⟨⟨rfl,rfl⟩,-⟩:=hi;obtain ⟨hil,hie⟩:=List.getElem?_eq_some_iff.1 hg;have hfi:C.l.findIdx? (oV g.e.s.name g.e.s.kind)=some i:=by
    rw [List.findIdx?_eq_some_iff_getElem];refine ⟨by rw [h.eq];simpa using hil,by simp [h.eq,hie,oV],fun j hj=>?_⟩;have hjl:j<gs.length:=aC;simp only [h.eq,List.getElem_map,oV,Bool.and_eq_true,decide_eq_true_eq];intro hh;have:=(List.getElem_inj (h₀:=by simpa using hjl) (h₁:=by simpa using hil) h.keys).1 (by simp [hie,hh]);omega
   refine ⟨gs.eraseIdx i,⟨h.ge,?_,hcell _ _ _ _ h.blk,by rw [← mA];exact hm,fun x hx=>hent x ((List.eraseIdx_sublist _ _).subset hx),?_,?_⟩,?_,List.length_eraseIdx_le ..⟩
   ·show C.drop _ _=_;unfold CacheR.drop;rw [hfi];simp only [h.eq,mA]
   ·rw [← mA];exact h.apart.sublist (List.eraseIdx_sublist _ _)
   ·rw [← mA];exact h.keys.sublist (List.eraseIdx_sublist _ _)
   ·intro x hx hh;obtain ⟨j,hj,rfl⟩:=List.mem_iff_getElem.1 hx;rw [List.getElem_eraseIdx]at hh;split at hh
    ·rename_i hji;have:=(List.getElem_inj (h₀:=by simp;omega) (h₁:=by simpa using hil) h.keys (i:=j) (j:=i)).1 (by simp [hie,hh]);omega
    ·rename_i hji;have hj1:j+1<gs.length:=by
      rw [List.length_eraseIdx]at hj;split at hj<;>omega
     have:=(List.getElem_inj (h₀:=by simpa using hj1) (h₁:=by simpa using hil) h.keys (i:=j+1) (j:=i)).1 (by simp [hie,hh]);omega
 ·have hfi:C.l.findIdx? (oV n k)=none:=by
   rw [List.findIdx?_eq_none_iff];intro e he;rw [h.eq]at he;obtain ⟨g,hg,rfl⟩:=List.mem_map.1 he;have:=hn _ (List.mem_map.2 ⟨g,hg,rfl⟩);simp only [EntM.key,ne_eq,oW]at this;cases hb:oV n k g.e with
   | false=>rfl
   | true=>simp only [oV,Bool.and_eq_true,decide_eq_true_eq]at hb;exact absurd hb this
  refine ⟨gs,⟨h.ge,(show C.drop n k=_ by unfold CacheR.drop;rw [hfi];exact h.eq),hcell _ _ _ _ h.blk,hm,hent,h.apart,h.keys⟩,fun g hg hh=>?_,Nat.le_refl _⟩;exact hn _ (List.mem_map.2 ⟨g,hg,rfl⟩) (by simp [EntM.key,oW,hh])
theorem MapS.mvc {ok:Value→Prop} {m:Nat} {ents:List (Value×Value)} {t:TypeId} {o:Obj} (h:MapS ok w m ents) (hp:Put w w' b o) (hb:w.heap[b]? = some (.cells cs t fz)):MapS ok w' m ents :=
 h.at fun _ _ x=>hp.mv.at x (by intro e;exact h.neCells hb (Option.some.inj e))
theorem CacheV.add {cb em:Nat} {C:CacheR} {gs:List EntM} {e:EntR} (h:CacheV B w cb em C gs)
 (hcb:w'.heap[cb]? = some (.cells #[.int .i64 C.room, .int .i64 C.most, .map (some em), .int .i64 (C.calls+1)] 228 (0,0)))
 (hm:MapS SY w' em (gs.map EntM.key ++ [(pS e.s.name e.s.kind, .pointer (some ⟨b,0,none⟩))])) (hnew:(EntM.mk e b v).At B w') (hb:w.heap.size≤b)
 {x0 t0:Nat} {cs0:Array Value} {fz0:Nat×Nat} (hx0:w.heap[x0]? = some (.cells cs0 t0 fz0)) (ht0:t0≠321) (ht1:t0≠9)
 (hoth:∀ c,c<w.heap.size→c≠cb→c≠em→c≠x0→w'.heap[c]? = w.heap[c]?) (hfr:∀ g∈gs,¬ (g.e.s.name=e.s.name∧g.e.s.kind=e.s.kind)) :
 CacheV B w' cb em { C with calls:=C.calls+1,l:=C.l ++ [e] } (gs ++ [⟨e,b,v⟩]):=by
 have hold:∀ g∈gs,g.At B w':=fun g hg=>by
  have a:=h.ents g hg;refine a.same (hoth _ (Array.getElem?_eq_some_iff.1 a.blk).1 (mJ a.blk h.blk aK) (fun e=>h.map.neCells a.blk e.symm) (mJ a.blk hx0 (fun e=>ht0 e.symm))) fun r hr=>hoth r (a.row.block r hr).2 ?_ ?_ ?_
  ·intro e;rw [e]at hr;exact a.row.neBlock h.blk aK hr
  ·intro e;rw [e]at hr;obtain ⟨cur,fz,hq⟩:=a.row.type hr;exact h.map.neCells hq rfl
  ·intro e;rw [e]at hr;exact a.row.neBlock hx0 ht1 hr
 refine ⟨h.ge,by simp [h.eq],hcb,by simpa [EntM.key]using hm,fun g hg=>?_,?_,?_⟩
 ·rcases List.mem_append.1 hg with hg|hg
  ·exact hold g hg
  ·rw [List.mem_singleton.1 hg];exact hnew
 ·rw [List.map_append,List.nodup_append];refine ⟨h.apart,aX,fun x hx y hy=>?_⟩;obtain ⟨g,hg,rfl⟩:=List.mem_map.1 hx;simp only [List.map_cons,List.map_nil,List.mem_singleton]at hy;have:=(Array.getElem?_eq_some_iff.1 (h.ents g hg).blk).1;intro hh;have hb2:g.b=b:=hh.trans hy;omega
 ·rw [List.map_append,List.nodup_append];refine ⟨h.keys,aX,fun x hx y hy=>?_⟩;obtain ⟨g,hg,rfl⟩:=List.mem_map.1 hx;simp only [List.map_cons,List.map_nil,List.mem_singleton]at hy;intro hh;exact hfr g hg (by have:=hh.trans hy;simpa using this)
theorem Ap {cb em:Nat} {C:CacheR} (h:CacheAt B w cb em C) (s:RSet) (v:Value) (rank now:Int) (hva:∀ w',w.heap.size≤w'.heap.size→(∀ c,c<w.heap.size→c≠cb→c≠em→w'.heap[c]? = w.heap[c]?)→Sl 1 w' v (aH s.data)) (h0:0≤now) (h1:now≤1099511627776) (r1:1≤rank) (r2:rank≤5) (hc:0≤C.calls∧C.calls≤1000000000) (hroom:(C.l.length:Int)<C.room) (hmost:1≤C.most∧C.most≤2147483647) :
 Calls Tryz.prog 138 #[.pointer (some ⟨cb,0,none⟩), .agg #[aE s.name, .int .i64 s.kind, .int .i64 s.ttl,v], .int .i64 rank, .int .i64 now] w (fun e w'=>e=.returned (.int .i64 (C.put s rank now).2)∧CacheAt B w' cb em (C.put s rank now).1∧Kf cT [em] w w'∧Lo B w w'∧∀ c,c<w.heap.size→c≠cb→c≠em→w'.heap[c]? = w.heap[c]?):=by
 have hA:cU [s]≠0→C.put s rank now=(C,1):=fun a=>by unfold CacheR.put;rw [if_pos a]
 have hB:cU [s]=0→C.bars s rank now=true→C.put s rank now=(C,9):=fun a b=>by unfold CacheR.put;rw [if_neg aC,if_pos b]
 have hC1:cU [s]=0→C.bars s rank now=false→s.ttl=0→C.put s rank now=({ C with l:=C.drop s.name s.kind },0):=fun a b c=>by unfold CacheR.put;rw [if_neg aC,if_neg (by rw [b];simp),if_pos c]
 have hC2:cU [s]=0→C.bars s rank now=false→s.ttl≠0→C.put s rank now=({ C with calls:=C.calls+1,l:=C.drop s.name s.kind ++ [⟨s,rank,now+min s.ttl C.most,C.calls+1⟩] },0):=fun a b c=>by unfold CacheR.put;rw [if_neg aC,if_neg (by rw [b];simp),if_neg c]
 generalize C.put s rank now=RES at *;have hv:Sl 1 w v (aH s.data):=hva w (Nat.le_refl _) (fun _ _ _ _=>rfl);obtain ⟨gs,hC⟩:=h;have hb:=hC.blk;have hp:=aA (cs:=[.int .i64 C.room, .int .i64 C.most, .map (some em), .int .i64 C.calls]) hb;have e1:(decide (0≤now)&&decide (now≤1099511627776))=true:=by simp;omega
 have e2:(decide (1≤rank)&&decide (rank≤5))=true:=by simp;omega
 have hzv:∀ w,(zeroValue 318).run Tryz.prog w=.ok (.pointer none) w:=fun w=>by kernel_rfl
 have htm:eI Tryz.prog 226 317 318=true:=zDk;go_enter Tryz.func138,Tryz.ntmps138
 repeat' (first|((with_reducible refine aZ ?_);go_step)|fail)
 refine jO (vs:=[aE s.name, .int .i64 s.kind, .int .i64 s.ttl,v]) fun w1 x1 s1 b1=>?_;refine aB ?_;have hpS1:=aA (cs:=[aE s.name, .int .i64 s.kind, .int .i64 s.ttl,v]) b1;have hp1:=hp.ext x1
 (repeat' first|((with_reducible refine aZ ?_);go_step)|((with_reducible refine aS ?_);first|refine dN ?_|(refine bG ?_ ?_<;>intro hc))|fail)
 refine oD (e:=136) (k:=4) (bytes:=56) (xs:=[.agg #[aE s.name, .int .i64 s.kind, .int .i64 s.ttl,v]]) (by simp [Value.cells]) fun v2 w2 x2 _ sl2 o2=>?_;refine aB ?_;have hset:=SZ (x:=v) sl2 ((hv.ext x1).ext x2);refine cB (Ft _ [s] _ hset) fun w3 x3=>?_;by_cases hck:cU [s]=0
 ·rw [hck]
  (repeat' first|((with_reducible refine aZ ?_);go_step)|((with_reducible refine aS ?_);first|refine dN ?_|(refine bG ?_ ?_<;>intro hc))|fail)
  refine cB (EL rank 1 5 _) fun w4 x4=>?_;rw [e2]
  (repeat' first|((with_reducible refine aZ ?_);go_step)|((with_reducible refine aS ?_);first|refine dN ?_|(refine bG ?_ ?_<;>intro hc))|fail)
  refine cB (EL now 0 1099511627776 _) fun w5 x5=>?_;rw [e1];have hx25:=(x2.trans x3).trans (x4.trans x5);have hpS5:=hpS1.ext hx25;have hp5:=hp1.ext hx25;obtain ⟨q1,q2,q3,q4,q5,q6⟩:=PD hck;have hok:SY (pS s.name s.kind):=LE _ _ aC aC
  (repeat' first|((with_reducible refine aZ ?_);go_step)|((with_reducible refine aS ?_);first|refine dN ?_|(refine bG ?_ ?_<;>intro hc))|fail)
  refine aG (v:=pS s.name s.kind) (Runs.build (vals:=[(0,aE s.name),(1, .int .i64 s.kind)]) rfl (by kernel_rfl)) ?_;refine aB ?_;refine dX (z:=[aE [], .int .i64 0]) fun w6 x6 s6 b6=>?_;refine aB ?_;refine dL (v:=.agg #[aE s.name, .int .i64 s.kind]) b6 (OZ rfl rfl) fun w7 p7=>?_;have x57:=cJ x6 p7;have x17:=hx25.trans x57;have hpS7:=hpS5.ext x57;have hp7:=hp5.ext x57;have hpK7:=aA (cs:=[aE s.name, .int .i64 s.kind]) p7.this;have hm7:=hC.map.ext (x1.trans x17);obtain ⟨xv,isb,hlk,hcase⟩:∃ xv isb,(∀ w',Ext w7 w'→(Instr.lookup 226 (.map (some em)) (pS s.name s.kind) true).run Tryz.prog w'=.ok (.tuple #[xv, .bool isb]) w')∧((isb=false∧xv=.pointer none∧C.bars s rank now=false)∨∃ g,g∈gs∧isb=true∧xv=.pointer (some ⟨g.b,0,none⟩)∧C.bars s rank now=(decide (now<g.e.till)&&decide (rank<g.e.rank))):=by
   cases hfi:C.l.findIdx? (oV s.name s.kind) with
   | none=>exact ⟨.pointer none,false,fun w' x'=>lE wK htm hzv (hm7.ext x') hok (hC.miss hfi) true, .inl ⟨rfl,rfl,by simp [CacheR.bars,hfi]⟩⟩
   | some i =>
    obtain ⟨g,hg,hgk,hgA,hgl⟩:=hC.look hfi;exact ⟨.pointer (some ⟨g.b,0,none⟩),true,fun w' x'=>eU wK htm hzv (hm7.ext x') hok hgk hC.uniq true, .inr ⟨g,List.mem_of_getElem? hg,rfl,rfl,by simp [CacheR.bars,hfi,hgl]⟩⟩
  repeat' (first|((with_reducible refine aZ ?_);go_step)|fail)
  refine dA zDk zDk ?_
  (try ((with_reducible refine EW ?_);refine UO ?_))
  refine fL (v:=.tuple #[xv, .bool isb]) (fun w' x'=>Runs.lookup rfl rfl (hlk w' x')) ?_;refine aB ?_
  (try ((with_reducible refine EW ?_);refine UO ?_))
  intro w8 x8;have hp8:=hp7.ext x8;have hpS8:=hpS7.ext x8;have hpK8:=hpK7.ext x8;have x18:=x17.trans x8;have xw8:=x1.trans x18;rcases hcase with ⟨rfl,rfl,hbar⟩|⟨g,hg,rfl,rfl,hbar⟩
  all_goals first
   | (have hpg:=aA (cs:=JH g.e g.v) (xw8.at (hC.ents g hg).blk);(repeat' first|((with_reducible refine aZ ?_);go_step)|((with_reducible refine aS ?_);first|refine dN ?_|(refine bG ?_ ?_<;>intro hc))|fail))
   | (repeat' first|((with_reducible refine aZ ?_);go_step)|((with_reducible refine aS ?_);first|refine dN ?_|(refine bG ?_ ?_<;>intro hc))|fail)
  all_goals first
   | (go_ret;rw [hB hck (by rw [hbar];simp;omega)];exact ⟨rfl,⟨gs,hC.ext xw8⟩,Kf.of xw8,Lo.of xw8,fun c h _ _=>xw8.block c h⟩)
   | skip
  all_goals have hbar0:C.bars s rank now=false:=by first|exact hbar|(rw [hbar];simp;omega)
  all_goals
   refine aO 5 (Ext w8) zDk ?_;intro w9 x9 _;refine ⟨x9,?_⟩;refine bE 0 ?_;refine bE 1 ?_;refine bE 2 ?_;refine bE 3 ?_;refine bE 4 ?_;refine dH 5 ?_;refine rA wK rfl rfl hok (hm7.ext (x8.trans x9)) (fun w10 o10 p10 hd=>?_) (ht:=htm);refine aD ⟨aN rfl,?_⟩;refine jP ?_;obtain ⟨gs',hV,hfr,hlen'⟩:=(hC.ext (xw8.trans x9)).dropped p10 hd;have hlC:C.l.length=gs.length:=by rw [hC.eq];simp
   have hL:¬ (C.room≤((gs'.length:Nat):Int)):=aC;have lem:em<w.heap.size:=hC.map.lt;have lcb:cb<w.heap.size:=(Array.getElem?_eq_some_iff.1 hb).1;have bS10:=p10.mv.at (x9.at (x8.at (x57.at (hx25.at b1)))) (by intro e;have:=Option.some.inj e;omega);have bK10:=p10.mv.at (x9.at (x8.at p7.this)) (by intro e;have:=Option.some.inj e;have:=x1.size;have:=hx25.size;omega);have hpS10:=aA (cs:=[aE s.name, .int .i64 s.kind, .int .i64 s.ttl,v]) bS10;have hpK10:=aA (cs:=[aE s.name, .int .i64 s.kind]) bK10;have hpC10:=aA (cs:=[.int .i64 C.room, .int .i64 C.most, .map (some em), .int .i64 C.calls]) hV.blk;clear hpS8 hpK8 hp8 hpS7 hpK7 hp7 hpS5 hp5 hpS1 hp1 hp;have lo10:Lo B w w10:=(Lo.of (xw8.trans x9)).trans (Lo.put p10 hC.ge.2);have kf10:Kf cT [em] w w10:=(Kf.of (xw8.trans x9)).trans (Kf.putMap p10 (hC.map.ext (xw8.trans x9)) aX)
   (repeat' first|((with_reducible refine aZ ?_);go_step)|((with_reducible refine aS ?_);first|refine dN ?_|(refine bG ?_ ?_<;>intro hc))|fail)
  all_goals first
   | (go_ret;rw [hC1 hck hbar0 (by assumption)];exact ⟨rfl,⟨gs',hV⟩,kf10,lo10,fun c h1 h2 h3=>by rw [p10.other c h3,(xw8.trans x9).block c h1]⟩)
   | skip
  all_goals
   refine dA zDk zDk ?_
   (try ((with_reducible refine EW ?_);refine UO ?_))
   refine fL (v:=.int .i64 (((gs'.map EntM.key).length:Nat):Int)) (fun w' x'=>Runs.lenM rfl (hV.map.ext x') htm) ?_;refine aB ?_
   (try ((with_reducible refine EW ?_);refine UO ?_))
   intro w11 x11;rw [decide_eq_false hL];have hpS11:=hpS10.ext x11;have hpK11:=hpK10.ext x11;have hpC11:=hpC10.ext x11
   (repeat' first|((with_reducible refine aZ ?_);go_step)|((with_reducible refine aS ?_);first|refine dN ?_|(refine bG ?_ ?_<;>intro hc))|fail)
   refine fA 3 (.int .i64 (C.calls+1)) (x11.at hV.blk) rfl fun w12 p12=>?_;have z1:=x1.size;have z2:=x17.size;have z3:=x8.size;have z4:=x9.size;have z5:=p10.size;have z6:=x11.size;have z7:=p12.size;have bS12:=p12.mv.at (x11.at bS10) (by intro e;have:=Option.some.inj e;omega);have bK12:=p12.mv.at (x11.at bK10) (by intro e;have:=Option.some.inj e;have:=hx25.size;omega);have hpS12:=aA (cs:=[aE s.name, .int .i64 s.kind, .int .i64 s.ttl,v]) bS12;have hoth:∀ c,c<w.heap.size→c≠cb→c≠em→w12.heap[c]? = w.heap[c]? := fun c h1 h2 h3=>by
    rw [p12.other c h2,x11.block c aC,p10.other c h3,(xw8.trans x9).block c h1]
   have hv12:Sl 1 w12 v (aH s.data):=hva w12 aC hoth;clear hpS11 hpC11 hpC10 hpS10
   (repeat' first|((with_reducible refine aZ ?_);go_step)|((with_reducible refine aS ?_);first|refine dN ?_|(refine bG ?_ ?_<;>intro hc))|fail)
   refine gY (Ee v s.data _ hv12 aC) fun v13 w13 x13 o13=>?_;refine aB ?_
   (repeat' first|((with_reducible refine aZ ?_);go_step)|((with_reducible refine aS ?_);first|refine dN ?_|(refine bG ?_ ?_<;>intro hc))|fail)
   refine fA 3 v13 (x13.at bS12) o13.one fun w14 p14=>?_;have z8:=x13.size;have z9:=p14.size;have bK14:=p14.mv.at (x13.at bK12) (by intro e;have:=Option.some.inj e;have:=hx25.size;have:=x1.size;omega);have bC14:=p14.mv.at (x13.at p12.this) (by intro e;have:=Option.some.inj e;omega);have hpK14:=aA (cs:=[aE s.name, .int .i64 s.kind]) bK14;have hpS14:=aA (cs:=[aE s.name, .int .i64 s.kind, .int .i64 s.ttl,v13]) p14.this;have hpC14:=aA (cs:=[.int .i64 C.room, .int .i64 C.most, .map (some em), .int .i64 (C.calls+1)]) bC14;have hmin:0≤min s.ttl C.most∧min s.ttl C.most≤2147483647:=aC;have oth14:∀ c,c<w.heap.size→c≠cb→c≠em→w14.heap[c]? = w.heap[c]? := fun c h1 h2 h3=>by
    rw [p14.other c aC,x13.block c aC,hoth c h1 h2 h3]
   have o14:Own w12.heap.size 1 9 w14 v13 (aH s.data):=eM o13 p14 (x13.at bS12);clear hpS12 hpK11 hpK10
   repeat' (first|((with_reducible refine aZ ?_);go_step)|fail)
   refine aO 22 (Ext w14) zDk ?_;intro w15 x15 _;refine ⟨x15,?_⟩;refine cZ 0 ?_;refine cZ 1 ?_;refine cZ 2 ?_;refine bE 3 ?_;refine bE 4 ?_;refine bE 5 ?_;refine cZ 6 ?_;refine cZ 7 ?_;refine cZ 8 ?_;refine bE 9 ?_;refine cZ 10 ?_;refine cZ 11 ?_;refine cZ 12 ?_;refine bE 13 ?_;refine cZ 14 ?_;refine cZ 15 ?_;refine cZ 16 ?_;refine cZ 17 ?_;refine cZ 18 ?_;refine bE 19 ?_;refine yB (i:=20) (v:=.agg (JH ⟨s,rank,now+min s.ttl C.most,C.calls+1⟩ v13).toArray) rfl rfl (fun _=>Runs.build (vals:=[(0, .agg #[aE s.name, .int .i64 s.kind, .int .i64 s.ttl,v13]),(1, .int .i64 rank),(2, .int .i64 (now+min s.ttl C.most)),(3, .int .i64 (C.calls+1))]) rfl (by kernel_rfl)) ?_;refine aB ?_;refine dH 21 ?_;refine jO (vs:=JH ⟨s,rank,now+min s.ttl C.most,C.calls+1⟩ v13) fun w16 x16 s16 b16=>?_;refine aB ?_;refine aD ⟨aR (x15.trans x16),?_⟩;have m16:MapS SY w16 em (gs'.map EntM.key):=((((hV.map.ext x11).mvc p12 (x11.at hV.blk)).ext x13).mvc p14 (x13.at bS12)).ext (x15.trans x16);obtain ⟨w17,o17,hr17,p17,m17⟩:=nK wK htm m16 (v:=.pointer (some ⟨w15.heap.size,0,none⟩)) hok (fun e he=>by
    obtain ⟨g,hg,rfl⟩:=List.mem_map.1 he;simp only [EntM.key,ne_eq,oW];exact hfr g hg)
   refine dH 22 ?_;refine eQ rfl rfl rfl rfl hr17 ?_;refine aD ⟨aN rfl,?_⟩;refine jP ?_
   (repeat' first|((with_reducible refine aZ ?_);go_step)|((with_reducible refine aS ?_);first|refine dN ?_|(refine bG ?_ ?_<;>intro hc))|fail)
   go_ret;have z10:=x15.size;have z11:=x16.size;have b17:=p17.mv.at b16 (by intro e;have:=Option.some.inj e;omega);have c17:=p17.mv.at ((x15.trans x16).at bC14) (by intro e;exact hC.map.neCells hb (Option.some.inj e).symm);have o17':Own B 1 9 w17 v13 (aH s.data):=((o14.ext (x15.trans x16)).same fun r hr=>p17.other r (by intro e;rw [e]at hr;exact absurd ((o14.block em hr).1) aC)).weaken (by have:=hC.ge;omega);rw [hC2 hck hbar0 (by assumption)];refine ⟨rfl,⟨_,hV.add c17 m17 ⟨(show B≤w15.heap.size by have:=hC.ge;omega),b17,o17',(show s.data.length≤1000000 by omega),hok⟩ aC bS10 aK aK (fun c h1 h2 h3 h4=>?_) hfr⟩,?_,lo10.trans ((Lo.of x11).trans ((Lo.put p12 hC.ge.1).trans ((Lo.of x13).trans ((Lo.put p14 (by have:=hC.ge;omega)).trans ((Lo.of (x15.trans x16)).trans (Lo.put p17 hC.ge.2)))))),fun c h1 h2 h3=>by rw [p17.other c h3,(x15.trans x16).block c aC,oth14 c h1 h2 h3]⟩
   ·rw [p17.other c h3,(x15.trans x16).block c aC,p14.other c h4,x13.block c aC,p12.other c h2,x11.block c h1]
   ·have all17:∀ c,c<w.heap.size→c≠cb→c≠em→w17.heap[c]? = w.heap[c]? := fun c h1 h2 h3=>by
     rw [p17.other c h3,(x15.trans x16).block c aC,oth14 c h1 h2 h3]
    refine ⟨fun c cs t fz hc ht=>?_,fun c es q hc hq=>?_⟩
    ·rw [all17 c (Array.getElem?_eq_some_iff.1 hc).1 (by rintro rfl;rw [hb]at hc;cases hc;exact ht aK) (fun e=>hC.map.neCells hc e.symm)];exact hc
    ·rw [all17 c (Array.getElem?_eq_some_iff.1 hc).1 (by rintro rfl;rw [hb]at hc;cases hc) (by rintro rfl;exact hq aX)];exact hc
 ·have hne:cU [s]=1:=by
   unfold cU at hck ⊢;split
   ·rfl
   ·split
    ·rename_i h1 h2;rw [if_neg h1,if_pos h2]at hck;exact absurd rfl hck
    ·rfl
  rw [hne]
  (repeat' first|((with_reducible refine aZ ?_);go_step)|((with_reducible refine aS ?_);first|refine dN ?_|(refine bG ?_ ?_<;>intro hc))|fail)
  go_ret;have hx3:=(x1.trans x2).trans x3;rw [hA hck];exact ⟨rfl,⟨gs,hC.ext hx3⟩,Kf.of hx3,Lo.of hx3,fun c h _ _=>hx3.block c h⟩
theorem YH (n:Int) (w:World):Calls Tryz.prog 129 #[.int .i64 n] w (bC w (.bool (decide (1≤n)&&decide (n≤100)))):=by
 go_enter Tryz.func129,Tryz.ntmps129
 refine_lift lP (fun hc=>?_) (fun hc=>?_)
 all_goals
  go_ret;refine ⟨?_,Ext.refl _⟩;simp;omega
structure CliR where
 node:Int
 id:Int
 name:List UInt8
def GG (c:CliR):List Value:=[.int .i64 c.node, .int .i64 c.id,aE c.name]
def lG (l:List CliR):List (List Value):=l.map GG
structure WaitR where
 n:Int
 qn:List UInt8
 qt:Int
 l:List CliR
def CK (v:Value):Prop:=∃ n,v=.int .i64 n
theorem kN:KL Tryz.prog 3 CK:=KL.int Tryz.underlying3
def BM (t:Option (WaitR×Nat)):List (Value×Value):=match t with
 | none=>[]
 | some (x,b)=>[(.int .i64 x.n, .pointer (some ⟨b,0,none⟩))]
structure WaitV (B:Nat) (w:World) (x:WaitR) (b:Nat) (v:Value):Prop where
 ge:B≤b
 blk:w.heap[b]? = some (.cells #[aE x.qn, .int .i64 x.qt,v] 328 (0,0))
 row:Own B 3 251 w v (lG x.l)
structure TabV (B:Nat) (w:World) (tb tm:Nat) (last:Int) (t:Option WaitR) (tbk:Option (WaitR×Nat)):Prop where
 ge:B≤tb∧B≤tm
 eq:t=tbk.map (·.1)
 blk:w.heap[tb]? = some (.cells #[.int .i64 20, .int .i64 10, .int .i64 last, .map (some tm)] 234 (0,0))
 map:MapS CK w tm (BM tbk)
 task:∀ x b,tbk=some (x,b)→∃ v,WaitV B w x b v
def TabAt (B:Nat) (w:World) (tb tm:Nat) (last:Int) (t:Option WaitR):Prop:=∃ tbk,TabV B w tb tm last t tbk
abbrev oT:List TypeId:=[234,328,251]
theorem WaitV.keep {x:WaitR} {T:List TypeId} {M:List Nat} (h:WaitV B w x b v) (hk:Kf T M w w') (h1:328∉T) (h2:251∉T):WaitV B w' x b v :=
 ⟨h.ge,hk.cells _ _ _ _ h.blk h1,h.row.keep hk.keep h2⟩
theorem TabAt.keep {tb tm:Nat} {last:Int} {t:Option WaitR} {T:List TypeId} {M:List Nat} (h:TabAt B w tb tm last t) (hk:Kf T M w w') (h0:tm∉M) (h1:234∉T) (h2:328∉T) (h3:251∉T):TabAt B w' tb tm last t:=by
 obtain ⟨tbk,a⟩:=h;refine ⟨tbk,a.ge,a.eq,hk.cells _ _ _ _ a.blk h1,a.map.keep hk h0,fun x b e=>?_⟩;obtain ⟨v,c⟩:=a.task x b e;exact ⟨v,c.keep hk h2 h3⟩
theorem TabV.ext {tb tm:Nat} {last:Int} {t:Option WaitR} {tbk:Option (WaitR×Nat)} (a:TabV B w tb tm last t tbk) (hx:Ext w w'):TabV B w' tb tm last t tbk:=by
 refine ⟨a.ge,a.eq,hx.at a.blk,a.map.ext hx,fun x b e=>?_⟩;obtain ⟨v,c⟩:=a.task x b e;exact ⟨v,c.ge,hx.at c.blk,c.row.ext hx⟩
theorem Aq (w:World):Calls Tryz.prog 72 #[.int .i64 20, .int .i64 10] w (kZ w fun r w'=>∃ tb tm,r=.tuple #[.pointer (some ⟨tb,0,none⟩), .int .i64 0]∧tb≠tm∧TabAt w.heap.size w' tb tm 0 none):=by
 go_enter Tryz.func72,Tryz.ntmps72
 refine_lift EZ ?_;intro _ _ _ _ _;refine cB (YH 20 _) fun w1 x1=>?_;rw [show (decide ((1:Int)≤20)&&decide ((20:Int)≤100))=true from rfl];refine_lift aT ?_;refine cB (YH 10 _) fun w2 x2=>?_;rw [show (decide ((1:Int)≤10)&&decide ((10:Int)≤100))=true from rfl];refine_lift bU fun _ _=>?_;refine lV (ok:=CK) rfl ?_;intro w3 x3 s3 m3;refine aB ?_;refine aG (v:=.agg #[.int .i64 20, .int .i64 10, .int .i64 0, .map (some w2.heap.size)]) (Runs.build (vals:=[(0, .int .i64 20),(1, .int .i64 10),(3, .map (some w2.heap.size))]) rfl (by kernel_rfl)) ?_;refine aB ?_;refine jO (vs:=[.int .i64 20, .int .i64 10, .int .i64 0, .map (some w2.heap.size)]) fun w4 x4 s4 b4=>?_;refine aB ?_;refine_lift aT ?_;go_ret2;have hx:=x1.trans (x2.trans (x3.trans x4));have z1:=x1.size;have z2:=x2.size;exact ⟨_,rfl,hx,w3.heap.size,w2.heap.size,rfl,aC,none,⟨aC,aC⟩,rfl,b4,m3.ext x4,aX⟩
theorem WK {tb tm:Nat} {last:Int} (h:TabAt B w tb tm last none) (qn:List UInt8) (qt:Int) (c:CliR) (h1:(aM qn).isSome=true) (h2:(aM c.name).isSome=true) (hl:0≤last∧last≤1000000000) :
 Calls Tryz.prog 141 #[.pointer (some ⟨tb,0,none⟩), .agg #[aE qn, .int .i64 qt], .agg (GG c).toArray] w (fun e w'=>e=.returned (.tuple #[.int .i64 (last+1), .bool true, .int .i64 0])∧TabAt B w' tb tm (last+1) (some ⟨last+1,fold qn,qt,[c]⟩)∧Kf oT [tm] w w'∧Lo B w w'∧∀ j,j<w.heap.size→j≠tb→j≠tm→w'.heap[j]? = w.heap[j]?):=by
 obtain ⟨tbk,hT⟩:=h;obtain rfl:tbk=none:=by
  cases tbk with
  | none=>rfl
  | some x=>have:=hT.eq;cases this
 have hb:=hT.blk;have hp:=aA (cs:=[.int .i64 20, .int .i64 10, .int .i64 last, .map (some tm)]) hb;have htm:eI Tryz.prog 232 3 326=true:=zDk;go_enter Tryz.func141,Tryz.ntmps141
 refine_lift sF ?_;intro _ _ _;refine jO (vs:=[aE qn, .int .i64 qt]) fun w1 x1 s1 b1=>?_;refine aB ?_;refine jO (vs:=GG c) fun w2 x2 s2 b2=>?_;refine aB ?_;have b12:=x2.at b1;have hpQ:=aA (cs:=[aE qn, .int .i64 qt]) b12;have hpC:=aA (cs:=GG c) b2;have hp2:=hp.ext (x1.trans x2);refine_lift mH fun _ _ _ _=>?_;refine cB (PO qn _) fun w3 x3=>?_;rw [if_pos h1];have hpQ3:=hpQ.ext x3;have hpC3:=hpC.ext x3;refine_lift aT ?_;refine cB (PO c.name _) fun w4 x4=>?_;rw [if_pos h2];have hpQ4:=hpQ3.ext x4;have hpC4:=hpC3.ext x4;refine_lift bU fun _ _=>?_;refine cB (vQ qn _) fun w5 x5=>?_;have hx25:=(x3.trans x4).trans x5;refine_lift aT ?_;have z1:=x1.size;have z2:=x2.size;have z3:=hx25.size;have lb:tb<w.heap.size:=(Array.getElem?_eq_some_iff.1 hb).1;have lm:tm<w.heap.size:=hT.map.lt;refine fA 0 (aE (fold qn)) (hx25.at b12) rfl fun w6 p6=>?_;have z4:=p6.size;have hx5:=(x1.trans x2).trans hx25;have bT6:=p6.mv.at (hx5.at hb) (by intro e;have:=Option.some.inj e;omega);have bC6:=p6.mv.at (hx25.at b2) (by intro e;have:=Option.some.inj e;omega);have m6:=(hT.map.ext hx5).mvc p6 (hx25.at b12);have hp6:=aA (cs:=[.int .i64 20, .int .i64 10, .int .i64 last, .map (some tm)]) bT6;clear hp2 hp hpQ hpQ3 hpQ4 hpC hpC3 hpC4;refine_lift mH fun _ _ _ _=>?_;refine pP rfl m6 (fun w7 x7 s7 i7=>?_) (ht:=htm);refine aB ?_;refine_lift aT ?_;refine wp_loop_once ?_;refine_lift sF ?_;intro _ _ _;refine aG (Runs.next0 rfl i7) ?_;refine aB ?_;refine_lift EZ fun _ _ _ _ _=>?_;have hp7:=hp6.ext x7;have m7:=m6.ext x7;refine dA zDk zDk ?_;refine_lift vO ?_;refine fL (v:=.int .i64 ((0:Nat):Int)) (fun w' x'=>Runs.lenM rfl (m7.ext x') htm) ?_;refine aB ?_;refine_lift vO ?_;intro w8 x8;have hp8:=hp7.ext x8;have hQ8:=aA (cs:=[aE (fold qn), .int .i64 qt]) ((x7.trans x8).at p6.this);have hC8:=aA (cs:=GG c) ((x7.trans x8).at bC6);have b8:=(x7.trans x8).at bT6;have m8:=m7.ext x8;refine_lift lQ fun _ _ _=>?_;refine fA 2 (.int .i64 (last+1)) b8 rfl fun w9 p9=>?_;have bQ9:=p9.mv.at ((x7.trans x8).at p6.this) (by intro e;have:=Option.some.inj e;omega);have bC9:=p9.mv.at ((x7.trans x8).at bC6) (by intro e;have:=Option.some.inj e;omega);have hQ9:=aA (cs:=[aE (fold qn), .int .i64 qt]) bQ9;have hC9:=aA (cs:=[.int .i64 c.node, .int .i64 c.id,aE c.name]) bC9;have hT9:=aA (cs:=[.int .i64 20, .int .i64 10, .int .i64 (last+1), .map (some tm)]) p9.this;have m9:=m8.mvc p9 b8;clear hp6 hp7 hp8 hQ8 hC8;refine_lift mT fun _ _=>?_;refine aO 13 (Ext w9) zDk ?_;intro w10 x10 _;refine ⟨x10,?_⟩;refine cZ 0 ?_;refine cZ 1 ?_;refine cZ 2 ?_;refine bE 3 ?_;refine cZ 4 ?_;refine cZ 5 ?_;refine cZ 6 ?_;refine bE 7 ?_;refine bE 8 ?_;refine bE 9 ?_;refine dH 10 ?_;refine oD (e:=251) (k:=3) (bytes:=32) (xs:=[.agg #[.int .i64 c.node, .int .i64 c.id,aE c.name]]) (by simp [Value.cells]) fun v11 w11 x11 s11 sl11 o11=>?_;refine aB ?_;refine aD ⟨aR (x10.trans x11),?_⟩;obtain ⟨ad11,cap11,hv11⟩:∃ a n,v11=.slice a 1 n:=by
  obtain ⟨a,n,e,_⟩:=sl11;exact ⟨a,n,e⟩
 refine yB (i:=11) (v:=.agg #[aE (fold qn), .int .i64 qt,v11]) rfl rfl (fun _=>Runs.build (vals:=[(0, .agg #[aE (fold qn), .int .i64 qt]),(1,v11)]) rfl (by rw [hv11];kernel_rfl)) ?_;refine aB ?_;refine dH 12 ?_;refine jO (vs:=[aE (fold qn), .int .i64 qt,v11]) fun w12 x12 s12 b12'=>?_;refine aB ?_;refine aD ⟨aR ((x10.trans x11).trans x12),?_⟩;have x912:=(x10.trans x11).trans x12;obtain ⟨w13,o13,hr13,p13,m13⟩:=nK kN htm (m9.ext x912) (x:=.int .i64 (last+1)) (v:=.pointer (some ⟨w11.heap.size,0,none⟩)) ⟨_,rfl⟩ (by simp [BM]);refine dH 13 ?_;refine eQ rfl rfl rfl rfl hr13 ?_;refine aD ⟨aN rfl,?_⟩;refine jP ?_;have bT13:=p13.mv.at (x912.at p9.this) (by intro e;exact hT.map.neCells hb (Option.some.inj e).symm);have hT13:=aA (cs:=[.int .i64 20, .int .i64 10, .int .i64 (last+1), .map (some tm)]) bT13;clear hT9 hQ9 hC9;refine_lift aT ?_;refine bodyPost_ret (results_tmp3 rfl _ _ _) rfl ⟨rfl,⟨some (⟨last+1,fold qn,qt,[c]⟩,w11.heap.size),hT.ge,rfl,bT13,m13,?_⟩,?_⟩
 ·rintro x b hxb;cases hxb
  have z5:=p9.size;have z6:=x10.size;have z7:=x11.size;have z8:=x12.size;have z9:=x7.size;have z10:=x8.size;have hge:=hT.ge;refine ⟨v11,(show B≤w11.heap.size by omega),p13.mv.at b12' (by intro e;have:=Option.some.inj e;omega),((o11.ext x12).same fun r hr=>p13.other r (by intro e;rw [e]at hr;exact absurd ((o11.block tm hr).1) aC)).weaken aC⟩
 ·have z5:=p9.size;have z6:=x10.size;have z7:=x11.size;have z8:=x12.size;have z9:=x7.size;have z10:=x8.size;have all13:∀ j,j<w.heap.size→j≠tb→j≠tm→w13.heap[j]? = w.heap[j]? := fun j h1 h2 h3=>by
   rw [p13.other j h3,x912.block j aC,p9.other j h2,(x7.trans x8).block j aC,p6.other j aC,hx5.block j h1]
  have hge:=hT.ge;refine ⟨⟨fun c cs t fz hc ht=>?_,fun c es q hc hq=>?_⟩,(Lo.of hx5).trans ((Lo.put p6 aC).trans ((Lo.of (x7.trans x8)).trans ((Lo.put p9 hge.1).trans ((Lo.of x912).trans (Lo.put p13 hge.2))))),all13⟩
  ·rw [all13 c (Array.getElem?_eq_some_iff.1 hc).1 (by rintro rfl;rw [hb]at hc;cases hc;exact ht aK) (fun e=>hT.map.neCells hc e.symm)];exact hc
  ·rw [all13 c (Array.getElem?_eq_some_iff.1 hc).1 (by rintro rfl;rw [hb]at hc;cases hc) (by rintro rfl;exact hq aX)];exact hc
theorem TA (n a b:Int) (w:World):Calls Tryz.prog 128 #[.int .i64 n, .int .i64 a, .int .i64 b] w (bC w (.bool (decide (a≤n)&&decide (n≤b)))):=by
 go_enter Tryz.func128,Tryz.ntmps128
 refine_lift lP (fun hc=>?_) (fun hc=>?_)
 all_goals
  go_ret;refine ⟨?_,Ext.refl _⟩;simp;omega
structure DenE (B:Nat) (w:World) (db:Nat) (room most:Int):Prop where
 ge:B≤db
 blk:w.heap[db]? = some (.cells #[.int .i64 room, .int .i64 most, .slice none 0 0] 231 (0,0))
theorem DenE.keep {db:Nat} {room most:Int} {T:List TypeId} {M:List Nat} (h:DenE B w db room most) (hk:Kf T M w w') (h1:231∉T):DenE B w' db room most:=⟨h.ge,hk.cells _ _ _ _ h.blk h1⟩
theorem Ar (room most:Int) (w:World) (h1:1≤room) (h2:room≤200) (h3:1≤most) (h4:most≤2147483647):Calls Tryz.prog 71 #[.int .i64 room, .int .i64 most] w (kZ w fun r w'=>∃ db,r=.tuple #[.pointer (some ⟨db,0,none⟩), .int .i64 0]∧DenE w.heap.size w' db room most):=by
 have e1:(decide (1≤room)&&decide (room≤200))=true:=by simp;omega
 have e2:(decide (1≤most)&&decide (most≤2147483647))=true:=by simp;omega
 go_enter Tryz.func71,Tryz.ntmps71
 refine_lift EZ ?_;intro _ _ _ _ _;refine cB (TA room 1 200 _) fun w1 x1=>?_;rw [e1];refine_lift aT ?_;refine cB (TA most 1 2147483647 _) fun w2 x2=>?_;rw [e2];refine_lift bU fun _ _=>?_;refine aG (v:=.agg #[.int .i64 room, .int .i64 most, .slice none 0 0]) (Runs.build (vals:=[(0, .int .i64 room),(1, .int .i64 most)]) rfl (by kernel_rfl)) ?_;refine aB ?_;refine jO (vs:=[.int .i64 room, .int .i64 most, .slice none 0 0]) fun w4 x4 s4 b4=>?_;refine aB ?_;refine_lift aT ?_;go_ret2;have z1:=x1.size;have z2:=x2.size;exact ⟨_,rfl,x1.trans (x2.trans x4),w2.heap.size,rfl,aC,b4⟩
theorem WL (w:World):Calls Tryz.prog 242 #[.slice none 0 0] w fun e w'=>e=.returned (.func (.func 265) #[] #[.pointer (some ⟨w.heap.size,0,none⟩)])∧Ext w w'∧w'.heap.size=w.heap.size+1∧w'.heap[w.heap.size]? = some (.cells #[.slice none 0 0] 229 (0,0)):=by
 go_enter Tryz.func242,Tryz.ntmps242
 refine_lift sF ?_;intro _ _ _;refine jO (vs:=[.slice none 0 0]) fun w1 x1 s1 h1=>?_;refine aB ?_;refine_lift aT ?_;go_ret;exact ⟨rfl,x1,s1,h1⟩
theorem TB (l b:Nat) (W:World) (hb:W.heap[b]? = some (.cells #[.slice none 0 0] 229 (0,0))) :
 Calls Tryz.prog 265 #[.func (.yield l) #[] #[], .pointer (some ⟨b,0,none⟩)] W (bC W (.tuple #[])):=by
 have hp:=aA (cs:=[.slice none 0 0]) hb;have hs:Sl 8 W (.slice none 0 0) []:=Sl.nil _ _;go_enter Tryz.func265,Tryz.ntmps265
 refine_lift bU fun _ _=>?_;rw [show ((([]:List (List Value)).length:Nat):Int)=0 from rfl];refine_lift aT ?_;refine wp_loop_once ?_;refine_lift jQ fun _=>?_
 go_end0
 exact ⟨rfl,Ext.refl _⟩
theorem BN {P:Program} {fn:Func} {p q r:Tmp} {t u s tv tx ty:TypeId} {fv fx fy:Nat×Nat} (h:fn.results=#[.cell p t, .cell q u, .cell r s]) {ts:List Value} {d:Nat} {y:Value} {cs:List Value}
 (hp:ts.getD p undef=.pointer (some ⟨b,0,none⟩)) (hq:ts.getD q undef=.pointer (some ⟨c,0,none⟩)) (hr:ts.getD r undef=.pointer (some ⟨d,0,none⟩)) (hv:w.heap[b]? = some (.cells #[v] tv fv)) (hx:w.heap[c]? = some (.cells cs.toArray tx fx)) (hy:w.heap[d]? = some (.cells #[y] ty fy)) (ht:iX P t=true) (hu:eF P u cs.length=true) (hs:iX P s=true) :
 (results fn ts.toArray).run P w=.ok (.tuple #[v, .agg cs.toArray,y]) w:=by
 have h1:=iH (P:=P) hv ht;have h3:=iH (P:=P) hy hs;obtain ⟨u2,ie,hu,hn,hie,hz⟩:=jV hu;have hl:=run_loadCells_list (P:=P) w ⟨c,0,none⟩ cs (fun j v hv=>by rw [cY,Nat.zero_add,cell_of_row w c j _ _ _ hx];simpa using hv);have hp':ts[p]?.getD undef=.pointer (some ⟨b,0,none⟩):=by simpa using hp
 have hq':ts[q]?.getD undef=.pointer (some ⟨c,0,none⟩):=by simpa using hq
 have hr':ts[r]?.getD undef=.pointer (some ⟨d,0,none⟩):=by simpa using hr
 have h2:(loadVar u ⟨c,0,none⟩).run P w=.ok (.agg cs.toArray) w:=by
  simp [loadVar,Sem.run_bind,jW hu hn,sizeOf,typeInfo,hie,hz,hl,Result.andThen]
 simp [results,h,hp',hq',hr',asAddr,Sem.run_bind,Result.andThen,h1,h2,h3]
theorem GH {db:Nat} {room most:Int} (h:DenE B w db room most) (qn:List UInt8) (qt now:Int) (h0:0≤now) (h1:now≤1099511627776) :
 Calls Tryz.prog 190 #[.pointer (some ⟨db,0,none⟩), .agg #[aE qn, .int .i64 qt], .int .i64 now] w (bC w (.tuple #[.int .i64 0, .agg qU.toArray, .bool false])):=by
 have hp:=aA (cs:=[.int .i64 room, .int .i64 most, .slice none 0 0]) h.blk;have e1:(decide (0≤now)&&decide (now≤1099511627776))=true:=by simp;omega
 refine iY Tryz.func190 rfl ?_;simp only [Tryz.ntmps190,List.size_toArray,List.length_cons,List.length_nil,Nat.reduceAdd,Nat.reduceSub,Array.replicate_succ,Array.replicate_zero,List.push_toArray,List.append_toArray,List.nil_append,List.cons_append];refine_lift mT fun _ _=>?_;refine jO (vs:=[aE qn, .int .i64 qt]) fun w1 x1 s1 b1=>?_;refine aB ?_;refine jO (vs:=[.int .i64 now]) fun w2 x2 s2 b2=>?_;refine aB ?_;refine dX (z:=[.int .i64 0]) fun w3 x3 s3 b3=>?_;refine aB ?_;refine dX (z:=qU) fun w4 x4 s4 b4=>?_;refine aB ?_;refine dX (z:=[.bool false]) fun w5 x5 s5 b5=>?_;refine aB ?_;have x25:=x3.trans (x4.trans x5);have hpN:=aA (cs:=[.int .i64 now]) (x25.at b2);have hpQ:=aA (cs:=[aE qn, .int .i64 qt]) (x25.at (x2.at b1));have hp5:=hp.ext (x1.trans (x2.trans x25));refine_lift mH fun _ _ _ _=>?_;refine cB (TA now 0 1099511627776 _) fun w6 x6=>?_;rw [e1];have hpQ6:=hpQ.ext x6;have hp6:=hp5.ext x6;refine_lift bU fun _ _=>?_;refine cB (vQ qn _) fun w7 x7=>?_;refine dX (z:=[aE []]) fun w8 x8 s8 b8=>?_;refine aB ?_;refine eA (v:=aE (fold qn)) rfl rfl rfl b8 zDk rfl ?_;intro w9 p9;have x79:=cJ x8 p9;have hp9:=(hp6.ext x7).ext x79;refine_lift mH fun _ _ _ _=>?_;refine Ca (WL _) fun w10 x10 s10 b10=>?_;refine_lift XH ?_;refine lC (caps:=#[.pointer (some ⟨w9.heap.size,0,none⟩)]) rfl (enters_of Tryz.func265 rfl rfl) rfl ?_;intro fn W lp hlp xW k4 k5 sW;refine (TB (w10.heap.size+1) w9.heap.size W (xW.at b10)).mono ?_;rintro e W' ⟨rfl,xW'⟩;refine ⟨⟨_,rfl⟩,lp,xW'.at k5,by subst hlp;simp,?_⟩;intro W2 hput;rw [show lp.pending=none from by subst hlp;rfl];simp only;refine_lift bU fun _ _=>?_;have z1:=x1.size;have z2:=x2.size;have z6:=x6.size;have z7:=x7.size;have z8:=x79.size;have z10:=x10.size;have z11:=xW.size;have z12:=xW'.size;have z13:=hput.mv.size;have x5W:=(x6.trans (x7.trans x79)).trans ((x10.trans xW).trans xW');have c3:=hput.at (x5W.at ((x4.trans x5).at b3)) aC;have c4:=hput.at (x5W.at (x5.at b4)) aC;have c5:=hput.at (x5W.at b5) aC;have kd:=hput.at (xW'.at k4) aC;have xw0:Ext w W':=(x1.trans (x2.trans x25)).trans x5W;refine aG (v:=.agg qU.toArray) (Runs.build0 (by kernel_rfl)) ?_;refine aB ?_;refine eA (v:=.int .i64 0) rfl rfl rfl c3 zDk rfl ?_;intro W3 p3;refine dL (v:=.agg qU.toArray) (p3.at c4 aC) zDk fun W4 p4=>?_;refine eA (v:=.bool false) rfl rfl rfl (p4.at (p3.at c5 aC) aC) zDk rfl ?_;intro W5 p5;have q3:=p5.at (p4.at p3.this aC) aC;have q4:=p5.at p4.this aC;have q5:=p5.this;have qd:=p5.at (p4.at (p3.at kd aC) aC) aC;have qx:Ext w W5:=(((xw0.move hput.mv (by rintro k ⟨⟩;omega)).move p3.mv (by rintro k ⟨⟩;omega)).move p4.mv (by rintro k ⟨⟩;omega)).move p5.mv (by rintro k ⟨⟩;omega);refine_lift aT ?_;refine nA qd fun W6 p6=>⟨_,BN (cs:=qU) rfl rfl rfl rfl (p6.at q3 aC) (p6.at q4 aC) (p6.at q5 aC) zDk zDk zDk,rfl,qx.move p6.mv (by rintro k ⟨⟩;omega)⟩
structure AppMid (w1:World) (c s:Nat) (lp:Loop) (l:List Int) (W:World):Prop where
 ext:Ext w1 W
 hc:c=w1.heap.size∧c<s
 df:W.heap[s]? = some (.deferred (some []))
 lp:W.heap[s+1]? = some (.loop lp)
 cell:∃ v,W.heap[c]? = some (.cells #[v] 44 (0,0))∧Own (s+2) 1 3 W v (bO l)∧(l=[]→v=.slice none 0 0)
 size:s+2≤W.heap.size
theorem AppMid.grow {W W':World} {s:Nat} {lp:Loop} {l:List Int} (h:AppMid w1 c s lp l W) (hx:Ext W W'):AppMid w1 c s lp l W':=by
 obtain ⟨v,a,b,g⟩:=h.cell;exact ⟨h.ext.trans hx,h.hc,hx.at h.df,hx.at h.lp,⟨v,hx.at a,b.ext hx,g⟩,Nat.le_trans h.size hx.size⟩
theorem AppMid.iter {W W':World} {s it:Nat} {lp:Loop} {l:List Int} {o:Obj} {a:Option Nat} {d:Nat} {e:Array Nat} (h:AppMid w1 c s lp l W) (hp:Put W W' it o) (hi:W.heap[it]? = some (.mapIter a b e d)) (hs:s+2≤it):AppMid w1 c s lp l W':=by
 obtain ⟨v,x,y,g⟩:=h.cell;have:=h.hc;refine ⟨h.ext.move hp.mv (by rintro k ⟨⟩;omega),h.hc,hp.mv.at h.df (by intro e;have:=Option.some.inj e;omega),hp.mv.at h.lp (by intro e;have:=Option.some.inj e;omega),⟨v,hp.mv.at x (by intro e;have:=Option.some.inj e;omega),y.mv hp.mv (.inr fun e=>?_),g⟩,by rw [hp.size];exact h.size⟩;obtain ⟨cur,fz,hq⟩:=y.type e;rw [hi]at hq;cases hq
theorem JI {it m:Nat} {x:Value} (h:ItS k w it m [(x,v)]):(w.iterSeen it).size=min k 1:=by
 obtain ⟨e,c,_,_,_,_,h4⟩:=yM h;unfold World.iterSeen;rw [h4];simp
theorem As (m:Nat) (w:World):Calls Tryz.prog 147 #[.map (some m)] w fun e w'=>e=.returned (.func (.func 197) #[] #[.pointer (some ⟨w.heap.size,0,none⟩)])∧Ext w w'∧w'.heap.size=w.heap.size+1∧w'.heap[w.heap.size]? = some (.cells #[.map (some m)] 150 (0,0)):=by
 go_enter Tryz.func147,Tryz.ntmps147
 refine_lift sF ?_;intro _ _ _;refine jO (vs:=[.map (some m)]) fun w1 x1 s1 h1=>?_;refine aB ?_;refine_lift aT ?_;go_ret;exact ⟨rfl,x1,s1,h1⟩
theorem TC (l b m:Nat) (W:World) (hb:W.heap[b]? = some (.cells #[.map (some m)] 150 (0,0))) (hm:MapS CK W m []) :
 Calls Tryz.prog 197 #[.func (.yield l) #[] #[], .pointer (some ⟨b,0,none⟩)] W (bC W (.tuple #[])):=by
 have hp:=aA (cs:=[.map (some m)]) hb;have htm:eI Tryz.prog 150 3 195=true:=zDk;go_enter Tryz.func197,Tryz.ntmps197
 refine_lift bU fun _ _=>?_;refine pP rfl hm (fun w7 x7 s7 i7=>?_) (ht:=htm);refine aB ?_;refine_lift aT ?_;refine wp_loop_once ?_;refine_lift sF ?_;intro _ _ _;refine aG (Runs.next0 rfl i7) ?_;refine aB ?_;refine_lift jQ fun _=>?_
 go_end0
 exact ⟨rfl,x7⟩
theorem TD {s:Nat} {lp:Loop} (b m:Nat) (k:Int) (p:Value) (hp:lp.params.size=1) (W:World) (hb1:b<s) (hbc:b≠c) (hb:W.heap[b]? = some (.cells #[.map (some m)] 150 (0,0))) (hm:MapS CK W m [(.int .i64 k,p)]) (hmc:m<s) (hmc2:m≠c)
 (hy:∀ W,AppMid w1 c s lp [] W→RoundIn Fence.wide 0 Tryz.prog (s+1) lp.fn ((lp.params.zip #[.int .i64 k]).foldl (fun tmps (t,a)=>tmps.setIfInBounds t a) lp.tmps) lp.assign lp.body W
   fun e W'=>e=.returned (.bool true)∧AppMid w1 c s lp [k] W'∧∀ j,j<W.heap.size→j≠c→j≠s+1→W'.heap[j]? = W.heap[j]?) (h0:AppMid w1 c s lp [] W) :
 Calls Tryz.prog 197 #[.func (.yield (s+1)) #[] #[], .pointer (some ⟨b,0,none⟩)] W fun e w'=>e=.returned (.tuple #[])∧AppMid w1 c s lp [k] w':=by
 have hpb:=aA (cs:=[.map (some m)]) hb;have htm:eI Tryz.prog 150 3 195=true:=zDk;go_enter Tryz.func197,Tryz.ntmps197
 refine_lift lQ ?_;intro _ _ _;refine pP rfl hm (fun w7 x7 s7 i7=>?_) (ht:=htm);refine aB ?_;have hz:=h0.size;have ha7:=h0.grow x7;refine_lift aT ?_;go_loopw [3] (fun _ wr=>(AppMid w1 c s lp [] wr∧ItS 0 wr W.heap.size m [(.int .i64 k,p)])∨(AppMid w1 c s lp [k] wr∧ItS 1 wr W.heap.size m [(.int .i64 k,p)])) (fun _ wr=>1 - (wr.iterSeen W.heap.size).size)
 case atStart=>exact .inl ⟨ha7,i7⟩
 case round =>
  rcases hrel with ⟨hA,hI⟩|⟨hA,hI⟩
  ·refine_lift sF ?_;intro _ _ _;refine EC rfl hI aC (fun w8 o8 p8 i8=>?_);refine aB ?_;have hI0:=hI;obtain ⟨_,_,_,_,_,hI4⟩:=hI0;have hA8:=hA.iter p8 hI4 aC;refine_lift lQ fun _ _ _=>?_;refine aG (Runs.entry1 rfl i8) ?_;refine aB ?_
   repeat' (first|(refine eP (id:=3) ?_)|(refine eP (id:=4) ?_)|((with_reducible apply qG);(rfl);exact vM;refine aB ?_)|(with_reducible (apply qH))|((with_reducible refine aS ?_);(first|(refine gV ?_;refine eS ?_)|(refine lY ?_;first|refine nR ?_|refine GR ?_|refine GW ?_|refine GT ?_|((first|refine EU ?_ ?_|refine EV ?_ ?_)<;>intro hc))))|((fail_if_success (with_reducible refine aS ?_));go_step))
   refine sN (lp:=lp) (vs:=[.int .i64 k]) rfl rfl rfl hA8.lp (by simp [hp]) (hy _ hA8) ?_;rintro e W' ⟨rfl,hA',hF⟩;refine ⟨_,rfl,?_⟩;simp only [List.set_cons_succ,List.set_cons_zero]
   repeat' (first|(refine eP (id:=3) ?_)|(refine eP (id:=4) ?_)|((with_reducible apply qG);(rfl);exact vM;refine aB ?_)|(with_reducible (apply qH))|((with_reducible refine aS ?_);(first|(refine gV ?_;refine eS ?_)|(refine lY ?_;first|refine nR ?_|refine GR ?_|refine GW ?_|refine GT ?_|((first|refine EU ?_ ?_|refine EV ?_ ?_)<;>intro hc))))|((fail_if_success (with_reducible refine aS ?_));go_step))
   go_roundw
   case rel =>
    have hhc:=hA.hc;have zr:=hA8.size;have lit:=(Array.getElem?_eq_some_iff.1 hI4).1;have z8:=p8.size;exact .inr ⟨hA',i8.at (fun es q x=>by rw [hF m aC hmc2 aC];exact x) (fun a1 a2 a3 a4 x=>by rw [hF W.heap.size aC aC aC];exact x)⟩
   case measure =>
    have zr:=hA8.size;have lit:=(Array.getElem?_eq_some_iff.1 hI4).1;have z8:=p8.size;have hhc:=hA.hc;have j8:ItS 1 W' W.heap.size m [(.int .i64 k,p)]:=i8.at (fun es q x=>by rw [hF m aC hmc2 aC];exact x) (fun a1 a2 a3 a4 x=>by rw [hF W.heap.size aC aC aC];exact x);rw [JI j8,JI hI];omega
  ·refine_lift sF ?_;intro _ _ _;refine aG (Runs.next2 rfl hI) ?_;refine aB ?_;refine_lift jQ fun _=>?_
   go_end0
   exact ⟨rfl,hA⟩
structure KeysIn (B:Nat) (w:World) (b m:Nat) (l:List Int):Prop where
 box:w.heap[b]? = some (.cells #[.map (some m)] 150 (0,0))
 out:(l=[]∧MapS CK w m [])∨∃ k p,l=[k]∧MapS CK w m [(.int .i64 k,p)]
theorem Own.below {o:Obj} (h:Own B k e w v es) (hp:Put w w' b o) (hb:b<B):Own B k e w' v es :=
 h.same fun r hr=>hp.other r (by have:=(h.block r hr).1;omega)
theorem TE (b m:Nat) (l:List Int) (w:World) (h:KeysIn 0 w b m l):Calls Tryz.prog 243 #[.slice none 0 0, .func (.func 197) #[] #[.pointer (some ⟨b,0,none⟩)]] w (kZ w fun r w'=>Own w.heap.size 1 3 w' r (bO l)):=by
 have lb:b<w.heap.size:=(Array.getElem?_eq_some_iff.1 h.box).1;have lm:m<w.heap.size:=by
  rcases h.out with ⟨_,hm⟩|⟨_,_,_,hm⟩
  ·exact hm.lt
  ·exact hm.lt
 refine iY Tryz.func243 rfl ?_;simp only [Tryz.ntmps243,List.size_toArray,List.length_cons,List.length_nil,Nat.reduceAdd,Nat.reduceSub,Array.replicate_succ,Array.replicate_zero,List.push_toArray,List.append_toArray,List.nil_append,List.cons_append];refine_lift sF ?_;intro _ _ _;refine jO (vs:=[.slice none 0 0]) fun w1 x1 s1 b1=>?_;refine aB ?_;refine_lift bU fun _ _=>?_;refine lC (caps:=#[.pointer (some ⟨b,0,none⟩)]) rfl (enters_of Tryz.func197 rfl rfl) rfl ?_;intro fn W lp hlp xW k4 k5 sW;have hA0:AppMid w w.heap.size w1.heap.size lp [] W:=⟨x1.trans xW,⟨rfl,aC⟩,k4,k5,⟨.slice none 0 0,xW.at b1,Own.nil _ _ _ _,fun _=>rfl⟩,aC⟩;have hrdy:lp.pending=none∧lp.state≠.busy:=by subst hlp;exact ⟨rfl,aX⟩
 have hcall:Calls Tryz.prog 197 #[.func (.yield (w1.heap.size+1)) #[] #[], .pointer (some ⟨b,0,none⟩)] W fun e W'=>e=.returned (.tuple #[])∧AppMid w w.heap.size w1.heap.size lp l W':=by
  rcases h.out with ⟨rfl,hm⟩|⟨k,p,rfl,hm⟩
  ·refine (TC _ b m W ((x1.trans xW).at h.box) (hm.ext (x1.trans xW))).mono ?_;rintro e W' ⟨rfl,x'⟩;exact ⟨rfl,hA0.grow x'⟩
  ·refine TD b m k p (by subst hlp;rfl) W aC aC ((x1.trans xW).at h.box) (hm.ext (x1.trans xW)) aC aC ?_ hA0;clear hA0 k4 k5 sW xW hrdy W;intro W hM;subst hlp;simp only [List.zip_toArray,List.zip_cons_cons,List.zip_nil_right,List.foldl_toArray',List.foldl_cons,List.foldl_nil,List.setIfInBounds_toArray,List.set_cons_succ,List.set_cons_zero,List.foldl_toArray,List.size_toArray,List.zip_toArray,List.length_cons,List.length_nil];have xM:=hM.ext;have md:=hM.df;have ml:=hM.lp;have ms:=hM.size;obtain ⟨v,mv,ov,hv0⟩:=hM.cell;obtain rfl:=hv0 rfl;clear hM;refine yZ ?_
   repeat' (first|refine gD (by rfl) (by intro _ _ h;exact h) ?_|((with_reducible refine aS ?_);(first|(refine gV ?_;refine eS ?_)|(refine lY ?_;first|refine nR ?_|refine GR ?_|refine GW ?_|refine GT ?_|((first|refine EU ?_ ?_|refine EV ?_ ?_)<;>intro hc))))|((fail_if_success (with_reducible refine aS ?_));first|go_step|gi_step))
   refine ⟨_,ml,rfl,?_⟩;intro wA pA;have nv:=pA.mv.at mv (by intro e;have:=Option.some.inj e;omega);have nd:=pA.mv.at md (by intro e;have:=Option.some.inj e;omega);have nl:=pA.this;have oA:=ov.below pA aC;have xA:=cJ xM pA;have sA:wA.heap.size=W.heap.size:=pA.size;have hpc:=aA (cs:=[.slice none 0 0]) nv
   repeat' (first|refine gD (by rfl) (by intro _ _ h;exact h) ?_|((with_reducible refine aS ?_);(first|(refine gV ?_;refine eS ?_)|(refine lY ?_;first|refine nR ?_|refine GR ?_|refine GW ?_|refine GT ?_|((first|refine EU ?_ ?_|refine EV ?_ ?_)<;>intro hc))))|((fail_if_success (with_reducible refine aS ?_));first|go_step|gi_step))
   refine oD (e:=3) (k:=1) (bytes:=8) (xs:=[.int .i64 k]) (by simp [Value.cells]) fun v2 w2 x2 _ sl2 _=>?_;refine aB ?_;refine bV (B:=w1.heap.size+2) (e:=3) (k:=1) rfl (oA.ext x2) rfl sl2 (by simp [Value.cells,Value.oneCell']) (by have:=x2.size;omega) (by simp [bO]) ?_;intro v3 w3 o3 m3 hk3;refine aB ?_;have m3':Mv none w2 w3:=m3;have z2:=x2.size;have z3:=m3'.size;have tM:∀ (j:Nat) (ob:Obj),wA.heap[j]? = some ob→w3.heap[j]? = some ob:=fun j ob h=>m3'.at (x2.at h) aX;have bC3:=tM _ _ nv;refine eA (v:=v3) rfl rfl rfl bC3 zDk o3.one ?_;intro w4 p4;have z4:=p4.mv.size;have nl4:=p4.at (tM _ _ nl) aC;have x4:=cJ ((xA.trans x2).move m3' aX) p4
   repeat' (first|refine gD (by rfl) (by intro _ _ h;exact h) ?_|((with_reducible refine aS ?_);(first|(refine gV ?_;refine eS ?_)|(refine lY ?_;first|refine nR ?_|refine GR ?_|refine GW ?_|refine GT ?_|((first|refine EU ?_ ?_|refine EV ?_ ?_)<;>intro hc))))|((fail_if_success (with_reducible refine aS ?_));first|go_step|gi_step))
   exact tR nl4 fun w' p'=>⟨rfl,⟨x4.move p'.mv (by rintro k ⟨⟩;omega),⟨rfl,aC⟩,p'.at (p4.at (tM _ _ nd) aC) aC,p'.this,⟨v3,p'.at p4.this aC,(eM o3 p4 bC3).below p' aC,aX⟩,by have:=p'.mv.size;omega⟩,fun j h1 h2 h3=>by
    rw [p'.other j h3,p4.other j h2,m3'.block j aC aX,x2.block j aC,pA.other j h3]⟩
 refine hcall.mono ?_;rintro e W' ⟨rfl,hA⟩;refine ⟨⟨_,rfl⟩,lp,hA.lp,hrdy.2,?_⟩;intro W2 hput;rw [hrdy.1];simp only;obtain ⟨v,c1,c2,_⟩:=hA.cell;have z1:=x1.size;have hzA:=hA.size;have q1:=hput.at c1 aC;have q2:=hput.at hA.df aC;have q3:=c2.below hput aC;have hpv:=aA (cs:=[v]) q1;have hx:=cJ hA.ext hput;refine_lift aT ?_;refine nA q2 fun W5 p5=>⟨_,results_tmp rfl _ _ _,v,rfl,hx.move p5.mv (by rintro k ⟨⟩;omega),(q3.below p5 aC).weaken aC⟩
theorem PE (b m:Nat) (l:List Int) (w:World) (h:KeysIn 0 w b m l):Calls Tryz.prog 195 #[.func (.func 197) #[] #[.pointer (some ⟨b,0,none⟩)]] w (kZ w fun r w'=>Own w.heap.size 1 3 w' r (bO l)):=by
 go_enter Tryz.func195,Tryz.ntmps195
 refine_lift lQ ?_;intro _ _ _;refine sC (TE b m l _ h) fun v w1 x1 o1=>?_;refine_lift aT ?_;go_ret;exact ⟨_,rfl,x1,o1⟩
theorem WM {l:List Int} (h:Own B 1 3 w v (bO l)) (hl:l.length≤1):Calls Tryz.prog 196 #[v] w fun e w'=>e=.returned (.tuple #[])∧Own B 1 3 w' v (bO l)∧Mv v.ownBlock w w':=by
 have hlen:(bO l).length=l.length:=List.length_map ..;rcases h.form with ⟨rfl,h0⟩|⟨g,cap,rfl,hg,hB,hc,hm⟩
 ·have:l=[]:=by simpa [bO]using h0
  subst this;refine (Tryz.slices_Sort_int_none none 0 w).mono ?_;rintro e w' ⟨rfl,rfl⟩;exact ⟨rfl,h,Mv.refl _ _⟩
 ·rw [hlen]at h hm ⊢;refine (Tryz.slices_Sort_int g 0 cap l w (Own.holds (enc:=Value.int .i64) h) hg aC).mono ?_;rintro e w' ⟨rfl,n,os,rfl⟩;have hs:(l.mergeSort fun x y=>decide (x≤y))=l:=by
   match l,hl with
   | [],_=>simp
   | [a],_=>simp
  have:=Own.putRow (enc:=Value.int .i64) (ys:=l.mergeSort fun x y=>decide (x≤y)) h (List.length_mergeSort _) n os;rw [hs]at this ⊢;exact ⟨rfl,this.1,this.2⟩
theorem TF (b m:Nat) (l:List Int) (w:World) (h:KeysIn 0 w b m l):Calls Tryz.prog 146 #[.func (.func 197) #[] #[.pointer (some ⟨b,0,none⟩)]] w (kZ w fun r w'=>Own w.heap.size 1 3 w' r (bO l)):=by
 have hl:l.length≤1:=by
  rcases h.out with ⟨rfl,_⟩|⟨k,p,rfl,_⟩<;>simp
 go_enter Tryz.func146,Tryz.ntmps146
 refine_lift lQ ?_;intro _ _ _;refine sC (PE b m l _ h) fun v w1 x1 o1=>?_;refine_lift bU fun _ _=>?_;refine gS (WM o1 hl) ?_;rintro e w2 ⟨rfl,o2,m2⟩;refine ⟨_,rfl,?_⟩;refine aB ?_;refine_lift aT ?_;go_ret;exact ⟨_,rfl,o1.mvx m2 x1 (Nat.le_refl _),o2⟩
theorem TG (n a b:Int) (w:World):Calls Tryz.prog 66 #[.int .i64 n, .int .i64 a, .int .i64 b] w (bC w (.bool (decide (a≤n)&&decide (n≤b)))):=by
 go_enter Tryz.func66,Tryz.ntmps66
 refine_lift lP (fun hc=>?_) (fun hc=>?_)
 all_goals
  go_ret;refine ⟨?_,Ext.refl _⟩;simp;omega
abbrev wM:=Int×List UInt8
def kO (l:List wM):List (List Value):=l.map fun x=>[.int .i64 x.1,aE x.2]
structure NodC where
 rv:Value
 bud:Int
 room:Int
 most:Int
 wt:Int
 cb:Nat
 db:Nat
 tb:Nat
 mb:Nat
 sent:Int
 ov:Value
def NodC.cells (x:NodC):List Value:=[x.rv, .int .i64 x.bud, .int .i64 x.room, .int .i64 x.most, .int .i64 x.wt, .pointer (some ⟨x.cb,0,none⟩), .pointer (some ⟨x.db,0,none⟩), .pointer (some ⟨x.tb,0,none⟩), .map (some x.mb), .int .i64 x.sent,x.ov]
abbrev nT:List TypeId:=[155,175]
structure NodV (B Bo:Nat) (w:World) (nb:Nat) (x:NodC) (l:List wM):Prop where
 ge:B≤nb
 blk:w.heap[nb]? = some (.cells x.cells.toArray 155 (0,0))
 row:Own Bo 2 175 w x.ov (kO l)
 le:B≤Bo∧Bo≤w.heap.size
theorem NodV.keep {Bo:Nat} {nb:Nat} {x:NodC} {l:List wM} {T:List TypeId} {M:List Nat} (h:NodV B Bo w nb x l) (hk:Kf T M w w') (hs:w.heap.size≤w'.heap.size) (h1:155∉T) (h2:175∉T):NodV B Bo w' nb x l :=
 ⟨h.ge,hk.cells _ _ _ _ h.blk h1,h.row.keep hk.keep h2,h.le.1,Nat.le_trans h.le.2 hs⟩
theorem NodV.ext {Bo:Nat} {nb:Nat} {x:NodC} {l:List wM} (h:NodV B Bo w nb x l) (hx:Ext w w'):NodV B Bo w' nb x l:=⟨h.ge,hx.at h.blk,h.row.ext hx,h.le.1,Nat.le_trans h.le.2 hx.size⟩
def Bf (Bo nb:Nat) (w w':World):Prop:=∀ j,j<w.heap.size→j<Bo→j≠nb→w'.heap[j]? = w.heap[j]?
theorem Bf.of {Bo nb:Nat} (h:Ext w w'):Bf Bo nb w w':=fun j hj _ _=>h.block j hj
theorem Bf.trans {Bo nb:Nat} {a b c:World} (h:Bf Bo nb a b) (hs:a.heap.size≤b.heap.size) (k:Bf Bo nb b c):Bf Bo nb a c:=fun j h1 h2 h3=>(k j aC h2 h3).trans (h j h1 h2 h3)
theorem TH {Bo:Nat} {nb:Nat} {x:NodC} {l:List wM} (h:NodV B Bo w nb x l) (to:Int) (s:List UInt8) (hl:l.length≤100000) :
 Calls Tryz.prog 148 #[.pointer (some ⟨nb,0,none⟩), .int .i64 to,aE s] w (fun e w'=>e=.returned (.tuple #[])∧∃ ov,NodV B Bo w' nb { x with ov:=ov } (l ++ [(to,s)])∧Kf nT [] w w'∧Lo B w w'∧Bf Bo nb w w'):=by
 obtain ⟨rv,bud,room,most,wt,cb,db,tb,mb,sent,ov⟩:=x;have hp:=aA (cs:=[rv, .int .i64 bud, .int .i64 room, .int .i64 most, .int .i64 wt, .pointer (some ⟨cb,0,none⟩), .pointer (some ⟨db,0,none⟩), .pointer (some ⟨tb,0,none⟩), .map (some mb), .int .i64 sent,ov]) h.blk;go_enter Tryz.func148,Tryz.ntmps148
 refine_lift jQ ?_;intro _;refine aG (v:=.agg #[.int .i64 to,aE s]) (Runs.build (vals:=[(0, .int .i64 to),(1,aE s)]) rfl (by kernel_rfl)) ?_;refine aB ?_;refine oD (e:=175) (k:=2) (bytes:=24) (xs:=[.agg #[.int .i64 to,aE s]]) (by simp [Value.cells]) fun v2 w2 x2 _ sl2 _=>?_;refine aB ?_;have hge:=h.ge;have lb:nb<w.heap.size:=(Array.getElem?_eq_some_iff.1 h.blk).1;have z2:=x2.size;refine bV (B:=Bo) (e:=175) (k:=2) rfl (h.row.ext x2) rfl sl2 (by simp [Value.cells,aE,Value.oneCell']) (by have:=h.le;omega) (by simp [kO];omega) ?_;intro v3 w3 o3 m3 hk3;refine aB ?_;have m3':Mv ov.ownBlock w2 w3:=m3;have hrow:Own Bo 2 175 w2 ov (kO l):=h.row.ext x2;have b3:=m3'.at (x2.at h.blk) (fun e=>hrow.neBlock (x2.at h.blk) aK e.symm);refine_lift aT ?_;refine fA 10 v3 b3 o3.one fun w4 p4=>?_;refine_lift aT ?_
 go_end0
 have hle:=h.le;have z3:=m3'.size;have z4:=p4.size;refine ⟨rfl,v3,⟨hge,p4.this,?_,aC⟩,(Kf.of x2).trans ((Kf.row hrow m3' aK).trans (Kf.put p4 b3 aK)),(Lo.of x2).trans ((Lo.mv m3' fun k hk=>Nat.le_trans hle.1 (hrow.block k hk).1).trans (Lo.put p4 hge)),fun j g1 g2 g3=>by
  rw [p4.other j g3,m3'.block j aC (fun e=>by have:=(hrow.block j e.symm).1;omega),x2.block j g1]⟩
 have e1:kO (l ++ [(to,s)])=kO l ++ [[.int .i64 to,aE s]]:=by simp [kO]
 rw [e1];exact eM o3 p4 b3
theorem Au {Bo:Nat} {nb:Nat} {x:NodC} {l:List wM} (h:NodV B Bo w nb x l) :
 Calls Tryz.prog 83 #[.pointer (some ⟨nb,0,none⟩)] w (fun e w'=>e=.returned x.ov∧NodV B Bo w' nb { x with ov:=.slice none 0 0 } []∧Own Bo 2 175 w' x.ov (kO l)∧Kf nT [] w w'∧Lo B w w'∧Bf Bo nb w w'):=by
 obtain ⟨rv,bud,room,most,wt,cb,db,tb,mb,sent,ov⟩:=x;have hp:=aA (cs:=[rv, .int .i64 bud, .int .i64 room, .int .i64 most, .int .i64 wt, .pointer (some ⟨cb,0,none⟩), .pointer (some ⟨db,0,none⟩), .pointer (some ⟨tb,0,none⟩), .map (some mb), .int .i64 sent,ov]) h.blk;go_enter Tryz.func83,Tryz.ntmps83
 refine_lift lQ ?_;intro _ _ _;refine fA 10 (.slice none 0 0) h.blk rfl fun w4 p4=>?_;refine_lift aT ?_;go_ret;exact ⟨rfl,⟨h.ge,p4.this,Own.nil _ _ _ _,by rw [p4.size];exact h.le⟩,eM h.row p4 h.blk,Kf.put p4 h.blk aK,Lo.put p4 h.ge,fun j _ _ g3=>p4.other j g3⟩
def vD (c:CliR) (kind code:Int) (an au:List Rec):MsgR:={ zeroM with id:=c.id,resp:=true,avail:=true,want:=true,rcode:=code,qs:=[(c.name,kind)],an:=an,au:=au }
def nY (c:CliR) (kind code:Int) (an au:List Rec):List wM:=if (vB (vD c kind code an au) 512).2.2=0 then [(c.node,(vB (vD c kind code an au) 512).2.1)]else []
theorem GI {Bo:Nat} {nb:Nat} {x:NodC} {l:List wM} (h:NodV B Bo w nb x l) (c:CliR) (kind code:Int) (va vu:Value) (an au:List Rec) (ha:Sl 4 w va (aF an)) (hu:Sl 4 w vu (aF au)) (hl:l.length≤100000) :
 Calls Tryz.prog 139 #[.pointer (some ⟨nb,0,none⟩), .agg #[.int .i64 c.node, .int .i64 c.id,aE c.name], .int .i64 kind, .int .i64 code,va,vu] w (fun e w'=>e=.returned (.tuple #[])∧∃ ov,NodV B Bo w' nb { x with ov:=ov } (l++nY c kind code an au)∧Kf nT [] w w'∧Lo B w w'∧Bf Bo nb w w'):=by
 obtain ⟨aa,na,ca,hva⟩:∃ a n c,va=.slice a n c:=by
  obtain ⟨a,n,e,_⟩:=ha;exact ⟨_,_,_,e⟩
 obtain ⟨aU,nu,cu,hvu⟩:∃ a n c,vu=.slice a n c:=by
  obtain ⟨a,n,e,_⟩:=hu;exact ⟨_,_,_,e⟩
 go_enter Tryz.func139,Tryz.ntmps139
 refine_lift sF ?_;intro _ _ _;refine jO (vs:=[.int .i64 c.node, .int .i64 c.id,aE c.name]) fun w1 x1 s1 b1=>?_;refine aB ?_;have hpc:=aA (cs:=[.int .i64 c.node, .int .i64 c.id,aE c.name]) b1;refine_lift bU fun _ _=>?_;refine aG (v:=.agg #[aE c.name, .int .i64 kind]) (Runs.build (vals:=[(0,aE c.name),(1, .int .i64 kind)]) rfl (by kernel_rfl)) ?_;refine aB ?_;refine oD (e:=25) (k:=2) (bytes:=24) (xs:=[.agg #[aE c.name, .int .i64 kind]]) (by simp [Value.cells]) fun v2 w2 x2 _ sl2 o2=>?_;refine aB ?_;obtain ⟨ad2,cap2,hv2⟩:∃ a n,v2=.slice a 1 n:=by
  obtain ⟨a,n,e,_⟩:=sl2;exact ⟨a,n,e⟩
 refine_lift aT ?_;refine aG (v:=.agg (aP (vD c kind code an au) v2 va vu aI).toArray) (Runs.build (vals:=[(0, .int .i64 c.id),(1, .bool true),(6, .bool true),(5, .bool true),(7, .int .i64 code),(8,v2),(9,va),(10,vu)]) rfl (by rw [hv2,hva,hvu];kernel_rfl)) ?_;refine aB ?_;have hx2:=x1.trans x2;have hm2:MsgV w2 (vD c kind code an au) v2 va vu aI:=⟨sl2,ha.ext hx2,hu.ext hx2,Sl.nil _ _⟩;refine dX (z:=iW) fun w3 x3 s3 b3=>?_;refine aB ?_;refine dL (v:=.agg (aP (vD c kind code an au) v2 va vu aI).toArray) b3 (dR (hm2.ext x3)) fun w4 p4=>?_;have x24:=cJ x3 p4;have hpm:=aA (cs:=aP (vD c kind code an au) v2 va vu aI) p4.this;unfold aP at hpm;have hm4:=hm2.ext x24;have hpc4:=(hpc.ext x2).ext x24;refine_lift bU fun _ _=>?_;refine gY (YG (vD c kind code an au) v2 va vu aI 512 _ hm4) fun r w5 x5 hr=>?_;obtain ⟨q5,a5,u5,e5,rfl,hm5⟩:=hr;refine aB ?_;refine_lift aT ?_;refine dX (z:=iW) fun w6 x6 s6 b6=>?_;refine aB ?_;refine dL (v:=.agg (aP (vB (vD c kind code an au) 512).1 q5 a5 u5 e5).toArray) b6 (dR (hm5.ext x6)) fun w7 p7=>?_;have x57:=cJ x6 p7;have hx7:=(hx2.trans x24).trans (x5.trans x57);have hpc7:=(hpc4.ext x5).ext x57;have h7:=h.ext hx7;refine_lift lP (fun _=>?_) (fun _=>?_)
 ·refine gS (TH h7 c.node (vB (vD c kind code an au) 512).2.1 hl) ?_;rintro _ w8 ⟨rfl,ov,h8,k8,l8,f8⟩;refine ⟨_,rfl,?_⟩;refine aB ?_;refine_lift aT ?_
  go_end0
  refine ⟨rfl,ov,?_,(Kf.of hx7).trans k8,(Lo.of hx7).trans l8,(Bf.of hx7).trans hx7.size f8⟩;rw [nY,if_pos (by assumption)];exact h8
 ·go_end0
  refine ⟨rfl,x.ov,?_,Kf.of hx7,Lo.of hx7,Bf.of hx7⟩;rw [nY,if_neg (by assumption),List.append_nil];exact h7
end Go.Proofs.X
namespace Go.Proofs.X
open Go.RowKit
structure NTask where
 n:Int
 t:TaskR
 an:List UInt8
 at_:Int
 fn:List UInt8
 ft:Int
 to:Int
 q:MsgR
 late:Int
def WN (x:NTask) (rb:Nat) (qv:Value):List Value:=[.pointer (some ⟨rb,0,none⟩),aE x.an, .int .i64 x.at_,aE x.fn, .int .i64 x.ft, .int .i64 x.to,
 .int .i64 x.q.id, .bool x.q.resp, .int .i64 x.q.op, .bool x.q.auth, .bool x.q.trunc, .bool x.q.want, .bool x.q.avail, .int .i64 x.q.rcode,qv,aI,aI,aI, .int .i64 x.q.size, .int .i64 x.late]
structure NTV (wL w:World) (x:NTask) (sb rb:Nat) (qv:Value):Prop where
 ge:wL.heap.size≤sb
 blk:w.heap[sb]? = some (.cells (WN x rb qv).toArray 198 (0,0))
 tsk:TaskAt wL w rb x.t
 row:Own wL.heap.size 2 25 w qv (cV x.q.qs)
 nil:x.q.an=[]∧x.q.au=[]∧x.q.ex=[]
structure NodeR where
 roots:List Int
 bud:Int
 room:Int
 most:Int
 wt:Int
 C:CacheR
 last:Int
 tt:Option WaitR
 nt:Option NTask
 sent:Nat
 out:List wM
structure NodeM where
 nb:Nat
 rv:Value
 ov:Value
 cb:Nat
 em:Nat
 db:Nat
 tb:Nat
 tm:Nat
 mb:Nat
 sb:Nat
def NodeM.c (M:NodeM) (S:NodeR):NodC:=⟨M.rv,S.bud,S.room,S.most,S.wt,M.cb,M.db,M.tb,M.mb,(S.sent:Nat),M.ov⟩
def YI (t:Option NTask) (sb:Nat):List (Value×Value):=match t with
 | none=>[]
 | some x=>[(.int .i64 x.n, .pointer (some ⟨sb,0,none⟩))]
structure NodeW (wL:World) (Bo:Nat) (w:World) (M:NodeM) (S:NodeR):Prop where
 ext:Ext wL w
 nod:NodV wL.heap.size Bo w M.nb (M.c S) S.out
 rts:Own wL.heap.size 1 3 w M.rv (bO S.roots)
 cac:CacheAt wL.heap.size w M.cb M.em S.C
 den:DenE wL.heap.size w M.db S.room S.most
 tab:TabAt wL.heap.size w M.tb M.tm S.last S.tt
 gm:wL.heap.size≤M.mb
 map:MapS CK w M.mb (YI S.nt M.sb)
 tsk:∀ x,S.nt=some x→∃ rb qv,NTV wL w x M.sb rb qv
 ne:M.em≠M.tm∧M.em≠M.mb∧M.tm≠M.mb
def NodeAt (wL:World) (Bo:Nat) (w:World) (nb:Nat) (S:NodeR):Prop:=∃ M,M.nb=nb∧NodeW wL Bo w M S
theorem CacheAt.ext {B:Nat} {w w':World} {cb em:Nat} {C:CacheR} (h:CacheAt B w cb em C) (hx:Ext w w'):CacheAt B w' cb em C:=by
 obtain ⟨gs,h⟩:=h;exact ⟨gs,h.ext hx⟩
theorem TabAt.ext {B:Nat} {w w':World} {tb tm:Nat} {last:Int} {t:Option WaitR} (h:TabAt B w tb tm last t) (hx:Ext w w'):TabAt B w' tb tm last t:=by
 obtain ⟨k,h⟩:=h;exact ⟨k,h.ext hx⟩
theorem NTV.ext {wL w w':World} {x:NTask} {sb rb:Nat} {qv:Value} (h:NTV wL w x sb rb qv) (hx:Ext w w'):NTV wL w' x sb rb qv:=⟨h.ge,hx.at h.blk,h.tsk.grow hx,h.row.ext hx,h.nil⟩
theorem NodeW.grow {wL w w':World} {Bo:Nat} {M:NodeM} {S:NodeR} (h:NodeW wL Bo w M S) (hx:Ext w w'):NodeW wL Bo w' M S :=
 ⟨h.ext.trans hx,h.nod.ext hx,h.rts.ext hx,h.cac.ext hx,⟨h.den.ge,hx.at h.den.blk⟩,h.tab.ext hx,h.gm,h.map.ext hx,fun x e=>by obtain ⟨rb,qv,a⟩:=h.tsk x e;exact ⟨rb,qv,a.ext hx⟩,h.ne⟩
theorem NodeAt.grow {wL w w':World} {Bo nb:Nat} {S:NodeR} (h:NodeAt wL Bo w nb S) (hx:Ext w w'):NodeAt wL Bo w' nb S:=by
 obtain ⟨M,e,h⟩:=h;exact ⟨M,e,h.grow hx⟩
theorem StopV.keep {B:Nat} {w w':World} {v:Value} {s:Option ActR} {T:List TypeId} {M:List Nat} (h:StopV B w v s) (hk:Kf T M w w') (h1:201∉T) (h2:37∉T):StopV B w' v s:=by
 cases s with
 | none=>exact h
 | some a =>
  obtain ⟨c,v1,v2,g1,g2,g3,g4,g5,g6⟩:=h;exact ⟨c,v1,v2,g1,g2,hk.cells _ _ _ _ g3 h1,g4.keep hk.keep h2,g5.keep hk.keep h2,g6⟩
theorem TaskAt.keep {wL w w':World} {b:Nat} {t:TaskR} {T:List TypeId} {M:List Nat} (h:TaskAt wL w b t) (hk:Kf T M w w') (hx:Ext wL w') (h0:273∉T) (h1:201∉T) (h2:37∉T) (h3:3∉T):TaskAt wL w' b t:=by
 obtain ⟨rv,sv,gv,ev,h⟩:=h;exact ⟨rv,sv,gv,ev,h.ge,hx,hk.cells _ _ _ _ h.blk h0,h.rs.keep hk.keep h3,h.ss.keep hk.keep h3,h.gs.keep hk.keep h2,h.es.keep hk h1 h2⟩
theorem NTV.keep {wL w w':World} {x:NTask} {sb rb:Nat} {qv:Value} {T:List TypeId} {M:List Nat} (h:NTV wL w x sb rb qv) (hk:Kf T M w w') (hx:Ext wL w') (h0:273∉T) (h1:201∉T) (h2:37∉T) (h3:3∉T) (h4:198∉T) (h5:25∉T):NTV wL w' x sb rb qv :=
 ⟨h.ge,hk.cells _ _ _ _ h.blk h4,h.tsk.keep hk hx h0 h1 h2 h3,h.row.keep hk.keep h5,h.nil⟩
theorem NodeW.outs {wL w w':World} {Bo:Nat} {M:NodeM} {S:NodeR} {ov:Value} {l:List wM} (h:NodeW wL Bo w M S) (hn:NodV wL.heap.size Bo w' M.nb { M.c S with ov:=ov } l) (hk:Kf nT [] w w') (hl:Lo wL.heap.size w w'):NodeW wL Bo w' { M with ov:=ov } { S with out:=l }:=by
 have hx:Ext wL w':=hl.ext h.ext (Nat.le_refl _);refine ⟨hx,hn,h.rts.keep hk.keep aK,h.cac.keep hk aX aK aK aK,h.den.keep hk aK,h.tab.keep hk aX aK aK aK,h.gm,h.map.keep hk aX,fun x e=>?_,h.ne⟩;obtain ⟨rb,qv,a⟩:=h.tsk x e;exact ⟨rb,qv,a.keep hk hx aK aK aK aK aK aK⟩
def BO (S:NodeR):List Int:=match S.nt with
 | none=>[]
 | some x=>[x.n]
theorem EM {wL w:World} {Bo:Nat} {M:NodeM} {S:NodeR} (h:NodeW wL Bo w M S):Calls Tryz.prog 94 #[.pointer (some ⟨M.nb,0,none⟩)] w (kZ w fun r w'=>Own w.heap.size 1 3 w' r (bO (BO S))):=by
 have hb:=h.nod.blk;have hp:=aA (cs:=[M.rv, .int .i64 S.bud, .int .i64 S.room, .int .i64 S.most, .int .i64 S.wt, .pointer (some ⟨M.cb,0,none⟩), .pointer (some ⟨M.db,0,none⟩), .pointer (some ⟨M.tb,0,none⟩), .map (some M.mb), .int .i64 (S.sent:Nat),M.ov]) hb;go_enter Tryz.func94,Tryz.ntmps94
 refine_lift lQ ?_;intro _ _ _;refine Ca (As M.mb _) fun w1 x1 s1 b1=>?_;have hK:KeysIn 0 w1 w.heap.size M.mb (BO S):=by
  refine ⟨b1,?_⟩;have hm:=h.map.ext x1;unfold BO;cases hn:S.nt with
  | none=>rw [hn]at hm;exact .inl ⟨rfl,hm⟩
  | some y=>rw [hn]at hm;exact .inr ⟨y.n,_,rfl,hm⟩
 refine sC (TF w.heap.size M.mb _ _ hK) fun v w2 x2 o2=>?_;refine_lift aT ?_;go_ret;exact ⟨v,rfl,x1.trans x2,o2.weaken x1.size⟩
variable {cs:Array Value} {held:Bool} {qt:Int} {ps rs:List (List UInt8×Nat)} {ls:List (List UInt8)} {css css0 es:List (List Value)} {d l m n o qn s t x y z:List UInt8} {B a b base c e fuel i j k p q:Nat} {fz:Nat×Nat} {row:Option Nat} {r u v:Value} {w w' w0 w1 w2:World}
def BP (sent:Nat) (a:ActR):MsgR:={ zeroM with id:=((sent &&& 65535:Nat):Int),qs:=[(a.qn,a.qt)],size:=1232 }
def NTask.send (x:NTask) (sent:Nat) (a:ActR) (late:Int):NTask:={ x with an:=a.qn,at_:=a.qt,to:=a.to,q:=BP sent a,late:=late }
def NodeR.send (S:NodeR) (x:NTask) (a:ActR) (now:Int):NodeR:={ S with nt:=some (x.send S.sent a (now+S.wt)),sent:=S.sent+1,out:=S.out ++ [(a.to,(bP (BP S.sent a)).1)] }
def Bn (Bo:Nat) (l:List Nat) (w w':World):Prop:=∀ j,j<w.heap.size→j<Bo→j∉l→w'.heap[j]? = w.heap[j]?
theorem MW {wL:World} {Bo:Nat} {M:NodeM} {S:NodeR} (h:NodeW wL Bo w M S) {x:NTask} (hx:S.nt=some x) (a:ActR) (u:Value) (hu:ActV w u a) (hk:a.kind=1) (now:Int) (h0:0≤now) (h1:now≤1099511627776) (h2:0≤S.wt∧S.wt≤2147483647) (h3:S.sent≤1000000) (h4:S.out.length≤100000) :
 Calls Tryz.prog 95 #[.pointer (some ⟨M.nb,0,none⟩), .int .i64 x.n,u, .int .i64 now] w (fun e w'=>e=.returned (.tuple #[])∧∃ ov,NodeW wL Bo w' { M with ov:=ov } (S.send x a now)∧Bn Bo [M.nb,M.sb] w w'∧Lo wL.heap.size w w'):=by
 obtain ⟨v1,v2,rfl,o1,o2⟩:=hu.out;obtain ⟨rb,qv,hN⟩:=h.tsk x hx;have hb:=h.nod.blk;have hp:=aA (cs:=[M.rv, .int .i64 S.bud, .int .i64 S.room, .int .i64 S.most, .int .i64 S.wt, .pointer (some ⟨M.cb,0,none⟩), .pointer (some ⟨M.db,0,none⟩), .pointer (some ⟨M.tb,0,none⟩), .map (some M.mb), .int .i64 (S.sent:Nat),M.ov]) hb;have hmap:=h.map;rw [hx]at hmap;have htm:eI Tryz.prog 150 3 195=true:=zDk;have hzv:∀ w,(zeroValue 195).run Tryz.prog w=.ok (.pointer none) w:=fun w=>by kernel_rfl
 go_enter Tryz.func95,Tryz.ntmps95
 refine_lift lQ ?_;intro _ _ _;refine jO (vs:=dV a v1 v2) fun w1 x1 s1 b1=>?_;refine aB ?_;have hpa:=aA (cs:=[.int .i64 a.kind, .int .i64 a.to,aE a.qn, .int .i64 a.qt, .int .i64 a.code,v1,v2]) b1;have hp1:=hp.ext x1;have hlk:=eU (i:=0) kN htm hzv (hmap.ext x1) (x:=.int .i64 x.n) (v:=.pointer (some ⟨M.sb,0,none⟩)) ⟨_,rfl⟩ rfl (by simp [YI]) false;refine_lift bU fun _ _=>?_;refine aG (v:=.pointer (some ⟨M.sb,0,none⟩)) (Runs.lookup rfl rfl hlk) ?_;refine aB ?_;refine_lift EZ fun _ _ _ _ _=>?_;rw [hk];refine_lift aT ?_;have nB:M.nb≠M.sb:=by
  intro e;have h9:=hN.blk;rw [← e,hb]at h9;injection (Option.some.inj h9)with _ e2
  exact absurd e2 aK
 have lN:M.sb<w.heap.size:=(Array.getElem?_eq_some_iff.1 hN.blk).1;have lB:M.nb<w.heap.size:=(Array.getElem?_eq_some_iff.1 hb).1;refine aO 22 (fun w'=>Pts w' (.pointer (some ⟨w.heap.size,0,none⟩)) [.int .i64 a.kind, .int .i64 a.to,aE a.qn, .int .i64 a.qt, .int .i64 a.code,v1,v2]∧Pts w' (.pointer (some ⟨M.nb,0,none⟩)) [M.rv, .int .i64 S.bud, .int .i64 S.room, .int .i64 S.most, .int .i64 S.wt, .pointer (some ⟨M.cb,0,none⟩), .pointer (some ⟨M.db,0,none⟩), .pointer (some ⟨M.tb,0,none⟩), .map (some M.mb), .int .i64 (S.sent:Nat),M.ov]) zDk ?_;intro w2 x2 _;refine ⟨⟨hpa.ext x2,hp1.ext x2⟩,?_⟩;refine cZ 0 ?_;refine cZ 1 ?_;refine cZ 2 ?_;refine cZ 3 ?_;refine oE (i:=4) (v:=.agg #[aE a.qn, .int .i64 a.qt]) rfl rfl (fun w' hF=>by
  have hq:Pts w' (aV (.pointer (some ⟨w.heap.size,0,none⟩)) 2) [aE a.qn, .int .i64 a.qt]:=(hF.1.part 2).front 2;clear hF;exact vM) ?_
 refine aB ?_;refine cZ 5 ?_;refine oE (i:=6) (v:=.int .i64 a.to) rfl rfl (fun w' hF=>by obtain ⟨hF,_⟩:=hF;exact vM) ?_;refine aB ?_;refine cZ 7 ?_;refine cZ 8 ?_;refine cZ 9 ?_;refine cZ 10 ?_;refine cZ 11 ?_;refine oE (i:=12) (v:=.int .i64 S.wt) rfl rfl (fun w' hF=>by obtain ⟨_,hF⟩:=hF;exact vM) ?_;refine aB ?_;refine cZ 13 ?_;refine cZ 14 ?_;refine cZ 15 ?_;refine dH 16 ?_;refine AU (n:=1) (vs:=[aE a.qn, .int .i64 a.qt]) (x2.at (x1.at hN.blk)) rfl rfl rfl rfl (by simp [WN]) (zDk:dG Tryz.prog 25 2=true) (by simp [aE,Value.oneCell']) fun w3 p3=>?_;have b3:w3.heap[M.sb]? = some (.cells (WN { x with an:=a.qn,at_:=a.qt } rb qv).toArray 198 (0,0)):=p3.this;have a3:=(p3.other _ (by omega:w.heap.size≠M.sb)).trans (x2.at b1);have n3:=(p3.other _ nB).trans (x2.at (x1.at hb));refine aD ⟨aR ⟨aA (cs:=[.int .i64 a.kind, .int .i64 a.to,aE a.qn, .int .i64 a.qt, .int .i64 a.code,v1,v2]) a3,aA (cs:=[M.rv, .int .i64 S.bud, .int .i64 S.room, .int .i64 S.most, .int .i64 S.wt, .pointer (some ⟨M.cb,0,none⟩), .pointer (some ⟨M.db,0,none⟩), .pointer (some ⟨M.tb,0,none⟩), .map (some M.mb), .int .i64 (S.sent:Nat),M.ov]) n3⟩,?_⟩;refine cZ 17 ?_;refine yB (i:=18) (v:=aV (.pointer (some ⟨M.sb,0,none⟩)) 5) rfl rfl (fun w'=>by apply Runs.fieldLitK (k:=2);rfl;decide +kernel) ?_;refine aB ?_;refine dH 19 ?_;refine fA 5 (.int .i64 a.to) b3 rfl fun w4 p4=>?_;have b4:w4.heap[M.sb]? = some (.cells (WN { x with an:=a.qn,at_:=a.qt,to:=a.to } rb qv).toArray 198 (0,0)):=p4.this;have a4:=(p4.other _ (by omega:w.heap.size≠M.sb)).trans a3;have n4:=(p4.other _ nB).trans n3;refine aD ⟨aR ⟨aA (cs:=[.int .i64 a.kind, .int .i64 a.to,aE a.qn, .int .i64 a.qt, .int .i64 a.code,v1,v2]) a4,aA (cs:=[M.rv, .int .i64 S.bud, .int .i64 S.room, .int .i64 S.most, .int .i64 S.wt, .pointer (some ⟨M.cb,0,none⟩), .pointer (some ⟨M.db,0,none⟩), .pointer (some ⟨M.tb,0,none⟩), .map (some M.mb), .int .i64 (S.sent:Nat),M.ov]) n4⟩,?_⟩;refine cZ 20 ?_;refine yB (i:=21) (v:=aV (.pointer (some ⟨M.sb,0,none⟩)) 19) rfl rfl (fun w'=>by apply Runs.fieldLitK (k:=14);rfl;decide +kernel) ?_;refine aB ?_;refine dH 22 ?_;refine fA 19 (.int .i64 (now+S.wt)) b4 rfl fun w5 p5=>?_;have b5:w5.heap[M.sb]? = some (.cells (WN { x with an:=a.qn,at_:=a.qt,to:=a.to,late:=now+S.wt } rb qv).toArray 198 (0,0)):=p5.this;have a5:=(p5.other _ (by omega:w.heap.size≠M.sb)).trans a4;have n5:=(p5.other _ nB).trans n4;refine aD ⟨aN rfl,?_⟩;refine jP ?_;have hpa5:=aA (cs:=[.int .i64 a.kind, .int .i64 a.to,aE a.qn, .int .i64 a.qt, .int .i64 a.code,v1,v2]) a5;have hp5:=aA (cs:=[M.rv, .int .i64 S.bud, .int .i64 S.room, .int .i64 S.most, .int .i64 S.wt, .pointer (some ⟨M.cb,0,none⟩), .pointer (some ⟨M.db,0,none⟩), .pointer (some ⟨M.tb,0,none⟩), .map (some M.mb), .int .i64 (S.sent:Nat),M.ov]) n5;clear hpa hp1;refine_lift mT fun _ _=>?_;have hq5:Pts w5 (aV (.pointer (some ⟨w.heap.size,0,none⟩)) 2) [aE a.qn, .int .i64 a.qt]:=(hpa5.part 2).front 2;clear hpa5;refine aO 12 (Ext w5) zDk ?_;intro w6 x6 _;refine ⟨x6,?_⟩;refine cZ 0 ?_;refine cZ 1 ?_;refine cZ 2 ?_;refine cZ 3 ?_;refine bE 4 ?_;refine yB (i:=5) (v:=.int .i64 ((S.sent &&& 65535:Nat):Int)) rfl rfl (fun _=>Runs.andN (m:=S.sent) (n:=65535) rfl rfl aC aK) ?_;refine aB ?_;refine cZ 6 ?_;refine bE 7 ?_;refine dH 8 ?_;refine oD (e:=25) (k:=2) (bytes:=24) (xs:=[.agg #[aE a.qn, .int .i64 a.qt]]) (by simp [Value.cells]) fun v7 w7 x7 _ sl7 o7=>?_;refine aB ?_;obtain ⟨ad7,cap7,rfl⟩:∃ a n,v7=.slice a 1 n:=by
  obtain ⟨a,n,e,_⟩:=sl7;exact ⟨a,n,e⟩
 have x57:=x6.trans x7;refine aD ⟨aR x57,?_⟩;refine yB (i:=9) (v:=.agg (aP (BP S.sent a) (.slice ad7 1 cap7) aI aI aI).toArray) rfl rfl (fun _=>Runs.build (vals:=[(0, .int .i64 ((S.sent &&& 65535:Nat):Int)),(8, .slice ad7 1 cap7),(12, .int .i64 1232)]) rfl (by kernel_rfl)) ?_;refine aB ?_;refine cZ 10 ?_;refine yB (i:=11) (v:=aV (.pointer (some ⟨M.sb,0,none⟩)) 6) rfl rfl (fun w'=>by apply Runs.fieldLitK (k:=2);rfl;decide +kernel) ?_;refine aB ?_;refine dH 12 ?_;refine AU (n:=6) (vs:=aP (BP S.sent a) (.slice ad7 1 cap7) aI aI aI) (x57.at b5) rfl rfl rfl rfl (by simp [WN,aP]) (zDk:dG Tryz.prog 54 13=true) (by simp [aP,aE,Value.oneCell',aI]) fun w8 p8=>?_;have b8:w8.heap[M.sb]? = some (.cells (WN (x.send S.sent a (now+S.wt)) rb (.slice ad7 1 cap7)).toArray 198 (0,0)):=p8.this;have n8:=(p8.other _ nB).trans (x57.at n5);refine aD ⟨aN rfl,?_⟩;refine jP ?_;clear hp5;have hp8:=aA (cs:=[M.rv, .int .i64 S.bud, .int .i64 S.room, .int .i64 S.most, .int .i64 S.wt, .pointer (some ⟨M.cb,0,none⟩), .pointer (some ⟨M.db,0,none⟩), .pointer (some ⟨M.tb,0,none⟩), .map (some M.mb), .int .i64 (S.sent:Nat),M.ov]) n8;refine_lift bU fun _ _=>?_;refine fA 9 (.int .i64 ((S.sent:Nat)+1)) n8 rfl fun w9 p9=>?_;have n9:w9.heap[M.nb]? = some (.cells (NodC.cells { M.c S with sent:=(S.sent:Nat)+1 }).toArray 155 (0,0)):=p9.this;have b9:=(p9.other _ nB.symm).trans b8;have hq9:Pts w9 (aV (.pointer (some ⟨M.sb,0,none⟩)) 6) (aP (BP S.sent a) (.slice ad7 1 cap7) aI aI aI):=((aA b9).part 6).front 13;have oq9:=(eM (eM o7 p8 (x57.at b5)) p9 n8);have hm9:MsgV w9 (BP S.sent a) (.slice ad7 1 cap7) aI aI aI:=⟨oq9.sl,Sl.nil _ _,Sl.nil _ _,Sl.nil _ _⟩;clear hp8 hq5;unfold aP at hq9;refine_lift bU fun _ _=>?_;refine aG (v:=aV (.pointer (some ⟨M.sb,0,none⟩)) 6) (by apply Runs.fieldLitK (k:=2);rfl;decide +kernel) ?_;refine aB ?_;refine_lift aT ?_;refine cB (rI hm9) fun w10 x10=>?_;have a10:=x10.at ((p9.other _ (by omega:w.heap.size≠M.nb)).trans ((p8.other _ (by omega:w.heap.size≠M.sb)).trans (x57.at a5)));have hpa10:=aA (cs:=[.int .i64 a.kind, .int .i64 a.to,aE a.qn, .int .i64 a.qt, .int .i64 a.code,v1,v2]) a10;have bN:=hN.blk;have z1:=x1.size;have z57:=x57.size;have z2:=x2.size;have z3:=p3.size;have z4:=p4.size;have z5:=p5.size;have z8:=p8.size;have z9:=p9.size;have z10:=x10.size;have k1:Kf [198,155] [] w w10:=(Kf.of (x1.trans x2)).trans ((Kf.put p3 (x2.at (x1.at bN)) aK).trans ((Kf.put p4 b3 aK).trans ((Kf.put p5 b4 aK).trans ((Kf.of x57).trans ((Kf.put p8 (x57.at b5) aK).trans ((Kf.put p9 n8 aK).trans (Kf.of x10)))))));have hg:=hN.ge;have hgn:=h.nod.ge;have l1:Lo wL.heap.size w w10:=(Lo.of (x1.trans x2)).trans ((Lo.put p3 hg).trans ((Lo.put p4 hg).trans ((Lo.put p5 hg).trans ((Lo.of x57).trans ((Lo.put p8 hg).trans ((Lo.put p9 hgn).trans (Lo.of x10)))))));have f1:Bn Bo [M.nb,M.sb] w w10:=fun j j1 _ j3=>by
  have e1:j≠M.nb:=fun e=>j3 (by simp [e]);have e2:j≠M.sb:=fun e=>j3 (by simp [e]);rw [x10.block j aC,p9.other j e1,p8.other j e2,x57.block j aC,p5.other j e2,p4.other j e2,p3.other j e2,x2.block j aC,x1.block j j1]
 have hE:Ext wL w10:=l1.ext h.ext (Nat.le_refl _);have hv10:NodV wL.heap.size Bo w10 M.nb { M.c S with sent:=(S.sent:Nat)+1 } S.out:=⟨h.nod.ge,x10.at n9,h.nod.row.keep k1.keep aK,h.nod.le.1,by have:=h.nod.le;omega⟩;refine_lift bU fun _ _=>?_;refine gS (TH hv10 a.to (bP (BP S.sent a)).1 h4) ?_;rintro _ w11 ⟨rfl,ov,h11,k11,l11,f11⟩;refine ⟨_,rfl,?_⟩;refine aB ?_;refine_lift aT ?_;refine bodyPost_ret (results_none rfl _ _ _) rfl ?_;have kk:Kf [198,155,175] [] w w11:=(k1.mono aX aX).trans (k11.mono aX aX);have hE11:Ext wL w11:=l11.ext hE (Nat.le_refl _);refine ⟨rfl,ov,⟨hE11,?_,h.rts.keep kk.keep aK,h.cac.keep kk aX aK aK aK,h.den.keep kk aK,h.tab.keep kk aX aK aK aK,h.gm,?_,?_,h.ne⟩,fun j j1 j2 j3=>?_,l1.trans l11⟩
 ·exact h11
 ·have:=h.map.keep kk aX;rw [hx]at this;exact this
 ·rintro y ⟨⟩;refine ⟨rb,_,hN.ge,k11.cells _ _ _ _ (x10.at b9) aK,hN.tsk.keep kk hE11 aK aK aK aK,?_,rfl,rfl,rfl⟩;have:=(oq9.ext x10).keep k11.keep aK;exact this.weaken (by have:=h.ext.size;omega)
 ·rw [f11 j aC j2 (fun e=>j3 (by simp [e])),f1 j j1 j2 j3]
theorem WO {tb tm:Nat} {last:Int} {x:WaitR} (h:TabAt B w tb tm last (some x)) (qn:List UInt8) (qt:Int) (c:CliR) (h1:(aM qn).isSome=true) (h2:(aM c.name).isSome=true) (hq1:x.qn=fold qn) (hq2:x.qt=qt) (hl:x.l.length<10) :
 Calls Tryz.prog 141 #[.pointer (some ⟨tb,0,none⟩), .agg #[aE qn, .int .i64 qt], .agg (GG c).toArray] w (fun e w'=>e=.returned (.tuple #[.int .i64 x.n, .bool false, .int .i64 0])∧TabAt B w' tb tm last (some { x with l:=x.l ++ [c] })∧Kf oT [] w w'∧Lo B w w'):=by
 obtain ⟨xn,xqn,xqt,xl⟩:=x;obtain rfl:xqn=fold qn:=hq1;obtain rfl:xqt=qt:=hq2;dsimp only at hl ⊢;obtain ⟨tbk,hT⟩:=h;obtain ⟨b,rfl⟩:∃ b,tbk=some (⟨xn,fold qn,xqt,xl⟩,b):=by
  cases hh:tbk with
  | none=>have:=hT.eq;rw [hh]at this;cases this
  | some y =>
   have:=hT.eq;rw [hh]at this;obtain ⟨y1,y2⟩:=y;cases this
   exact ⟨y2,rfl⟩
 obtain ⟨v,hW⟩:=hT.task _ b rfl;have hb:=hT.blk;have hp:=aA (cs:=[.int .i64 20, .int .i64 10, .int .i64 last, .map (some tm)]) hb;have htm:eI Tryz.prog 232 3 326=true:=zDk;go_enter Tryz.func141,Tryz.ntmps141
 refine_lift sF ?_;intro _ _ _;refine jO (vs:=[aE qn, .int .i64 xqt]) fun w1 x1 s1 b1=>?_;refine aB ?_;refine jO (vs:=[.int .i64 c.node, .int .i64 c.id,aE c.name]) fun w2 x2 s2 b2=>?_;refine aB ?_;have b12:=x2.at b1;have hpQ:=aA (cs:=[aE qn, .int .i64 xqt]) b12;have hpC:=aA (cs:=[.int .i64 c.node, .int .i64 c.id,aE c.name]) b2;have hp2:=hp.ext (x1.trans x2);refine_lift mH fun _ _ _ _=>?_;refine cB (PO qn _) fun w3 x3=>?_;rw [if_pos h1];have hpQ3:=hpQ.ext x3;have hpC3:=hpC.ext x3;refine_lift aT ?_;refine cB (PO c.name _) fun w4 x4=>?_;rw [if_pos h2];have hpQ4:=hpQ3.ext x4;have hpC4:=hpC3.ext x4;refine_lift bU fun _ _=>?_;refine cB (vQ qn _) fun w5 x5=>?_;have hx25:=(x3.trans x4).trans x5;refine_lift aT ?_;have z1:=x1.size;have z2:=x2.size;have z3:=hx25.size;have lb:tb<w.heap.size:=(Array.getElem?_eq_some_iff.1 hb).1;have lw:b<w.heap.size:=(Array.getElem?_eq_some_iff.1 hW.blk).1;have lm:tm<w.heap.size:=hT.map.lt;refine fA 0 (aE (fold qn)) (hx25.at b12) rfl fun w6 p6=>?_;have z4:=p6.size;have hx5:=(x1.trans x2).trans hx25;have bT6:=p6.mv.at (hx5.at hb) (by intro e;have:=Option.some.inj e;omega);have bW6:=p6.mv.at (hx5.at hW.blk) (by intro e;have:=Option.some.inj e;omega);have bC6:=p6.mv.at (hx25.at b2) (by intro e;have:=Option.some.inj e;omega);have o6:=eM (hW.row.ext hx5) p6 (hx25.at b12);have m6:=(hT.map.ext hx5).mvc p6 (hx25.at b12);have hp6:=aA (cs:=[.int .i64 20, .int .i64 10, .int .i64 last, .map (some tm)]) bT6;clear hp2 hp hpQ hpQ3 hpQ4 hpC hpC3 hpC4;refine_lift mH fun _ _ _ _=>?_;refine pP rfl m6 (fun w7 x7 s7 i7=>?_) (ht:=htm);refine aB ?_;refine_lift aT ?_;refine wp_loop_once ?_;refine_lift sF ?_;intro _ _ _;refine EC rfl i7 aC (fun w8 o8 p8 i8=>?_);refine aB ?_;refine_lift lQ fun _ _ _=>?_;refine aG (Runs.entry1 rfl i8) ?_;refine aB ?_;refine_lift bU fun _ _=>?_;have z5:=x7.size;have z6:=p8.size;have bT8:=p8.mv.at (x7.at bT6) (by intro e;have:=Option.some.inj e;omega);have bW8:=p8.mv.at (x7.at bW6) (by intro e;have:=Option.some.inj e;omega);have bC8:=p8.mv.at (x7.at bC6) (by intro e;have:=Option.some.inj e;omega);have bQ8:=p8.mv.at (x7.at p6.this) (by intro e;have:=Option.some.inj e;omega);have ow8:=(o6.ext x7).mv p8.mv (KY o6 _ (Nat.le_refl _));have sl8:=ow8.sl;have hT8:=aA (cs:=[.int .i64 20, .int .i64 10, .int .i64 last, .map (some tm)]) bT8;have hW8:=aA (cs:=[aE (fold qn), .int .i64 xqt,v]) bW8;have hW8a:Pts w8 (aV (.pointer (some ⟨b,0,none⟩)) 0) [aE (fold qn), .int .i64 xqt]:=(hW8.part 0).front 2;have hW8b:Pts w8 (aV (.pointer (some ⟨b,0,none⟩)) 2) [v]:=hW8.part 2;have hQ8:=aA (cs:=[aE (fold qn), .int .i64 xqt]) bQ8;have hC8:=aA (cs:=[.int .i64 c.node, .int .i64 c.id,aE c.name]) bC8;clear hp6;refine dA zDk zDk ?_;refine_lift vO ?_;refine fL (v:=.bool (!decide (((fold qn,xqt):mU)=(fold qn,xqt)))) (fun w' x'=>Runs.neqQst rfl rfl) ?_;rw [decide_eq_true rfl];refine aB ?_;refine_lift vO ?_;intro w9 x9;refine_lift bU fun _ _=>?_;clear hW8a hW8b hQ8;have hW9:=hW8.ext x9;have hT9:=hT8.ext x9;have hC9:=hC8.ext x9;have sl9:=sl8.ext x9;refine dA zDk zDk ?_;refine_lift vO ?_;intro w10 x10;rw [show (lG xl).length=xl.length from List.length_map ..];rw [decide_eq_false (show ¬ (10:Int)≤(xl.length:Nat) by omega)];have hW10:=hW9.ext x10;have hC10:=hC9.ext x10;have x810:=x9.trans x10;have ow10:=ow8.ext x810;clear hT9 hT8 hW8 hC8 hW9 hC9 sl8 sl9;refine_lift bU fun _ _=>?_;refine aO 7 (Ext w10) zDk ?_;intro w11 x11 _;refine ⟨x11,?_⟩;refine cZ 0 ?_;refine cZ 1 ?_;refine cZ 2 ?_;refine cZ 3 ?_;refine bE 4 ?_;refine bE 5 ?_;refine dH 6 ?_;refine oD (e:=251) (k:=3) (bytes:=32) (xs:=[.agg #[.int .i64 c.node, .int .i64 c.id,aE c.name]]) (by simp [Value.cells]) fun v12 w12 x12 s12 sl12 o12=>?_;refine aB ?_;have x1012:=x11.trans x12;refine aD ⟨aR x1012,?_⟩;refine dH 7 ?_;have hge:=hT.ge;have z7:=x810.size;have z8:=x1012.size;refine bV (e:=251) (k:=3) rfl (ow10.ext x1012) rfl sl12 (by simp [Value.cells,aE,Value.oneCell']) aC (by simp [lG];omega) ?_;intro v13 w13 o13 m13 hk13;refine aB ?_;refine aD ⟨aN rfl,?_⟩;refine cZ 8 ?_;refine cZ 9 ?_;refine dH 10 ?_;have bW13:=m13.at (x1012.at (x810.at bW8)) (fun e=>(ow10.ext x1012).neBlock (x1012.at (x810.at bW8)) aK e.symm);refine fA 2 v13 bW13 o13.one fun w14 p14=>?_;refine aD ⟨aN rfl,?_⟩;refine jP ?_;refine_lift aT ?_;have m13':Mv v.ownBlock w12 w13:=m13;have all14:∀ j,j<w.heap.size→j≠b→v.ownBlock≠some j→w14.heap[j]? = w.heap[j]? := fun j g1 g2 g3=>by
  rw [p14.other j g2,m13'.block j aC (fun e=>g3 e.symm),(x810.trans x1012).block j aC,p8.other j aC,x7.block j aC,p6.other j aC,hx5.block j g1]
 have hnv:∀ (j:Nat) (cs:Array Value) (t:TypeId) (fz:Nat×Nat),w.heap[j]? = some (.cells cs t fz)→t≠251→v.ownBlock≠some j:=fun j cs t fz hj ht=>hW.row.neBlock hj ht;have hnm:∀ (j:Nat) (es:Array MapEntry) (k:Nat),w.heap[j]? = some (.map es k)→v.ownBlock≠some j:=fun j es k hj e=>by
  obtain ⟨cur,fz,hq⟩:=hW.row.type e;rw [hq]at hj;cases hj
 refine bodyPost_ret (results_tmp3 rfl _ _ _) rfl ⟨rfl,⟨some (⟨xn,fold qn,xqt,xl ++ [c]⟩,b),hT.ge,rfl,?_,?_,?_⟩,?_,(Lo.of hx5).trans ((Lo.put p6 aC).trans ((Lo.of x7).trans ((Lo.put p8 aC).trans ((Lo.of (x810.trans x1012)).trans ((Lo.mv m13' (fun k hk=>(ow8.block k hk).1)).trans (Lo.put p14 hW.ge))))))⟩
 ·rw [all14 tb lb (mJ hb hW.blk aK) (hnv _ _ _ _ hb aK)];exact hb
 ·exact hT.map.at fun es k hm=>by
   rw [all14 tm lm (hT.map.neCells hW.blk) (hnm _ _ _ hm)];exact hm
 ·rintro y b' hyb;cases hyb
  refine ⟨v13,hW.ge,p14.this,?_⟩;have e1:lG (xl ++ [c])=lG xl ++ [[.int .i64 c.node, .int .i64 c.id,aE c.name]]:=by simp [lG,GG]
  show Own B 3 _ w14 v13 (lG (xl ++ [c]));rw [e1];exact eM o13 p14 bW13
 ·refine ⟨fun j cs t fz hj ht=>?_,fun j es k hj _=>?_⟩
  ·rw [all14 j (Array.getElem?_eq_some_iff.1 hj).1 (by rintro rfl;rw [hW.blk]at hj;cases hj;exact ht aK) (hnv _ _ _ _ hj (by rintro rfl;exact ht aK))];exact hj
  ·rw [all14 j (Array.getElem?_eq_some_iff.1 hj).1 (by rintro rfl;rw [hW.blk]at hj;cases hj) (hnm _ _ _ hj)];exact hj
theorem WP {tb tm:Nat} {last:Int} {x:WaitR} (h:TabAt B w tb tm last (some x)) :
 Calls Tryz.prog 149 #[.pointer (some ⟨tb,0,none⟩), .int .i64 x.n] w (fun e w'=>∃ v,e=.returned (.tuple #[v, .bool true])∧Own B 3 251 w' v (lG x.l)∧TabAt B w' tb tm last none∧Kf [] [tm] w w'∧Lo B w w'):=by
 obtain ⟨tbk,hT⟩:=h;obtain ⟨b,rfl⟩:∃ b,tbk=some (x,b):=by
  cases hh:tbk with
  | none=>have:=hT.eq;rw [hh]at this;cases this
  | some y =>
   have:=hT.eq;rw [hh]at this;obtain ⟨y1,y2⟩:=y;cases this
   exact ⟨y2,rfl⟩
 obtain ⟨v,hW⟩:=hT.task _ b rfl;have hb:=hT.blk;have hp:=aA (cs:=[.int .i64 20, .int .i64 10, .int .i64 last, .map (some tm)]) hb;have hpW:=aA (cs:=[aE x.qn, .int .i64 x.qt,v]) hW.blk;have htm:eI Tryz.prog 232 3 326=true:=zDk;have hzv:∀ w,(zeroValue 326).run Tryz.prog w=.ok (.pointer none) w:=fun w=>by kernel_rfl
 have hlk:=eU (i:=0) kN htm hzv hT.map (x:=.int .i64 x.n) (v:=.pointer (some ⟨b,0,none⟩)) ⟨_,rfl⟩ rfl (by simp [BM]) false;go_enter Tryz.func149,Tryz.ntmps149
 refine_lift EZ ?_;intro _ _ _ _ _;refine cG (v:=.pointer (some ⟨b,0,none⟩)) rfl (Runs.lookup rfl rfl hlk) ?_;refine aB ?_;refine_lift bU fun _ _=>?_;refine aG (v:=.pointer (some ⟨b,0,none⟩)) (Runs.lookup rfl rfl hlk) ?_;refine aB ?_;refine_lift bU fun _ _=>?_;refine rA kN rfl rfl ⟨_,rfl⟩ hT.map (fun w1 o1 p1 hd=>?_) (ht:=htm);refine_lift aT ?_;go_ret2;have hd':(∃ i u,(BM (some (x,b)))[i]? = some (.int .i64 x.n,u)∧MapS CK w1 tm ((BM (some (x,b))).eraseIdx i))∨((∀ e∈BM (some (x,b)),e.1≠.int .i64 x.n)∧MapS CK w1 tm (BM (some (x,b)))):=hd;have hm:MapS CK w1 tm []:=by
  rcases hd' with ⟨i,u,hi,hm⟩|⟨hn,_⟩
  ·match i,hi,hm with
   | 0,_,hm=>exact hm
  ·exact absurd rfl (hn _ (List.mem_singleton.2 rfl))
 have hc:∀ (j:Nat) (cs:Array Value) (t:TypeId) (fz:Nat×Nat),w.heap[j]? = some (.cells cs t fz)→w1.heap[j]? = some (.cells cs t fz):=fun j cs t fz hj=>p1.mv.at hj (by intro e;exact hT.map.neCells hj (Option.some.inj e).symm);refine ⟨v,rfl,hW.row.same fun r hr=>?_,⟨none,hT.ge,rfl,hc _ _ _ _ hb,hm,aX⟩,Kf.putMap p1 hT.map aX,Lo.put p1 hT.ge.2⟩;obtain ⟨cur,fz,hq⟩:=hW.row.type hr;rw [hq,hc _ _ _ _ hq]
end Go.Proofs.X
