/- Laws and walks that the proof of the statement is made of (part 19). -/
import Derived.Test.YtgljkfpcadempaaGreatP18
set_option linter.unusedSimpArgs false
set_option linter.unusedVariables false
namespace Go.Proofs.X
open Go.RowKit
set_option maxRecDepth 100000
def oL (limit:Int) (x:MsgR):Bool:=decide ((dA x).2=0) && decide (((dA x).1.length:Int)≤limit)
def NW (m:MsgR):MsgR:={ m with trunc:=true,an:=[],au:=[],ex:=[] }
def fO (m:MsgR) (n:Nat):MsgR:={ m with ex:=m.ex.take n }
def rW (m:MsgR) (limit:Int):MsgR × List UInt8 × Int:=if oL limit (NW m)=true then (NW m,(dA (NW m)).1,0) else (zeroM,[],4)
def tL (m:MsgR) (limit:Int):Nat→MsgR × List UInt8 × Int
 | 0=>if oL limit (fO m 0)=true then (fO m 0,(dA (fO m 0)).1,0) else rW m limit
 | n + 1=>if oL limit (fO m (n + 1))=true then (fO m (n + 1),(dA (fO m (n + 1))).1,0) else tL m limit n
def zY (m:MsgR) (limit:Int):MsgR × List UInt8 × Int:=if dH m≠0∨limit < 1∨65535 < limit then (zeroM,[],1) else tL m limit m.ex.length
def NX (w:World) (o:MsgR × List UInt8 × Int):Value→World→Prop:=fun r w'=>∃ q a u e,r=.tuple #[.agg (aW o.1 q a u e).toArray,aI o.2.1, .int .i64 o.2.2]∧MsgV w' o.1 q a u e
theorem KS {limit:Int} {x:MsgR} (h:oL limit x=true):(dA x).2=0∧((dA x).1.length:Int)≤limit:=by simpa [oL] using h
structure FitIn (w:World) (B b1 b2:Nat) (m:MsgR) (limit:Int) (RES:MsgR × List UInt8 × Int) (cut:Bool) (n:Nat) (mm:MsgR) (q a u e:Value) (wr:World):Prop where
 blk1:wr.heap[b1]? = some (.cells (aW mm q a u e).toArray 26 (0,0))
 blk2:wr.heap[b2]? = some (.cells gO.toArray 26 (0,0))
 ext:Ext w wr
 oq:Own B 2 54 wr q (cU mm.qs)
 oa:Own B 4 106 wr a (aO mm.an)
 ou:Own B 4 106 wr u (aO mm.au)
 oe:Own B 4 106 wr e (aO mm.ex)
 len:m.ex.length≤1000
 spec:(cut=false∧n≤m.ex.length∧mm=fO m n∧tL m limit n=RES)∨(cut=true∧mm=NW m∧rW m limit=RES)
theorem FitIn.msg {w:World} {B b1 b2:Nat} {m:MsgR} {limit:Int} {RES:MsgR × List UInt8 × Int} {cut:Bool} {n:Nat} {mm:MsgR} {q a u e:Value} {wr:World} (h:FitIn w B b1 b2 m limit RES cut n mm q a u e wr):MsgV wr mm q a u e:=⟨h.oq.sl,h.oa.sl,h.ou.sl,h.oe.sl⟩
theorem FitIn.yes {w:World} {B b1 b2:Nat} {m:MsgR} {limit:Int} {RES:MsgR × List UInt8 × Int} {cut:Bool} {n:Nat} {mm:MsgR} {q a u e:Value} {wr:World} (h:FitIn w B b1 b2 m limit RES cut n mm q a u e wr) (hf:oL limit mm=true):RES=(mm,(dA mm).1,0):=by
 rcases h.spec with ⟨-,-,h3,h4⟩ | ⟨-,h3,h4⟩
 ·rw [← h4]
  cases n with
  | zero=>unfold tL;rw [← h3,if_pos hf]
  | succ n=>unfold tL;rw [← h3,if_pos hf]
 ·rw [← h4]
  unfold rW
  rw [← h3,if_pos hf]
theorem FitIn.end_ {w:World} {B b1 b2:Nat} {m:MsgR} {limit:Int} {RES:MsgR × List UInt8 × Int} {n:Nat} {mm:MsgR} {q a u e:Value} {wr:World} (h:FitIn w B b1 b2 m limit RES true n mm q a u e wr) (hf:¬ oL limit mm=true):RES=(zeroM,[],4):=by
 rcases h.spec with ⟨h1,-⟩ | ⟨-,h3,h4⟩
 ·cases h1
 ·rw [← h4]
  unfold rW
  rw [← h3,if_neg hf]
theorem FitIn.on {w:World} {B b1 b2:Nat} {m:MsgR} {limit:Int} {RES:MsgR × List UInt8 × Int} {n:Nat} {mm:MsgR} {q a u e:Value} {wr:World} (h:FitIn w B b1 b2 m limit RES false n mm q a u e wr) (hf:¬ oL limit mm=true):mm=fO m n∧n≤m.ex.length∧(n=0→rW m limit=RES)∧(∀ k,n=k + 1→tL m limit k=RES):=by
 rcases h.spec with ⟨h1,h2,h3,h4⟩ | ⟨h1,-⟩
 ·refine ⟨h3,h2,?_,?_⟩
  ·rintro rfl
   rw [← h4]
   show rW m limit=(if oL limit (fO m 0)=true then (fO m 0,(dA (fO m 0)).1,0) else rW m limit)
   rw [← h3,if_neg hf]
  ·rintro k rfl
   rw [← h4]
   show tL m limit k=(if oL limit (fO m (k + 1))=true then (fO m (k + 1),(dA (fO m (k + 1))).1,0) else tL m limit k)
   rw [← h3,if_neg hf]
 ·cases h1
def JA (b1:Nat) (a:Act) (w:World):Nat:=match a.tmps.getD 7 undef with
 | .bool true=>0
 | _=>match w.heap[b1]? with
   | some (.cells cs _ _)=>1 + FO (cs[11]?.getD undef)
   | _=>0
theorem BT {b1:Nat} {a:Act} {w:World} {cs:List Value} {ty:TypeId} {fr:Nat × Nat} {v:Value} (h7:a.tmps.getD 7 undef=.bool false) (h:w.heap[b1]? = some (.cells cs.toArray ty fr)) (hv:cs[11]?.getD undef=v):JA b1 a w=1 + FO v:=by
 unfold JA
 rw [h7,h,← hv]
 simp
theorem FZ {b1:Nat} {a:Act} {w:World} {mm:MsgR} {q a2 u e:Value} {ty:TypeId} {fr:Nat × Nat} (h7:a.tmps.getD 7 undef=.bool false) (h:w.heap[b1]? = some (.cells (aW mm q a2 u e).toArray ty fr)):JA b1 a w=1 + FO e:=BT h7 h rfl
theorem Own.cut0 {B k e:Nat} {w:World} {v:Value} {es:List (List Value)} (h:Own B k e w v es) {n:Nat} (hn:n≤es.length):Own B k e w (dU v k 0 n) (es.take n):=by
 rcases h.form with ⟨rfl,rfl⟩ | ⟨g,cap,rfl,_⟩
 ·have:n=0:=by simpa using hn
  subst this
  simpa [dU] using h
 ·have:=h.short hn
  simpa [dU,Addr.add] using this
section
variable {P:Program} {a:Act} {w:World} {d:Option Nat} {ty:TypeId} {ps:String} {af:Array Edge} {g:Option (Nat × Bool)}
theorem lR {P:Program} {fn:Func} {ts:List Value} {w:World} {p q r:Tmp} {t:TypeId} (h:fn.results=#[.cell p t, .tmp q, .tmp r]) {b:Nat} {cs:List Value} {ty0:TypeId} {fr:Nat × Nat} (hp:ts.getD p undef=.pointer (some ⟨b,0,none⟩)) (hb:w.heap[b]? = some (.cells cs.toArray ty0 fr)) (ht:cP P t cs.length=true) :
 (results fn ts.toArray).run P w=.ok (.tuple #[.agg cs.toArray,ts.getD q undef,ts.getD r undef]) w:=by
 obtain ⟨u,ie,hu,hn,hie,hz⟩:=nF ht
 have hl:=run_loadCells_list (P:=P) w ⟨b,0,none⟩ cs (fun j v hv=>by rw [dW,Nat.zero_add,cell_of_row w b j _ _ _ hb];simpa using hv)
 have hp':ts[p]?.getD undef=.pointer (some ⟨b,0,none⟩):=by simpa using hp
 simp [results,h,hp',asAddr,loadVar,Sem.run_bind,mM hu hn,sizeOf,typeInfo,hie,hz,hl,Result.andThen]
end
set_option maxHeartbeats 2000000 in
theorem VK (m:MsgR) (q a u e:Value) (limit:Int) (w:World) (hm:MsgV w m q a u e):Calls Tryz.prog 37 #[.agg (aW m q a u e).toArray, .int .i64 limit] w (oA w (NX w (zY m limit))):=by
 have hF:dH m=0∧1≤limit∧limit≤65535→tL m limit m.ex.length=zY m limit:=fun cc=>by unfold zY;rw [if_neg (by omega)]
 have hF2:¬ (dH m=0∧1≤limit∧limit≤65535)→zY m limit=(zeroM,[],1):=fun cc=>by unfold zY;rw [if_pos (by omega)]
 generalize zY m limit=RES at *
 go_enter Tryz.func37,Tryz.ntmps37
 refine_lift lF fun _ _ => ?_
 refine eK (vs:=aW m q a u e) rfl rfl ?_
 intro w1 x1 s1 hb1
 refine aA ?_
 refine aL (z:=gO) rfl (by decide +kernel) ?_
 intro w2 x2 s2 hz2
 refine aA ?_
 have x02:=x1.trans x2
 have hb2:=x2.at hb1
 have hpM:=aE (cs:=aW m q a u e) hb2
 unfold aW at hpM
 have hm2:=hm.ext x02
 have hbb:w.heap.size≠w1.heap.size:=by omega
 have hw1:w.heap.size≤w1.heap.size:=by omega
 have hB1:w.heap.size < w2.heap.size:=by omega
 have hB2:w1.heap.size < w2.heap.size:=by omega
 have hBw:∀ k,w2.heap.size≤k→w.heap.size≤k:=fun k h=>by omega
 refine_lift bG ?_
 generalize hb1e:w.heap.size=b1 at *
 generalize hb2e:w1.heap.size=b2 at *
 generalize hBe:w2.heap.size=B at *
 refine zT 0 (fun a' wr=>∃ (cut:Bool) (n:Nat) (mm:MsgR) (q' a2 u2 e2 u8 u9 u10 u11 u12 u13 u14 u15 u16 u17 u18 u19 u20 u21 u22 u23 u24 u25 u26 u27 u28 u29 u30 u31 u32 u33 u34 u35 u36 u37 u38 u39 u40 u41 u42 u43 u44 u45 u46 u47 u48 u49 u50 u51 u52 u53 u54 u55 u56 u57 u58 u59 u60 u61 u62 u63 u64 u65 u66 u67 u68 u69 u70 u71 u72 u73:Value),a'=Act.mk [.agg (aW m q a u e).toArray, .int .i64 limit, .pointer (some ⟨b1,0,none⟩),undef, .pointer (some ⟨b2,0,none⟩),aI [], .int .i64 0, .bool cut,u8,u9,u10,u11,u12,u13,u14,u15,u16,u17,u18,u19,u20,u21,u22,u23,u24,u25,u26,u27,u28,u29,u30,u31,u32,u33,u34,u35,u36,u37,u38,u39,u40,u41,u42,u43,u44,u45,u46,u47,u48,u49,u50,u51,u52,u53,u54,u55,u56,u57,u58,u59,u60,u61,u62,u63,u64,u65,u66,u67,u68,u69,u70,u71,u72,u73].toArray []∧FitIn w B b1 b2 m limit RES cut n mm q' a2 u2 e2 wr) (JA b1) rfl ?_ ?_
 ·rintro a' wr ⟨cut,n,mm,q',a2,u2,e2,u8,u9,u10,u11,u12,u13,u14,u15,u16,u17,u18,u19,u20,u21,u22,u23,u24,u25,u26,u27,u28,u29,u30,u31,u32,u33,u34,u35,u36,u37,u38,u39,u40,u41,u42,u43,u44,u45,u46,u47,u48,u49,u50,u51,u52,u53,u54,u55,u56,u57,u58,u59,u60,u61,u62,u63,u64,u65,u66,u67,u68,u69,u70,u71,u72,u73,rfl,hI⟩
  have hmr:=hI.msg
  have hp1:=aE (cs:=aW mm q' a2 u2 e2) hI.blk1
  unfold aW at hp1
  refine_lift vZ ?_;intro _ _ _
  refine aD (enters_of Tryz.func23 rfl rfl) rfl rfl (tK hmr) ?_;intro w5 x5;refine aA ?_
  have hyes:=hI.yes
  have hfe:=KS (limit:=limit) (x:=mm)
  have hfd:oL limit mm=(decide ((dA mm).2=0) && decide (((dA mm).1.length:Int)≤limit)):=rfl
  have hz5:=x5.at hI.blk2
  have hb5:=x5.at hI.blk1
  have x05:=hI.ext.trans x5
  have oq5:=hI.oq.ext x5
  have oa5:=hI.oa.ext x5
  have ou5:=hI.ou.ext x5
  have oe5:=hI.oe.ext x5
  generalize dA mm=E at *
  obtain ⟨eb,ee⟩:=E
  dsimp only at *
  have hp1:=hp1.ext x5
  by_cases hfit:oL limit mm=true
  ·obtain ⟨f1,f2⟩:=hfe hfit
   subst f1
   have hR:=hyes hfit
   refine_lift LQ fun _ _ _ _ _ => ?_
   all_goals first
    | (have hh:False:=by omega
       exact hh.elim)
    | skip
   have hm5:=hmr.ext x5
   refine aG (v:=.agg (aW mm q' a2 u2 e2).toArray) rfl rfl rfl hz5 (show aR Tryz.prog 26 13=true by decide +kernel) rfl (cM hm5) ?_
   intro w6 p6
   have x6:Ext w w6:=x05.move p6.mv (by rintro k ⟨⟩;omega)
   refine_lift bG ?_
   (try simp only [Exit.inBlock,Exit.then,Exit.jump])
   refine bodyPost_ret (lR (cs:=aW mm q' a2 u2 e2) rfl rfl p6.this (show cP Tryz.prog 26 13=true by decide +kernel)) rfl ⟨_,rfl,x6,?_⟩
   rw [hR]
   exact ⟨q',a2,u2,e2,rfl,(oq5.mv p6.mv (.inr (oq5.neBlock hz5 (by decide)))).sl,(oa5.mv p6.mv (.inr (oa5.neBlock hz5 (by decide)))).sl,(ou5.mv p6.mv (.inr (ou5.neBlock hz5 (by decide)))).sl,(oe5.mv p6.mv (.inr (oe5.neBlock hz5 (by decide)))).sl⟩
  ·cases cut with
   | true =>
    have hE:=hI.end_ hfit
    have hnf:¬ (ee=0∧(eb.length:Int)≤limit):=by rintro ⟨h1,h2⟩;exact hfit (by rw [hfd];simp [h1,h2])
    refine_lift RT (fun _ _ hc _ _ => ?_) (fun _ _ hc _ _ _ => ?_)
    all_goals first
     | (have hh:False:=by omega
        exact hh.elim)
     | skip
    all_goals refine aT (v:=.agg gO.toArray) (Runs.build0 (by kernel_rfl)) ?_
    all_goals refine aA ?_
    all_goals refine aG (v:=.agg gO.toArray) rfl rfl rfl hz5 (show aR Tryz.prog 26 13=true by decide +kernel) rfl (by decide +kernel) ?_
    all_goals intro w6 p6
    all_goals have x6:Ext w w6:=x05.move p6.mv (by rintro k ⟨⟩;omega)
    all_goals refine_lift bG ?_
    all_goals (try simp only [Exit.inBlock,Exit.then,Exit.jump])
    all_goals refine bodyPost_ret (lR (cs:=gO) rfl rfl p6.this (by decide +kernel)) rfl ⟨_,rfl,x6,?_⟩
    all_goals rw [hE]
    all_goals exact ⟨_,_,_,_,rfl,MsgV.zero _⟩
   | false =>
    obtain ⟨hmm,hnl,hn0,hn1⟩:=hI.on hfit
    have hnf:¬ (ee=0∧(eb.length:Int)≤limit):=by rintro ⟨h1,h2⟩;exact hfit (by rw [hfd];simp [h1,h2])
    have hrl:=aQ mm.ex
    have hel:mm.ex.length=n:=by rw [hmm];show (m.ex.take n).length=n;rw [List.length_take];omega
    have hse:=oe5.sl
    by_cases hn:n=0
    ·have hEn:=hn0 hn
     refine_lift WE (fun _ _ hc _ _ _ => ?_) (fun _ _ hc _ _ _ _ => ?_)
     all_goals first
      | (have hh:False:=by omega
         exact hh.elim)
      | skip
     all_goals (
      refine aM (n:=4) (v:=.bool true) hb5 rfl rfl rfl (by simp [aW]) (by decide +kernel) rfl ?_
      intro w6 p6
      have hb6:w6.heap[b1]? = some (.cells [.int .i64 mm.id, .bool mm.resp, .int .i64 mm.op, .bool mm.auth, .bool true, .bool mm.want, .bool mm.avail, .int .i64 mm.rcode,q',a2,u2,e2, .int .i64 mm.size].toArray 26 (0,0)):=p6.this
      refine_lift bG ?_
      refine aM (n:=9) (v:=aH) hb6 rfl rfl rfl (by simp) (by decide +kernel) rfl ?_
      intro w7 p7
      have hb7:w7.heap[b1]? = some (.cells [.int .i64 mm.id, .bool mm.resp, .int .i64 mm.op, .bool mm.auth, .bool true, .bool mm.want, .bool mm.avail, .int .i64 mm.rcode,q',aH,u2,e2, .int .i64 mm.size].toArray 26 (0,0)):=p7.this
      refine_lift bG ?_
      refine aM (n:=10) (v:=aH) hb7 rfl rfl rfl (by simp) (by decide +kernel) rfl ?_
      intro w8 p8
      have hb8:w8.heap[b1]? = some (.cells [.int .i64 mm.id, .bool mm.resp, .int .i64 mm.op, .bool mm.auth, .bool true, .bool mm.want, .bool mm.avail, .int .i64 mm.rcode,q',aH,aH,e2, .int .i64 mm.size].toArray 26 (0,0)):=p8.this
      refine_lift bG ?_
      refine aM (n:=11) (v:=aH) hb8 rfl rfl rfl (by simp) (by decide +kernel) rfl ?_
      intro w9 p9
      have hb9:w9.heap[b1]? = some (.cells [.int .i64 mm.id, .bool mm.resp, .int .i64 mm.op, .bool mm.auth, .bool true, .bool mm.want, .bool mm.avail, .int .i64 mm.rcode,q',aH,aH,aH, .int .i64 mm.size].toArray 26 (0,0)):=p9.this
      have m69:Mv (some b1) w5 w9:=((p6.mv.trans p7.mv).trans p8.mv).trans p9.mv
      have oq9:=oq5.mv m69 (.inr (oq5.neBlock hb5 (by decide)))
      have hz9:=m69.at hz5 (by intro e9;exact hbb (Option.some.inj e9).symm)
      have x9:Ext w w9:=x05.move m69 (by rintro k ⟨⟩;omega)
      refine_lift bG ?_
      go_step3
      (try simp only [Exit.inBlock,Exit.then,Exit.jump])
      refine ⟨rfl,⟨true,0,NW m,q',aH,aH,aH,_,_,_,_,_,_,_,_,_,_,_,_,_,_,_,_,_,_,_,_,_,_,_,_,_,_,_,_,_,_,_,_,_,_,_,_,_,_,_,_,_,_,_,_,_,_,_,_,_,_,_,_,_,_,_,_,_,_,_,_,_,_,_,_,_,_,rfl,⟨?_,hz9,x9,?_,Own.nil _ _ _ _,Own.nil _ _ _ _,Own.nil _ _ _ _,hI.len, .inr ⟨rfl,rfl,hEn⟩⟩⟩,?_⟩
      ·rw [hb9,hmm];rfl
      ·rw [hmm] at oq9;exact oq9
      ·rw [FZ rfl hI.blk1]
       show 0 < _
       omega)
    ·obtain ⟨k,rfl⟩:∃ k,n=k + 1:=⟨n - 1,by omega⟩
     have hEn:=hn1 k rfl
     have hlen:=hI.len
     refine_lift WB (fun _ _ hc _ => ?_) (fun _ _ hc _ _ => ?_)
     all_goals first
      | (have hh:False:=by omega
         exact hh.elim)
      | skip
     all_goals (
      rw [show (((aO mm.ex).length:Int) - 1).toNat=k by omega]
      have oc5:=oe5.cut0 (n:=k) (by omega)
      refine aM (n:=11) (v:=dU e2 4 0 k) hb5 rfl rfl rfl (by simp [aW]) (by decide +kernel) oc5.one ?_
      intro w6 p6
      have hb6:w6.heap[b1]? = some (.cells [.int .i64 mm.id, .bool mm.resp, .int .i64 mm.op, .bool mm.auth, .bool mm.trunc, .bool mm.want, .bool mm.avail, .int .i64 mm.rcode,q',a2,u2,dU e2 4 0 k, .int .i64 mm.size].toArray 26 (0,0)):=p6.this
      have m69:=p6.mv
      have oq9:=oq5.mv m69 (.inr (oq5.neBlock hb5 (by decide)))
      have oa9:=oa5.mv m69 (.inr (oa5.neBlock hb5 (by decide)))
      have ou9:=ou5.mv m69 (.inr (ou5.neBlock hb5 (by decide)))
      have oe9:=oc5.mv m69 (.inr (oc5.neBlock hb5 (by decide)))
      have hz9:=m69.at hz5 (by intro e9;exact hbb (Option.some.inj e9).symm)
      have x9:Ext w w6:=x05.move m69 (by rintro k ⟨⟩;omega)
      have hex:(aO mm.ex).take k=aO (fO m k).ex:=by
       rw [hmm]
       simp only [fO,aO,← List.map_take,List.take_take]
       rw [show min k (k + 1)=k by omega]
      rw [hex] at oe9
      refine_lift bG ?_
      go_step3
      (try simp only [Exit.inBlock,Exit.then,Exit.jump])
      refine ⟨rfl,⟨false,k,fO m k,q',a2,u2,dU e2 4 0 k,_,_,_,_,_,_,_,_,_,_,_,_,_,_,_,_,_,_,_,_,_,_,_,_,_,_,_,_,_,_,_,_,_,_,_,_,_,_,_,_,_,_,_,_,_,_,_,_,_,_,_,_,_,_,_,_,_,_,_,_,_,_,_,_,_,_,rfl,⟨?_,hz9,x9,?_,?_,?_,oe9,hI.len, .inl ⟨rfl,by omega,rfl,hEn⟩⟩⟩,?_⟩
      ·rw [hb6,hmm];rfl
      ·rw [hmm] at oq9;exact oq9
      ·rw [hmm] at oa9;exact oa9
      ·rw [hmm] at ou9;exact ou9
      ·rw [FZ rfl hI.blk1,BT rfl hb6 rfl]
       show 1 + FO (dU e2 4 0 k) < _
       rw [hse.slLen,oe9.sl.slLen,aQ,aQ]
       have:(fO m k).ex.length=k:=by show (m.ex.take k).length=k;rw [List.length_take];omega
       omega)
 ·intro hp
  refine_lift LQ ?_;intro _ _ _ _ _
  refine aD (enters_of Tryz.func21 rfl rfl) rfl rfl (yU m q a u e _ hm2) ?_;intro w3 x3;refine aA ?_
  have x03:=x02.trans x3
  have hz3:=x3.at hz2
  have hb3:=x3.at hb2
  have hpM:=hpM.ext x3
  have hm3:=hm2.ext x3
  by_cases cc:dH m=0∧1≤limit∧limit≤65535
  ·have hok:=qN cc.1
   have hRE:=hF cc
   obtain ⟨c1,c2,c3⟩:=cc
   have hql:=hok.ql
   have hnl:=hok.nl
   have hul:=hok.ul
   have hel:=hok.el
   refine_lift UI (fun hc hc _ _ => ?_) (fun hc _ _ => ?_) (fun hc hc _ _ _ => ?_)
   all_goals first
    | (have hh:False:=by omega
       exact hh.elim)
    | (have hh:False:=by
        have h9:=‹(!decide (dH m=0))=true›
        rw [decide_eq_true c1] at h9
        cases h9
       exact hh.elim)
    | skip
   refine bV 5 (Ext w3) (by decide +kernel) ?_
   intro w21 x21 _
   refine ⟨x21,?_⟩
   refine cV 0 ?_;refine cV 1 ?_;refine cV 3 ?_;refine cV 4 ?_
   refine bE (i:=2) (by decide +kernel) rfl rfl ?_
   refine aK (enters_of Tryz.func62 rfl rfl) rfl rfl (FX q m.qs _ (hm3.qs.ext x21) (by omega)) ?_
   intro qv w22 x22 oqv
   refine aA ?_
   refine aJ ⟨cC (x21.trans x22),?_⟩
   refine zL 6 ?_
   refine bE (i:=5) (by decide +kernel) rfl rfl ?_
   refine aK (enters_of Tryz.func67 rfl rfl) rfl rfl (tB a m.an _ (hm3.an.ext (x21.trans x22)) (by omega)) ?_
   intro av w23 x23 oav
   refine aA ?_
   have y21:=(x21.trans x22).trans x23
   have hB21:=y21.at hb3
   refine aJ ⟨bT rfl,?_⟩
   refine bE (i:=7) (by decide +kernel) rfl rfl ?_
   refine aM (n:=8) (v:=qv) hB21 rfl rfl rfl (by simp [aW]) (by decide +kernel) oqv.one ?_
   intro w24 p24
   have hB24:w24.heap[b1]? = some (.cells [.int .i64 m.id, .bool m.resp, .int .i64 m.op, .bool m.auth, .bool m.trunc, .bool m.want, .bool m.avail, .int .i64 m.rcode,qv,a,u,e, .int .i64 m.size].toArray 26 (0,0)):=p24.this
   refine aJ ⟨bT rfl,?_⟩
   refine zL 8 ?_
   refine bE (i:=9) (by decide +kernel) rfl rfl ?_
   refine aM (n:=9) (v:=av) hB24 rfl rfl rfl (by simp) (by decide +kernel) oav.one ?_
   intro w25 p25
   have hB25:w25.heap[b1]? = some (.cells [.int .i64 m.id, .bool m.resp, .int .i64 m.op, .bool m.auth, .bool m.trunc, .bool m.want, .bool m.avail, .int .i64 m.rcode,qv,av,u,e, .int .i64 m.size].toArray 26 (0,0)):=p25.this
   refine aJ ⟨bT rfl,?_⟩
   refine cN (by decide +kernel) ?_
   have mv21:=p24.mv.trans p25.mv
   have x025:Ext w w25:=(x03.trans y21).move mv21 (by rintro k ⟨⟩;omega)
   have oq25:=(oqv.ext x23).mv mv21 (.inr ((oqv.ext x23).neBlock hB21 (by decide)))
   have oa25:=oav.mv mv21 (.inr (oav.neBlock hB21 (by decide)))
   have hp25:=aE (cs:=[.int .i64 m.id, .bool m.resp, .int .i64 m.op, .bool m.auth, .bool m.trunc, .bool m.want, .bool m.avail, .int .i64 m.rcode,qv,av,u,e, .int .i64 m.size]) hB25
   have hz25:=mv21.at (y21.at hz3) (by intro e9;exact hbb (Option.some.inj e9).symm)
   have hmu:=hm.au.ext x025
   have hme:=hm.ex.ext x025
   clear hpM
   refine_lift dJ fun _ _ => ?_
   refine bV 5 (Ext w25) (by decide +kernel) ?_
   intro w31 x31 _
   refine ⟨x31,?_⟩
   refine cV 0 ?_;refine cV 1 ?_;refine cV 3 ?_;refine cV 4 ?_
   refine bE (i:=2) (by decide +kernel) rfl rfl ?_
   refine aK (enters_of Tryz.func67 rfl rfl) rfl rfl (tB u m.au _ (hmu.ext x31) (by omega)) ?_
   intro uv w32 x32 ouv
   refine aA ?_
   refine aJ ⟨cC (x31.trans x32),?_⟩
   refine zL 6 ?_
   refine bE (i:=5) (by decide +kernel) rfl rfl ?_
   refine aK (enters_of Tryz.func67 rfl rfl) rfl rfl (tB e m.ex _ (hme.ext (x31.trans x32)) (by omega)) ?_
   intro ev w33 x33 oev
   refine aA ?_
   have y31:=(x31.trans x32).trans x33
   have hB31:=y31.at hB25
   refine aJ ⟨bT rfl,?_⟩
   refine bE (i:=7) (by decide +kernel) rfl rfl ?_
   refine aM (n:=10) (v:=uv) hB31 rfl rfl rfl (by simp [aW]) (by decide +kernel) ouv.one ?_
   intro w34 p34
   have hB34:w34.heap[b1]? = some (.cells [.int .i64 m.id, .bool m.resp, .int .i64 m.op, .bool m.auth, .bool m.trunc, .bool m.want, .bool m.avail, .int .i64 m.rcode,qv,av,uv,e, .int .i64 m.size].toArray 26 (0,0)):=p34.this
   refine aJ ⟨bT rfl,?_⟩
   refine zL 8 ?_
   refine bE (i:=9) (by decide +kernel) rfl rfl ?_
   refine aM (n:=11) (v:=ev) hB34 rfl rfl rfl (by simp) (by decide +kernel) oev.one ?_
   intro w35 p35
   have hB35:w35.heap[b1]? = some (.cells [.int .i64 m.id, .bool m.resp, .int .i64 m.op, .bool m.auth, .bool m.trunc, .bool m.want, .bool m.avail, .int .i64 m.rcode,qv,av,uv,ev, .int .i64 m.size].toArray 26 (0,0)):=p35.this
   refine aJ ⟨bT rfl,?_⟩
   refine cN (by decide +kernel) ?_
   have mv31:=p34.mv.trans p35.mv
   have x035:Ext w w35:=(x025.trans y31).move mv31 (by rintro k ⟨⟩;omega)
   have oq35:=(oq25.ext y31).mv mv31 (.inr ((oq25.ext y31).neBlock hB31 (by decide)))
   have oa35:=(oa25.ext y31).mv mv31 (.inr ((oa25.ext y31).neBlock hB31 (by decide)))
   have ou35:=(ouv.ext x33).mv mv31 (.inr ((ouv.ext x33).neBlock hB31 (by decide)))
   have oe35:=oev.mv mv31 (.inr (oev.neBlock hB31 (by decide)))
   have hz35:=mv31.at (y31.at hz25) (by intro e9;exact hbb (Option.some.inj e9).symm)
   have hk3:B≤w3.heap.size:=by have:=x3.size;omega
   have hk21:B≤w21.heap.size:=by have:=x21.size;omega
   have hk22:B≤w22.heap.size:=by have:=x22.size;omega
   have hk25:B≤w25.heap.size:=by have:=x23.size;have:=mv21.size;omega
   have hk31:B≤w31.heap.size:=by have:=x31.size;omega
   have hk32:B≤w32.heap.size:=by have:=x32.size;omega
   have hwm:fO m m.ex.length=m:=by unfold fO;rw [List.take_length]
   refine_lift dJ fun _ _ => ?_
   go_step3
   (first | ((with_reducible refine cY ?_);go_step) | fail)
   (first | ((with_reducible refine cY ?_);go_step) | fail)
   refine hp _ _ ?_
   refine ⟨false,m.ex.length,m,qv,av,uv,ev,_,_,_,_,_,_,_,_,_,_,_,_,_,_,_,_,_,_,_,_,_,_,_,_,_,_,_,_,_,_,_,_,_,_,_,_,_,_,_,_,_,_,_,_,_,_,_,_,_,_,_,_,_,_,_,_,_,_,_,_,_,_,_,_,_,_,rfl,hB35,hz35,x035,oq35.weaken hk21,oa35.weaken hk22,ou35.weaken hk31,oe35.weaken hk32,by omega, .inl ⟨rfl,Nat.le_refl _,hwm.symm,hRE⟩⟩
  ·have hRE:=hF2 cc
   refine_lift RQ (fun hc hc _ _ _ => ?_) (fun hc hc _ _ => ?_) (fun hc _ _ => ?_) (fun hc hc _ _ _ => ?_)
   all_goals first
    | (have hh:False:=by omega
       exact hh.elim)
    | (have hh:False:=by
        have h9:=‹(!decide (dH m=0))=false›
        simp only [Bool.not_eq_false',decide_eq_true_eq] at h9
        omega
       exact hh.elim)
    | skip
   all_goals (
    refine aT (v:=.agg gO.toArray) (Runs.build0 (by kernel_rfl)) ?_
    refine aA ?_
    refine aG (v:=.agg gO.toArray) rfl rfl rfl hz3 (show aR Tryz.prog 26 13=true by decide +kernel) rfl (by decide +kernel) ?_
    intro w6 p6
    have x6:Ext w w6:=x03.move p6.mv (by rintro k ⟨⟩;omega)
    refine_lift bG ?_
    (try simp only [Exit.inBlock,Exit.then,Exit.jump])
    refine bodyPost_ret (lR (cs:=gO) rfl rfl p6.this (by decide +kernel)) rfl ⟨_,rfl,x6,?_⟩
    rw [hRE]
    exact ⟨_,_,_,_,rfl,MsgV.zero _⟩)
end Go.Proofs.X
set_option linter.unusedSimpArgs false
set_option linter.unusedVariables false
namespace Go.Proofs.X
open Go.RowKit
end Go.Proofs.X
set_option linter.unusedSimpArgs false
set_option linter.unusedVariables false
namespace Go.Proofs.X
open Go.RowKit
end Go.Proofs.X
set_option linter.unusedSimpArgs false
set_option linter.unusedVariables false
namespace Go.Proofs.X
open Go.RowKit
set_option maxRecDepth 100000
section
variable {P:Program} {w w':World} {a:Act} {d:Option Nat} {ty:TypeId} {ps:String} {af:Array Edge} {g:Option (Nat × Bool)}
theorem Runs.lenW {x:Operand} {t k:Nat} {es:List (List Value)} (h:Sl k w' (a.eval x) es) (ht:fC P t k=true) :
 Runs P (Oper.mk d (.call ⟨.builtin .len,#[x],#[t]⟩) ty ps af g) a w (.int .i64 es.length):=by
 obtain ⟨ad,cap,h1,_⟩:=h
 obtain ⟨e,i,ht,_⟩:=eT ht
 constructor
 simp [execOp,resolve,invoke,builtin,h1,Builtin.len_,run_underlying ht,goInt]
end
section
variable {P:Program} {Q:Exit→Act→World→Prop} {S:World→Prop} {l:List Oper} {ts:List Value} {df:List Deferred} {w:World} {fuel:Nat} {listed:List Bool}
theorem NY (i1 i2 i3 i4 i5 i6 i7 i8 i9 i10 i11:Nat) (d1 d2 d3 d4 d5 d6 d7 d8 d9 d10:Nat) (c q1 q2 q3 q4 q5 q6 q7 q8 q9 q10 q11:Bool→Bool→Bool→Bool→Bool→Bool→Bool→Bool→Bool→Bool→Bool→Bool) (F:Bool→Bool→Bool→Bool→Bool→Bool→Bool→Bool→Bool→Bool→Bool→Value→Value→Value→Value→Value→Value→Value→Value→Value→Value→World→Prop)
 {fuel2:Nat} {o1 o2 o3 o4 o5 o6 o7 o8 o9 o10 o11:Oper}
 (hF:F false false false false false false false false false false false (List.getD ts d1 undef) (List.getD ts d2 undef) (List.getD ts d3 undef) (List.getD ts d4 undef) (List.getD ts d5 undef) (List.getD ts d6 undef) (List.getD ts d7 undef) (List.getD ts d8 undef) (List.getD ts d9 undef) (List.getD ts d10 undef) w)
 (h1:∀ b1 b2 b3 b4 b5 b6 b7 b8 b9 b10 b11:Bool,∀ v1 v2 v3 v4 v5 v6 v7 v8 v9 v10:Value,∀ w1:World,(q1 false b2 b3 b4 b5 b6 b7 b8 b9 b10 b11 && c false b2 b3 b4 b5 b6 b7 b8 b9 b10 b11)=true→F false b2 b3 b4 b5 b6 b7 b8 b9 b10 b11 v1 v2 v3 v4 v5 v6 v7 v8 v9 v10 w1→wpList P l.toArray (oM Q fun a w2=>S w2∧∃ u,a=Act.mk (List.set (List.set (List.set (List.set (List.set (List.set (List.set (List.set (List.set (List.set ts d1 u) d2 v2) d3 v3) d4 v4) d5 v5) d6 v6) d7 v7) d8 v8) d9 v9) d10 v10).toArray df∧F true b2 b3 b4 b5 b6 b7 b8 b9 b10 b11 u v2 v3 v4 v5 v6 v7 v8 v9 v10 w2) [o1] (Act.mk (List.set (List.set (List.set (List.set (List.set (List.set (List.set (List.set (List.set (List.set ts d1 v1) d2 v2) d3 v3) d4 v4) d5 v5) d6 v6) d7 v7) d8 v8) d9 v9) d10 v10).toArray df) w1)
 (h2:∀ b1 b2 b3 b4 b5 b6 b7 b8 b9 b10 b11:Bool,∀ v1 v2 v3 v4 v5 v6 v7 v8 v9 v10:Value,∀ w1:World,(q2 b1 false b3 b4 b5 b6 b7 b8 b9 b10 b11 && c b1 false b3 b4 b5 b6 b7 b8 b9 b10 b11)=true→F b1 false b3 b4 b5 b6 b7 b8 b9 b10 b11 v1 v2 v3 v4 v5 v6 v7 v8 v9 v10 w1→wpList P l.toArray (oM Q fun a w2=>S w2∧∃ u,a=Act.mk (List.set (List.set (List.set (List.set (List.set (List.set (List.set (List.set (List.set (List.set ts d1 v1) d2 u) d3 v3) d4 v4) d5 v5) d6 v6) d7 v7) d8 v8) d9 v9) d10 v10).toArray df∧F b1 true b3 b4 b5 b6 b7 b8 b9 b10 b11 v1 u v3 v4 v5 v6 v7 v8 v9 v10 w2) [o2] (Act.mk (List.set (List.set (List.set (List.set (List.set (List.set (List.set (List.set (List.set (List.set ts d1 v1) d2 v2) d3 v3) d4 v4) d5 v5) d6 v6) d7 v7) d8 v8) d9 v9) d10 v10).toArray df) w1)
 (h3:∀ b1 b2 b3 b4 b5 b6 b7 b8 b9 b10 b11:Bool,∀ v1 v2 v3 v4 v5 v6 v7 v8 v9 v10:Value,∀ w1:World,(q3 b1 b2 false b4 b5 b6 b7 b8 b9 b10 b11 && c b1 b2 false b4 b5 b6 b7 b8 b9 b10 b11)=true→F b1 b2 false b4 b5 b6 b7 b8 b9 b10 b11 v1 v2 v3 v4 v5 v6 v7 v8 v9 v10 w1→wpList P l.toArray (oM Q fun a w2=>S w2∧∃ u,a=Act.mk (List.set (List.set (List.set (List.set (List.set (List.set (List.set (List.set (List.set (List.set ts d1 v1) d2 v2) d3 u) d4 v4) d5 v5) d6 v6) d7 v7) d8 v8) d9 v9) d10 v10).toArray df∧F b1 b2 true b4 b5 b6 b7 b8 b9 b10 b11 v1 v2 u v4 v5 v6 v7 v8 v9 v10 w2) [o3] (Act.mk (List.set (List.set (List.set (List.set (List.set (List.set (List.set (List.set (List.set (List.set ts d1 v1) d2 v2) d3 v3) d4 v4) d5 v5) d6 v6) d7 v7) d8 v8) d9 v9) d10 v10).toArray df) w1)
 (h4:∀ b1 b2 b3 b4 b5 b6 b7 b8 b9 b10 b11:Bool,∀ v1 v2 v3 v4 v5 v6 v7 v8 v9 v10:Value,∀ w1:World,(q4 b1 b2 b3 false b5 b6 b7 b8 b9 b10 b11 && c b1 b2 b3 false b5 b6 b7 b8 b9 b10 b11)=true→F b1 b2 b3 false b5 b6 b7 b8 b9 b10 b11 v1 v2 v3 v4 v5 v6 v7 v8 v9 v10 w1→wpList P l.toArray (oM Q fun a w2=>S w2∧∃ u,a=Act.mk (List.set (List.set (List.set (List.set (List.set (List.set (List.set (List.set (List.set (List.set ts d1 v1) d2 v2) d3 v3) d4 u) d5 v5) d6 v6) d7 v7) d8 v8) d9 v9) d10 v10).toArray df∧F b1 b2 b3 true b5 b6 b7 b8 b9 b10 b11 v1 v2 v3 u v5 v6 v7 v8 v9 v10 w2) [o4] (Act.mk (List.set (List.set (List.set (List.set (List.set (List.set (List.set (List.set (List.set (List.set ts d1 v1) d2 v2) d3 v3) d4 v4) d5 v5) d6 v6) d7 v7) d8 v8) d9 v9) d10 v10).toArray df) w1)
 (h5:∀ b1 b2 b3 b4 b5 b6 b7 b8 b9 b10 b11:Bool,∀ v1 v2 v3 v4 v5 v6 v7 v8 v9 v10:Value,∀ w1:World,(q5 b1 b2 b3 b4 false b6 b7 b8 b9 b10 b11 && c b1 b2 b3 b4 false b6 b7 b8 b9 b10 b11)=true→F b1 b2 b3 b4 false b6 b7 b8 b9 b10 b11 v1 v2 v3 v4 v5 v6 v7 v8 v9 v10 w1→wpList P l.toArray (oM Q fun a w2=>S w2∧∃ u,a=Act.mk (List.set (List.set (List.set (List.set (List.set (List.set (List.set (List.set (List.set (List.set ts d1 v1) d2 v2) d3 v3) d4 v4) d5 u) d6 v6) d7 v7) d8 v8) d9 v9) d10 v10).toArray df∧F b1 b2 b3 b4 true b6 b7 b8 b9 b10 b11 v1 v2 v3 v4 u v6 v7 v8 v9 v10 w2) [o5] (Act.mk (List.set (List.set (List.set (List.set (List.set (List.set (List.set (List.set (List.set (List.set ts d1 v1) d2 v2) d3 v3) d4 v4) d5 v5) d6 v6) d7 v7) d8 v8) d9 v9) d10 v10).toArray df) w1)
 (h6:∀ b1 b2 b3 b4 b5 b6 b7 b8 b9 b10 b11:Bool,∀ v1 v2 v3 v4 v5 v6 v7 v8 v9 v10:Value,∀ w1:World,(q6 b1 b2 b3 b4 b5 false b7 b8 b9 b10 b11 && c b1 b2 b3 b4 b5 false b7 b8 b9 b10 b11)=true→F b1 b2 b3 b4 b5 false b7 b8 b9 b10 b11 v1 v2 v3 v4 v5 v6 v7 v8 v9 v10 w1→wpList P l.toArray (oM Q fun a w2=>S w2∧∃ u,a=Act.mk (List.set (List.set (List.set (List.set (List.set (List.set (List.set (List.set (List.set (List.set ts d1 v1) d2 v2) d3 v3) d4 v4) d5 v5) d6 u) d7 v7) d8 v8) d9 v9) d10 v10).toArray df∧F b1 b2 b3 b4 b5 true b7 b8 b9 b10 b11 v1 v2 v3 v4 v5 u v7 v8 v9 v10 w2) [o6] (Act.mk (List.set (List.set (List.set (List.set (List.set (List.set (List.set (List.set (List.set (List.set ts d1 v1) d2 v2) d3 v3) d4 v4) d5 v5) d6 v6) d7 v7) d8 v8) d9 v9) d10 v10).toArray df) w1)
 (h7:∀ b1 b2 b3 b4 b5 b6 b7 b8 b9 b10 b11:Bool,∀ v1 v2 v3 v4 v5 v6 v7 v8 v9 v10:Value,∀ w1:World,(q7 b1 b2 b3 b4 b5 b6 false b8 b9 b10 b11 && c b1 b2 b3 b4 b5 b6 false b8 b9 b10 b11)=true→F b1 b2 b3 b4 b5 b6 false b8 b9 b10 b11 v1 v2 v3 v4 v5 v6 v7 v8 v9 v10 w1→wpList P l.toArray (oM Q fun a w2=>S w2∧∃ u,a=Act.mk (List.set (List.set (List.set (List.set (List.set (List.set (List.set (List.set (List.set (List.set ts d1 v1) d2 v2) d3 v3) d4 v4) d5 v5) d6 v6) d7 u) d8 v8) d9 v9) d10 v10).toArray df∧F b1 b2 b3 b4 b5 b6 true b8 b9 b10 b11 v1 v2 v3 v4 v5 v6 u v8 v9 v10 w2) [o7] (Act.mk (List.set (List.set (List.set (List.set (List.set (List.set (List.set (List.set (List.set (List.set ts d1 v1) d2 v2) d3 v3) d4 v4) d5 v5) d6 v6) d7 v7) d8 v8) d9 v9) d10 v10).toArray df) w1)
 (h8:∀ b1 b2 b3 b4 b5 b6 b7 b8 b9 b10 b11:Bool,∀ v1 v2 v3 v4 v5 v6 v7 v8 v9 v10:Value,∀ w1:World,(q8 b1 b2 b3 b4 b5 b6 b7 false b9 b10 b11 && c b1 b2 b3 b4 b5 b6 b7 false b9 b10 b11)=true→F b1 b2 b3 b4 b5 b6 b7 false b9 b10 b11 v1 v2 v3 v4 v5 v6 v7 v8 v9 v10 w1→wpList P l.toArray (oM Q fun a w2=>S w2∧∃ u,a=Act.mk (List.set (List.set (List.set (List.set (List.set (List.set (List.set (List.set (List.set (List.set ts d1 v1) d2 v2) d3 v3) d4 v4) d5 v5) d6 v6) d7 v7) d8 u) d9 v9) d10 v10).toArray df∧F b1 b2 b3 b4 b5 b6 b7 true b9 b10 b11 v1 v2 v3 v4 v5 v6 v7 u v9 v10 w2) [o8] (Act.mk (List.set (List.set (List.set (List.set (List.set (List.set (List.set (List.set (List.set (List.set ts d1 v1) d2 v2) d3 v3) d4 v4) d5 v5) d6 v6) d7 v7) d8 v8) d9 v9) d10 v10).toArray df) w1)
 (h9:∀ b1 b2 b3 b4 b5 b6 b7 b8 b9 b10 b11:Bool,∀ v1 v2 v3 v4 v5 v6 v7 v8 v9 v10:Value,∀ w1:World,(q9 b1 b2 b3 b4 b5 b6 b7 b8 false b10 b11 && c b1 b2 b3 b4 b5 b6 b7 b8 false b10 b11)=true→F b1 b2 b3 b4 b5 b6 b7 b8 false b10 b11 v1 v2 v3 v4 v5 v6 v7 v8 v9 v10 w1→wpList P l.toArray (oM Q fun a w2=>S w2∧∃ u,a=Act.mk (List.set (List.set (List.set (List.set (List.set (List.set (List.set (List.set (List.set (List.set ts d1 v1) d2 v2) d3 v3) d4 v4) d5 v5) d6 v6) d7 v7) d8 v8) d9 u) d10 v10).toArray df∧F b1 b2 b3 b4 b5 b6 b7 b8 true b10 b11 v1 v2 v3 v4 v5 v6 v7 v8 u v10 w2) [o9] (Act.mk (List.set (List.set (List.set (List.set (List.set (List.set (List.set (List.set (List.set (List.set ts d1 v1) d2 v2) d3 v3) d4 v4) d5 v5) d6 v6) d7 v7) d8 v8) d9 v9) d10 v10).toArray df) w1)
 (h10:∀ b1 b2 b3 b4 b5 b6 b7 b8 b9 b10 b11:Bool,∀ v1 v2 v3 v4 v5 v6 v7 v8 v9 v10:Value,∀ w1:World,(q10 b1 b2 b3 b4 b5 b6 b7 b8 b9 false b11 && c b1 b2 b3 b4 b5 b6 b7 b8 b9 false b11)=true→F b1 b2 b3 b4 b5 b6 b7 b8 b9 false b11 v1 v2 v3 v4 v5 v6 v7 v8 v9 v10 w1→wpList P l.toArray (oM Q fun a w2=>S w2∧∃ u,a=Act.mk (List.set (List.set (List.set (List.set (List.set (List.set (List.set (List.set (List.set (List.set ts d1 v1) d2 v2) d3 v3) d4 v4) d5 v5) d6 v6) d7 v7) d8 v8) d9 v9) d10 u).toArray df∧F b1 b2 b3 b4 b5 b6 b7 b8 b9 true b11 v1 v2 v3 v4 v5 v6 v7 v8 v9 u w2) [o10] (Act.mk (List.set (List.set (List.set (List.set (List.set (List.set (List.set (List.set (List.set (List.set ts d1 v1) d2 v2) d3 v3) d4 v4) d5 v5) d6 v6) d7 v7) d8 v8) d9 v9) d10 v10).toArray df) w1)
 (h11:∀ b1 b2 b3 b4 b5 b6 b7 b8 b9 b10 b11:Bool,∀ v1 v2 v3 v4 v5 v6 v7 v8 v9 v10:Value,∀ w1:World,(q11 b1 b2 b3 b4 b5 b6 b7 b8 b9 b10 false && c b1 b2 b3 b4 b5 b6 b7 b8 b9 b10 false)=true→F b1 b2 b3 b4 b5 b6 b7 b8 b9 b10 false v1 v2 v3 v4 v5 v6 v7 v8 v9 v10 w1→wpList P l.toArray (oM Q fun a w2=>S w2∧a=Act.mk (List.set (List.set (List.set (List.set (List.set (List.set (List.set (List.set (List.set (List.set ts d1 v1) d2 v2) d3 v3) d4 v4) d5 v5) d6 v6) d7 v7) d8 v8) d9 v9) d10 v10).toArray df∧F b1 b2 b3 b4 b5 b6 b7 b8 b9 b10 true v1 v2 v3 v4 v5 v6 v7 v8 v9 v10 w2) [o11] (Act.mk (List.set (List.set (List.set (List.set (List.set (List.set (List.set (List.set (List.set (List.set ts d1 v1) d2 v2) d3 v3) d4 v4) d5 v5) d6 v6) d7 v7) d8 v8) d9 v9) d10 v10).toArray df) w1)
 (hG:∀ v1 v2 v3 v4 v5 v6 v7 v8 v9 v10:Value,∀ w1:World,F true true true true true true true true true true true v1 v2 v3 v4 v5 v6 v7 v8 v9 v10 w1→wpAnyH P .any l.toArray Q S fuel (List.set (List.set (List.set (List.set (List.set (List.set (List.set (List.set (List.set (List.set (List.set listed i1 true) i2 true) i3 true) i4 true) i5 true) i6 true) i7 true) i8 true) i9 true) i10 true) i11 true).toArray (Act.mk (List.set (List.set (List.set (List.set (List.set (List.set (List.set (List.set (List.set (List.set ts d1 v1) d2 v2) d3 v3) d4 v4) d5 v5) d6 v6) d7 v7) d8 v8) d9 v9) d10 v10).toArray df) w1)
 (hi:l[i1]? = some o1∧l[i2]? = some o2∧l[i3]? = some o3∧l[i4]? = some o4∧l[i5]? = some o5∧l[i6]? = some o6∧l[i7]? = some o7∧l[i8]? = some o8∧l[i9]? = some o9∧l[i10]? = some o10∧l[i11]? = some o11:=by refine ⟨rfl,rfl,rfl,rfl,rfl,rfl,rfl,rfl,rfl,rfl,rfl⟩)
 (hr:(∀ b1 b2 b3 b4 b5 b6 b7 b8 b9 b10 b11:Bool,c b1 b2 b3 b4 b5 b6 b7 b8 b9 b10 b11=true→(b1 && b2 && b3 && b4 && b5 && b6 && b7 && b8 && b9 && b10 && b11)=false→(decide (0 < (Region.ready .any l.toArray (List.set (List.set (List.set (List.set (List.set (List.set (List.set (List.set (List.set (List.set (List.set listed i1 b1) i2 b2) i3 b3) i4 b4) i5 b5) i6 b6) i7 b7) i8 b8) i9 b9) i10 b10) i11 b11).toArray).length) && (Region.ready .any l.toArray (List.set (List.set (List.set (List.set (List.set (List.set (List.set (List.set (List.set (List.set (List.set listed i1 b1) i2 b2) i3 b3) i4 b4) i5 b5) i6 b6) i7 b7) i8 b8) i9 b9) i10 b10) i11 b11).toArray).all fun i=>(i == i1 && (!b1 && ((q1 false b2 b3 b4 b5 b6 b7 b8 b9 b10 b11 && c false b2 b3 b4 b5 b6 b7 b8 b9 b10 b11) && c true b2 b3 b4 b5 b6 b7 b8 b9 b10 b11))) || (i == i2 && (!b2 && ((q2 b1 false b3 b4 b5 b6 b7 b8 b9 b10 b11 && c b1 false b3 b4 b5 b6 b7 b8 b9 b10 b11) && c b1 true b3 b4 b5 b6 b7 b8 b9 b10 b11))) || (i == i3 && (!b3 && ((q3 b1 b2 false b4 b5 b6 b7 b8 b9 b10 b11 && c b1 b2 false b4 b5 b6 b7 b8 b9 b10 b11) && c b1 b2 true b4 b5 b6 b7 b8 b9 b10 b11))) || (i == i4 && (!b4 && ((q4 b1 b2 b3 false b5 b6 b7 b8 b9 b10 b11 && c b1 b2 b3 false b5 b6 b7 b8 b9 b10 b11) && c b1 b2 b3 true b5 b6 b7 b8 b9 b10 b11))) || (i == i5 && (!b5 && ((q5 b1 b2 b3 b4 false b6 b7 b8 b9 b10 b11 && c b1 b2 b3 b4 false b6 b7 b8 b9 b10 b11) && c b1 b2 b3 b4 true b6 b7 b8 b9 b10 b11))) || (i == i6 && (!b6 && ((q6 b1 b2 b3 b4 b5 false b7 b8 b9 b10 b11 && c b1 b2 b3 b4 b5 false b7 b8 b9 b10 b11) && c b1 b2 b3 b4 b5 true b7 b8 b9 b10 b11))) || (i == i7 && (!b7 && ((q7 b1 b2 b3 b4 b5 b6 false b8 b9 b10 b11 && c b1 b2 b3 b4 b5 b6 false b8 b9 b10 b11) && c b1 b2 b3 b4 b5 b6 true b8 b9 b10 b11))) || (i == i8 && (!b8 && ((q8 b1 b2 b3 b4 b5 b6 b7 false b9 b10 b11 && c b1 b2 b3 b4 b5 b6 b7 false b9 b10 b11) && c b1 b2 b3 b4 b5 b6 b7 true b9 b10 b11))) || (i == i9 && (!b9 && ((q9 b1 b2 b3 b4 b5 b6 b7 b8 false b10 b11 && c b1 b2 b3 b4 b5 b6 b7 b8 false b10 b11) && c b1 b2 b3 b4 b5 b6 b7 b8 true b10 b11))) || (i == i10 && (!b10 && ((q10 b1 b2 b3 b4 b5 b6 b7 b8 b9 false b11 && c b1 b2 b3 b4 b5 b6 b7 b8 b9 false b11) && c b1 b2 b3 b4 b5 b6 b7 b8 b9 true b11))) || (i == i11 && (!b11 && ((q11 b1 b2 b3 b4 b5 b6 b7 b8 b9 b10 false && c b1 b2 b3 b4 b5 b6 b7 b8 b9 b10 false) && c b1 b2 b3 b4 b5 b6 b7 b8 b9 b10 true))))=true):=by decide +kernel) (hc0:c false false false false false false false false false false false=true:=by rfl)
 (hf:fuel2=fuel + 11:=by rfl) (hn:i1≠i2∧i1≠i3∧i1≠i4∧i1≠i5∧i1≠i6∧i1≠i7∧i1≠i8∧i1≠i9∧i1≠i10∧i1≠i11∧i2≠i3∧i2≠i4∧i2≠i5∧i2≠i6∧i2≠i7∧i2≠i8∧i2≠i9∧i2≠i10∧i2≠i11∧i3≠i4∧i3≠i5∧i3≠i6∧i3≠i7∧i3≠i8∧i3≠i9∧i3≠i10∧i3≠i11∧i4≠i5∧i4≠i6∧i4≠i7∧i4≠i8∧i4≠i9∧i4≠i10∧i4≠i11∧i5≠i6∧i5≠i7∧i5≠i8∧i5≠i9∧i5≠i10∧i5≠i11∧i6≠i7∧i6≠i8∧i6≠i9∧i6≠i10∧i6≠i11∧i7≠i8∧i7≠i9∧i7≠i10∧i7≠i11∧i8≠i9∧i8≠i10∧i8≠i11∧i9≠i10∧i9≠i11∧i10≠i11:=by simp) (hl0:(List.set (List.set (List.set (List.set (List.set (List.set (List.set (List.set (List.set (List.set (List.set listed i1 false) i2 false) i3 false) i4 false) i5 false) i6 false) i7 false) i8 false) i9 false) i10 false) i11 false)=listed:=by rfl) (ht0:(List.set (List.set (List.set (List.set (List.set (List.set (List.set (List.set (List.set (List.set ts d1 (List.getD ts d1 undef)) d2 (List.getD ts d2 undef)) d3 (List.getD ts d3 undef)) d4 (List.getD ts d4 undef)) d5 (List.getD ts d5 undef)) d6 (List.getD ts d6 undef)) d7 (List.getD ts d7 undef)) d8 (List.getD ts d8 undef)) d9 (List.getD ts d9 undef)) d10 (List.getD ts d10 undef))=ts:=by rfl)
 : wpAnyH P .any l.toArray Q S fuel2 listed.toArray (Act.mk ts.toArray df) w:=by
 obtain ⟨e1,e2,e3,e4,e5,e6,e7,e8,e9,e10,e11⟩:=hi
 obtain ⟨n1_2,n1_3,n1_4,n1_5,n1_6,n1_7,n1_8,n1_9,n1_10,n1_11,n2_3,n2_4,n2_5,n2_6,n2_7,n2_8,n2_9,n2_10,n2_11,n3_4,n3_5,n3_6,n3_7,n3_8,n3_9,n3_10,n3_11,n4_5,n4_6,n4_7,n4_8,n4_9,n4_10,n4_11,n5_6,n5_7,n5_8,n5_9,n5_10,n5_11,n6_7,n6_8,n6_9,n6_10,n6_11,n7_8,n7_9,n7_10,n7_11,n8_9,n8_10,n8_11,n9_10,n9_11,n10_11⟩:=hn
 rw [hf]
 refine sK (Inv:=fun m L a w=>∃ b1 b2 b3 b4 b5 b6 b7 b8 b9 b10 b11:Bool,∃ v1 v2 v3 v4 v5 v6 v7 v8 v9 v10:Value,c b1 b2 b3 b4 b5 b6 b7 b8 b9 b10 b11=true∧m=hY b1 + hY b2 + hY b3 + hY b4 + hY b5 + hY b6 + hY b7 + hY b8 + hY b9 + hY b10 + hY b11∧L=(List.set (List.set (List.set (List.set (List.set (List.set (List.set (List.set (List.set (List.set (List.set listed i1 b1) i2 b2) i3 b3) i4 b4) i5 b5) i6 b6) i7 b7) i8 b8) i9 b9) i10 b10) i11 b11)∧a=Act.mk (List.set (List.set (List.set (List.set (List.set (List.set (List.set (List.set (List.set (List.set ts d1 v1) d2 v2) d3 v3) d4 v4) d5 v5) d6 v6) d7 v7) d8 v8) d9 v9) d10 v10).toArray df∧F b1 b2 b3 b4 b5 b6 b7 b8 b9 b10 b11 v1 v2 v3 v4 v5 v6 v7 v8 v9 v10 w) ?_ ?_ 11 listed _ w ⟨false,false,false,false,false,false,false,false,false,false,false,(List.getD ts d1 undef),(List.getD ts d2 undef),(List.getD ts d3 undef),(List.getD ts d4 undef),(List.getD ts d5 undef),(List.getD ts d6 undef),(List.getD ts d7 undef),(List.getD ts d8 undef),(List.getD ts d9 undef),(List.getD ts d10 undef),hc0,by rfl,hl0.symm,by rw [ht0],hF⟩
 ·rintro m L a w ⟨b1,b2,b3,b4,b5,b6,b7,b8,b9,b10,b11,v1,v2,v3,v4,v5,v6,v7,v8,v9,v10,hcc,hm,rfl,rfl,hf⟩
  have hb:(b1 && b2 && b3 && b4 && b5 && b6 && b7 && b8 && b9 && b10 && b11)=false:=by
   cases hq:(b1 && b2 && b3 && b4 && b5 && b6 && b7 && b8 && b9 && b10 && b11) with
   | false=>rfl
   | true =>
    exfalso
    simp only [Bool.and_eq_true] at hq
    obtain ⟨⟨⟨⟨⟨⟨⟨⟨⟨⟨p1,p2⟩,p3⟩,p4⟩,p5⟩,p6⟩,p7⟩,p8⟩,p9⟩,p10⟩,p11⟩:=hq
    subst p1 p2 p3 p4 p5 p6 p7 p8 p9 p10 p11
    simp [hY] at hm
  have hr:=hr b1 b2 b3 b4 b5 b6 b7 b8 b9 b10 b11 hcc hb
  simp only [Bool.and_eq_true,decide_eq_true_eq,List.all_eq_true,Bool.or_eq_true,beq_iff_eq,Bool.not_eq_true'] at hr
  refine ⟨hr.1,fun i hi => ?_⟩
  rcases hr.2 i hi with ((((((((((⟨rfl,rfl,c1,cc1⟩ | ⟨rfl,rfl,c2,cc2⟩) | ⟨rfl,rfl,c3,cc3⟩) | ⟨rfl,rfl,c4,cc4⟩) | ⟨rfl,rfl,c5,cc5⟩) | ⟨rfl,rfl,c6,cc6⟩) | ⟨rfl,rfl,c7,cc7⟩) | ⟨rfl,rfl,c8,cc8⟩) | ⟨rfl,rfl,c9,cc9⟩) | ⟨rfl,rfl,c10,cc10⟩) | ⟨rfl,rfl,c11,cc11⟩)
  ·refine wpOp_mono ?_ (dO (by simpa using e1) (h1 true b2 b3 b4 b5 b6 b7 b8 b9 b10 b11 v1 v2 v3 v4 v5 v6 v7 v8 v9 v10 w (Bool.and_eq_true_iff.2 c1) hf))
   rintro a w2 ⟨hS,u,rfl,hf2⟩
   refine ⟨hS,true,b2,b3,b4,b5,b6,b7,b8,b9,b10,b11,u,v2,v3,v4,v5,v6,v7,v8,v9,v10,cc1,?_,?_,rfl,hf2⟩
   ·simp only [hY,Bool.false_eq_true,if_true,if_false] at hm ⊢;omega
   ·rw [List.set_comm _ _ n1_11.symm,List.set_comm _ _ n1_10.symm,List.set_comm _ _ n1_9.symm,List.set_comm _ _ n1_8.symm,List.set_comm _ _ n1_7.symm,List.set_comm _ _ n1_6.symm,List.set_comm _ _ n1_5.symm,List.set_comm _ _ n1_4.symm,List.set_comm _ _ n1_3.symm,List.set_comm _ _ n1_2.symm,List.set_set]
  ·refine wpOp_mono ?_ (dO (by simpa using e2) (h2 b1 true b3 b4 b5 b6 b7 b8 b9 b10 b11 v1 v2 v3 v4 v5 v6 v7 v8 v9 v10 w (Bool.and_eq_true_iff.2 c2) hf))
   rintro a w2 ⟨hS,u,rfl,hf2⟩
   refine ⟨hS,b1,true,b3,b4,b5,b6,b7,b8,b9,b10,b11,v1,u,v3,v4,v5,v6,v7,v8,v9,v10,cc2,?_,?_,rfl,hf2⟩
   ·simp only [hY,Bool.false_eq_true,if_true,if_false] at hm ⊢;omega
   ·rw [List.set_comm _ _ n2_11.symm,List.set_comm _ _ n2_10.symm,List.set_comm _ _ n2_9.symm,List.set_comm _ _ n2_8.symm,List.set_comm _ _ n2_7.symm,List.set_comm _ _ n2_6.symm,List.set_comm _ _ n2_5.symm,List.set_comm _ _ n2_4.symm,List.set_comm _ _ n2_3.symm,List.set_set]
  ·refine wpOp_mono ?_ (dO (by simpa using e3) (h3 b1 b2 true b4 b5 b6 b7 b8 b9 b10 b11 v1 v2 v3 v4 v5 v6 v7 v8 v9 v10 w (Bool.and_eq_true_iff.2 c3) hf))
   rintro a w2 ⟨hS,u,rfl,hf2⟩
   refine ⟨hS,b1,b2,true,b4,b5,b6,b7,b8,b9,b10,b11,v1,v2,u,v4,v5,v6,v7,v8,v9,v10,cc3,?_,?_,rfl,hf2⟩
   ·simp only [hY,Bool.false_eq_true,if_true,if_false] at hm ⊢;omega
   ·rw [List.set_comm _ _ n3_11.symm,List.set_comm _ _ n3_10.symm,List.set_comm _ _ n3_9.symm,List.set_comm _ _ n3_8.symm,List.set_comm _ _ n3_7.symm,List.set_comm _ _ n3_6.symm,List.set_comm _ _ n3_5.symm,List.set_comm _ _ n3_4.symm,List.set_set]
  ·refine wpOp_mono ?_ (dO (by simpa using e4) (h4 b1 b2 b3 true b5 b6 b7 b8 b9 b10 b11 v1 v2 v3 v4 v5 v6 v7 v8 v9 v10 w (Bool.and_eq_true_iff.2 c4) hf))
   rintro a w2 ⟨hS,u,rfl,hf2⟩
   refine ⟨hS,b1,b2,b3,true,b5,b6,b7,b8,b9,b10,b11,v1,v2,v3,u,v5,v6,v7,v8,v9,v10,cc4,?_,?_,rfl,hf2⟩
   ·simp only [hY,Bool.false_eq_true,if_true,if_false] at hm ⊢;omega
   ·rw [List.set_comm _ _ n4_11.symm,List.set_comm _ _ n4_10.symm,List.set_comm _ _ n4_9.symm,List.set_comm _ _ n4_8.symm,List.set_comm _ _ n4_7.symm,List.set_comm _ _ n4_6.symm,List.set_comm _ _ n4_5.symm,List.set_set]
  ·refine wpOp_mono ?_ (dO (by simpa using e5) (h5 b1 b2 b3 b4 true b6 b7 b8 b9 b10 b11 v1 v2 v3 v4 v5 v6 v7 v8 v9 v10 w (Bool.and_eq_true_iff.2 c5) hf))
   rintro a w2 ⟨hS,u,rfl,hf2⟩
   refine ⟨hS,b1,b2,b3,b4,true,b6,b7,b8,b9,b10,b11,v1,v2,v3,v4,u,v6,v7,v8,v9,v10,cc5,?_,?_,rfl,hf2⟩
   ·simp only [hY,Bool.false_eq_true,if_true,if_false] at hm ⊢;omega
   ·rw [List.set_comm _ _ n5_11.symm,List.set_comm _ _ n5_10.symm,List.set_comm _ _ n5_9.symm,List.set_comm _ _ n5_8.symm,List.set_comm _ _ n5_7.symm,List.set_comm _ _ n5_6.symm,List.set_set]
  ·refine wpOp_mono ?_ (dO (by simpa using e6) (h6 b1 b2 b3 b4 b5 true b7 b8 b9 b10 b11 v1 v2 v3 v4 v5 v6 v7 v8 v9 v10 w (Bool.and_eq_true_iff.2 c6) hf))
   rintro a w2 ⟨hS,u,rfl,hf2⟩
   refine ⟨hS,b1,b2,b3,b4,b5,true,b7,b8,b9,b10,b11,v1,v2,v3,v4,v5,u,v7,v8,v9,v10,cc6,?_,?_,rfl,hf2⟩
   ·simp only [hY,Bool.false_eq_true,if_true,if_false] at hm ⊢;omega
   ·rw [List.set_comm _ _ n6_11.symm,List.set_comm _ _ n6_10.symm,List.set_comm _ _ n6_9.symm,List.set_comm _ _ n6_8.symm,List.set_comm _ _ n6_7.symm,List.set_set]
  ·refine wpOp_mono ?_ (dO (by simpa using e7) (h7 b1 b2 b3 b4 b5 b6 true b8 b9 b10 b11 v1 v2 v3 v4 v5 v6 v7 v8 v9 v10 w (Bool.and_eq_true_iff.2 c7) hf))
   rintro a w2 ⟨hS,u,rfl,hf2⟩
   refine ⟨hS,b1,b2,b3,b4,b5,b6,true,b8,b9,b10,b11,v1,v2,v3,v4,v5,v6,u,v8,v9,v10,cc7,?_,?_,rfl,hf2⟩
   ·simp only [hY,Bool.false_eq_true,if_true,if_false] at hm ⊢;omega
   ·rw [List.set_comm _ _ n7_11.symm,List.set_comm _ _ n7_10.symm,List.set_comm _ _ n7_9.symm,List.set_comm _ _ n7_8.symm,List.set_set]
  ·refine wpOp_mono ?_ (dO (by simpa using e8) (h8 b1 b2 b3 b4 b5 b6 b7 true b9 b10 b11 v1 v2 v3 v4 v5 v6 v7 v8 v9 v10 w (Bool.and_eq_true_iff.2 c8) hf))
   rintro a w2 ⟨hS,u,rfl,hf2⟩
   refine ⟨hS,b1,b2,b3,b4,b5,b6,b7,true,b9,b10,b11,v1,v2,v3,v4,v5,v6,v7,u,v9,v10,cc8,?_,?_,rfl,hf2⟩
   ·simp only [hY,Bool.false_eq_true,if_true,if_false] at hm ⊢;omega
   ·rw [List.set_comm _ _ n8_11.symm,List.set_comm _ _ n8_10.symm,List.set_comm _ _ n8_9.symm,List.set_set]
  ·refine wpOp_mono ?_ (dO (by simpa using e9) (h9 b1 b2 b3 b4 b5 b6 b7 b8 true b10 b11 v1 v2 v3 v4 v5 v6 v7 v8 v9 v10 w (Bool.and_eq_true_iff.2 c9) hf))
   rintro a w2 ⟨hS,u,rfl,hf2⟩
   refine ⟨hS,b1,b2,b3,b4,b5,b6,b7,b8,true,b10,b11,v1,v2,v3,v4,v5,v6,v7,v8,u,v10,cc9,?_,?_,rfl,hf2⟩
   ·simp only [hY,Bool.false_eq_true,if_true,if_false] at hm ⊢;omega
   ·rw [List.set_comm _ _ n9_11.symm,List.set_comm _ _ n9_10.symm,List.set_set]
  ·refine wpOp_mono ?_ (dO (by simpa using e10) (h10 b1 b2 b3 b4 b5 b6 b7 b8 b9 true b11 v1 v2 v3 v4 v5 v6 v7 v8 v9 v10 w (Bool.and_eq_true_iff.2 c10) hf))
   rintro a w2 ⟨hS,u,rfl,hf2⟩
   refine ⟨hS,b1,b2,b3,b4,b5,b6,b7,b8,b9,true,b11,v1,v2,v3,v4,v5,v6,v7,v8,v9,u,cc10,?_,?_,rfl,hf2⟩
   ·simp only [hY,Bool.false_eq_true,if_true,if_false] at hm ⊢;omega
   ·rw [List.set_comm _ _ n10_11.symm,List.set_set]
  ·refine wpOp_mono ?_ (dO (by simpa using e11) (h11 b1 b2 b3 b4 b5 b6 b7 b8 b9 b10 true v1 v2 v3 v4 v5 v6 v7 v8 v9 v10 w (Bool.and_eq_true_iff.2 c11) hf))
   rintro a w2 ⟨hS,rfl,hf2⟩
   refine ⟨hS,b1,b2,b3,b4,b5,b6,b7,b8,b9,b10,true,v1,v2,v3,v4,v5,v6,v7,v8,v9,v10,cc11,?_,?_,rfl,hf2⟩
   ·simp only [hY,Bool.false_eq_true,if_true,if_false] at hm ⊢;omega
   ·rw [List.set_set]
 ·rintro L a w ⟨b1,b2,b3,b4,b5,b6,b7,b8,b9,b10,b11,v1,v2,v3,v4,v5,v6,v7,v8,v9,v10,hcc,hm,rfl,rfl,hf⟩
  have p1:b1=true:=cW (by omega)
  have p2:b2=true:=cW (by omega)
  have p3:b3=true:=cW (by omega)
  have p4:b4=true:=cW (by omega)
  have p5:b5=true:=cW (by omega)
  have p6:b6=true:=cW (by omega)
  have p7:b7=true:=cW (by omega)
  have p8:b8=true:=cW (by omega)
  have p9:b9=true:=cW (by omega)
  have p10:b10=true:=cW (by omega)
  have p11:b11=true:=cW (by omega)
  subst p1 p2 p3 p4 p5 p6 p7 p8 p9 p10 p11
  exact hG v1 v2 v3 v4 v5 v6 v7 v8 v9 v10 w hf
end
def TE (id op:Int):MsgR:={ zeroM with id:=id,resp:=true,op:=op,rcode:=1 }
def TF (s:List UInt8):Int:=(((kO s).1 / 2048 &&& 15:Nat):Int)
def iO (hs:List HldR) (s:List UInt8) (stream:Bool):List UInt8 × Bool :=
 if s.length < 12∨bI (kO s).1 32768=true then ([],false)
 else if (fG s).2≠0 then ((dA (TE ((qT s).1:Nat) (TF s))).1,true)
 else if (zY (cZ hs (fG s).1) (mH (fG s).1.size stream)).2.2≠0 then ((dA (bareR (fG s).1 2)).1,true)
 else ((zY (cZ hs (fG s).1) (mH (fG s).1.size stream)).2.1,true)
theorem NZ {s:List UInt8}:∀ (f:Nat) (l:List qS) (r:RdS),(KQ s f l r).1.length≤l.length + f:=by
 intro f
 induction f with
 | zero=>intro l r;unfold KQ;exact Nat.le_refl _
 | succ f ih =>
  intro l r
  unfold KQ
  split
  ·simp
  ·refine Nat.le_trans (ih _ _) ?_
   simp
   omega
theorem VL {s:List UInt8}:∀ (f:Nat) (l:List qS) (r:RdS),(KQ s f l r).2.e=0→r.e=0:=by
 intro f
 cases f with
 | zero=>intro l r h;exact h
 | succ f =>
  intro l r h
  unfold KQ at h
  split at h
  ·exact h
  ·rename_i c
   simpa using c
theorem rX {s:List UInt8} {r:RdS} {n:Nat} {last:Bool} (h:(iN s r n last).2.2.e=0):r.e=0:=by
 unfold iN at h
 generalize hq:r.want (decide ((n:Int)≤200 + (if last=true then 1 else 0))) 2=q at h
 have hq0:q.e=0:=by
  cases n with
  | zero=>exact h
  | succ n =>
   unfold rA at h
   split at h
   ·exact h
   ·rename_i c
    simpa using c
 rw [← hq] at hq0
 exact (pV (by decide) hq0).1
theorem OA {s:List UInt8} (h:(TQ s).e=0):(qU s).1≤10:=by
 have h1:=(pV (by decide) h).1
 have h2:=rX (rX (rX h1))
 have h3:=(pV (by decide) (VL _ _ _ h2)).2
 have:=of_decide_eq_true h3
 omega
set_option maxHeartbeats 4000000 in
theorem JB (v:Value) (hs:List HldR) (s:List UInt8) (stream:Bool) (w:World) (hv:HldsAt w v hs) (hl:hs.length≤1000) (hb:∀ h ∈ hs,∀ s ∈ h.l,s.data.length≤1000000) (hsl:s.length≤1000000):Calls Tryz.prog 16 #[v,aI s, .bool stream] w (bM w (.tuple #[aI (iO hs s stream).1, .bool (iO hs s stream).2])):=by
 have hch:=fun w'=>SY (w:=w') s hsl
 have hcd:=fun w'=>FY (w:=w') s hsl
 have hS:iO hs s stream=iO hs s stream:=rfl
 conv at hS=>rhs;unfold iO
 have hlq:(fG s).1.qs.length≤1000:=by
  unfold fG
  split
  ·rename_i he
   show (PZ s).1.length≤1000
   have:=NZ (s:=s) (qU s).1 [] (SZ s)
   have h9:=OA he
   unfold PZ
   simp at this
   omega
  ·exact Nat.zero_le _
 unfold DC at hch
 unfold HW at hcd
 generalize iO hs s stream=RES at *
 generalize fG s=D at *
 go_enter Tryz.func16,Tryz.ntmps16
 by_cases cl:s.length < 12
 ·simp only [if_pos cl] at hch
  rw [if_pos (.inl cl)] at hS
  refine_lift dJ fun _ _ => ?_
  refine aN (vs:=[aI s]) (enters_of Tryz.func18 rfl rfl) rfl rfl (hch _) ?_
  rintro _ w1 ⟨rfl,x1⟩
  refine ⟨_,rfl,?_⟩
  refine aA ?_
  refine_lift nK fun _ => ?_
  go_ret2
  rw [hS]
  exact ⟨rfl,x1⟩
 ·simp only [if_neg cl] at hch
  refine_lift dJ fun _ _ => ?_
  refine aN (vs:=[aI s]) (enters_of Tryz.func18 rfl rfl) rfl rfl (hch _) ?_
  rintro _ w1 ⟨rfl,x1⟩
  refine ⟨_,rfl,?_⟩
  refine aA ?_
  obtain ⟨rb,hrb⟩:∃ rb,bI (kO s).1 32768=rb:=⟨_,rfl⟩
  rw [hrb] at hS
  rw [hrb]
  cases rb with
  | true =>
   rw [if_pos (.inr rfl)] at hS
   refine_lift nK fun _ => ?_
   go_ret2
   rw [hS]
   exact ⟨rfl,x1⟩
  | false =>
   rw [if_neg (by rintro (h | h);exact cl h;cases h)] at hS
   refine_lift vZ fun _ _ _ => ?_
   refine aN (vs:=[aI s]) (enters_of Tryz.func19 rfl rfl) rfl rfl (hcd _) ?_
   rintro _ w2 ⟨q,a,u,x,rfl,hm2,x2⟩
   refine ⟨_,rfl,?_⟩
   refine aA ?_
   refine_lift bG ?_
   refine aL (z:=gO) rfl (by decide +kernel) ?_
   intro w3 x3 s3 h3
   refine aA ?_
   have hm3:=hm2.ext x3
   refine aG (v:=.agg (aW D.1 q a u x).toArray) rfl rfl rfl h3 (show aR Tryz.prog 26 13=true by decide +kernel) rfl (cM hm3) ?_
   intro w4 p4
   have x24:Ext w2 w4:=x3.move p4.mv (by rintro k ⟨⟩;exact Nat.le_refl _)
   have hB4:w4.heap[w2.heap.size]? = some (.cells (aW D.1 q a u x).toArray 26 (0,0)):=p4.this
   have hpM:=aE (cs:=aW D.1 q a u x) hB4
   unfold aW at hpM
   have hm4:=hm2.ext x24
   have x04:=x1.trans (x2.trans x24)
   clear p4 h3 x3 hm3
   generalize w2.heap.size=mb at *
   by_cases cD:D.2=0
   ·rw [if_neg (by simpa using cD)] at hS
    refine_lift UH (fun _ _ _ => ?_) (fun _ _ _ _ _ => ?_)
    all_goals first
     | (have hh:False:=by have h9:=‹(!decide (D.2=0))=true›;rw [decide_eq_true cD] at h9;cases h9
        exact hh.elim)
     | skip
    have hcR:∀ w',Ext w4 w'→Calls Tryz.prog 13 #[v, .agg (aW D.1 q a u x).toArray] w' (oA w' (NV w' (cZ hs D.1))):=fun w' x'=>tJ v hs D.1 q a u x w' ((hv.ext x04).ext x') (hm4.ext x') hl hb
    have hcF:∀ w' {q1 a1 u1 e1:Value},MsgV w' (cZ hs D.1) q1 a1 u1 e1→Calls Tryz.prog 37 #[.agg (aW (cZ hs D.1) q1 a1 u1 e1).toArray, .int .i64 (mH D.1.size stream)] w' (oA w' (NX w' (zY (cZ hs D.1) (mH D.1.size stream)))):=fun w' _ _ _ _ h'=>VK _ _ _ _ _ _ w' h'
    have hlim:mH D.1.size stream=mH D.1.size stream:=rfl
    generalize zY (cZ hs D.1) (mH D.1.size stream)=FF at *
    generalize cZ hs D.1=R at *
    refine dS (S:=fun w'=>Ext w4 w') (by decide +kernel) ?_
    intro w21 x21 _
    refine iF 0 ?_;refine aA ?_;refine iF 1 ?_;refine aA ?_;refine iF 3 ?_;refine aA ?_;refine iF 4 ?_;refine aA ?_
    refine NY 2 5 6 7 8 9 10 11 13 14 12 47 50 51 44 52 53 54 15 16 11 (fun b1 b2 b3 b4 b5 b6 b7 b8 b9 b10 b11=>(!b2 || b1) && (!b3 || b1) && (!b3 || b2) && (!b4 || b3) && (!b5 || b4) && (!b6 || b4) && (!b7 || b4) && (!b9 || b6) && (!b9 || b11) && (!b10 || b7) && (!b10 || b9) && (!b11 || b8) && (!b11 || b5)) (fun b1 b2 b3 b4 b5 b6 b7 b8 b9 b10 b11 => !b2 && !b3) (fun b1 b2 b3 b4 b5 b6 b7 b8 b9 b10 b11=>b1 && !b3) (fun b1 b2 b3 b4 b5 b6 b7 b8 b9 b10 b11=>b1 && b2 && !b4) (fun b1 b2 b3 b4 b5 b6 b7 b8 b9 b10 b11=>b3 && !b5 && !b6 && !b7) (fun b1 b2 b3 b4 b5 b6 b7 b8 b9 b10 b11=>b4 && !b11) (fun b1 b2 b3 b4 b5 b6 b7 b8 b9 b10 b11=>b4 && !b9) (fun b1 b2 b3 b4 b5 b6 b7 b8 b9 b10 b11=>b4 && !b10) (fun b1 b2 b3 b4 b5 b6 b7 b8 b9 b10 b11 => !b11) (fun b1 b2 b3 b4 b5 b6 b7 b8 b9 b10 b11=>b6 && b11 && !b10) (fun b1 b2 b3 b4 b5 b6 b7 b8 b9 b10 b11=>b7 && b9) (fun b1 b2 b3 b4 b5 b6 b7 b8 b9 b10 b11=>b8 && b5 && !b9) (fun b1 b2 b3 b4 b5 b6 b7 b8 b9 b10 b11 v1 v2 v3 v4 v5 v6 v7 v8 v9 v10 w'=>∃ q1 a1 u1 e1 q2 a2 u2 e2 zk,Ext w4 w'∧(b1=true→v1=.agg (aW R q1 a1 u1 e1).toArray∧(b3=false→MsgV w' R q1 a1 u1 e1))∧(b2=true→v2=.int .i64 (mH D.1.size stream))∧(b3=true→v3=.tuple #[.agg (aW FF.1 q2 a2 u2 e2).toArray,aI FF.2.1, .int .i64 FF.2.2]∧(∀ x ∈ aW FF.1 q2 a2 u2 e2,x.oneCell'=true))∧(b4=true→v4=.tuple #[.agg (aW FF.1 q2 a2 u2 e2).toArray,aI FF.2.1, .int .i64 FF.2.2])∧(b5=true→v5=.agg (aW FF.1 q2 a2 u2 e2).toArray)∧(b6=true→v6=aI FF.2.1)∧(b7=true→v7=.int .i64 FF.2.2)∧(b8=true→v8=.pointer (some ⟨zk,0,none⟩)∧w4.heap.size≤zk∧(b11=false→w'.heap[zk]? = some (.cells gO.toArray 26 (0,0))))∧(b9=true→v9=aI FF.2.1)∧(b10=true→v10=.int .i64 FF.2.2)) ?_ ?_ ?_ ?_ ?_ ?_ ?_ ?_ ?_ ?_ ?_ ?_ ?_
    ·exact ⟨undef,undef,undef,undef,undef,undef,undef,undef,0,x21,by simp,by simp,by simp,by simp,by simp,by simp,by simp,by simp,by simp,by simp⟩
    ·rintro b1 b2 b3 b4 b5 b6 b7 b8 b9 b10 b11 v1 v2 v3 v4 v5 v6 v7 v8 v9 v10 w5 hq ⟨q1,a1,u1,e1,q2,a2,u2,e2,zk,x5,f1,f2,f3,f4,f5,f6,f7,f8,f9,f10⟩
     refine aA ?_
     refine aK (enters_of Tryz.func13 rfl rfl) rfl rfl (hcR _ x5) ?_
     rintro _ w6 x6 ⟨q1',a1',u1',e1',rfl,hm6⟩
     refine aA ?_
     refine aJ ⟨x5.trans x6,_,rfl,q1',a1',u1',e1',q2,a2,u2,e2,zk,x5.trans x6,fun _=>⟨rfl,fun _=>hm6.msg⟩,f2,f3,f4,f5,f6,f7,fun e=>⟨(f8 e).1,(f8 e).2.1,fun e2=>x6.at ((f8 e).2.2 e2)⟩,f9,f10⟩
    ·rintro b1 b2 b3 b4 b5 b6 b7 b8 b9 b10 b11 v1 v2 v3 v4 v5 v6 v7 v8 v9 v10 w5 hq ⟨q1,a1,u1,e1,q2,a2,u2,e2,zk,x5,f1,f2,f3,f4,f5,f6,f7,f8,f9,f10⟩
     refine aA ?_
     refine aD (enters_of Tryz.func20 rfl rfl) rfl rfl (PY D.1 q a u x stream _ (hm4.ext x5)) ?_;intro w6 x6;refine aA ?_
     refine aJ ⟨x5.trans x6,_,rfl,q1,a1,u1,e1,q2,a2,u2,e2,zk,x5.trans x6,fun e=>⟨(f1 e).1,fun e2=>((f1 e).2 e2).ext x6⟩,fun _=>rfl,f3,f4,f5,f6,f7,fun e=>⟨(f8 e).1,(f8 e).2.1,fun e2=>x6.at ((f8 e).2.2 e2)⟩,f9,f10⟩
    ·rintro b1 b2 b3 b4 b5 b6 b7 b8 b9 b10 b11 v1 v2 v3 v4 v5 v6 v7 v8 v9 v10 w5 hq ⟨q1,a1,u1,e1,q2,a2,u2,e2,zk,x5,f1,f2,f3,f4,f5,f6,f7,f8,f9,f10⟩
     have hb1:b1=true:=by revert hq;cases b1 <;> simp
     have hb2:b2=true:=by revert hq;cases b2 <;> simp
     have hb4:b4=false:=by revert hq;cases b4 <;> simp
     have hb5:b5=false:=by revert hq;subst hb4;cases b5 <;> simp
     subst hb1 hb2 hb4 hb5
     obtain ⟨rfl,g1⟩:=f1 rfl
     obtain rfl:=f2 rfl
     refine aA ?_
     refine aK (enters_of Tryz.func37 rfl rfl) rfl rfl (hcF _ (g1 rfl)) ?_
     rintro _ w6 x6 ⟨q2',a2',u2',e2',rfl,hm6⟩
     refine aA ?_
     refine aJ ⟨x5.trans x6,_,rfl,q1,a1,u1,e1,q2',a2',u2',e2',zk,x5.trans x6,fun _=>⟨rfl,by simp⟩,by simp,fun _=>⟨rfl,hm6.one⟩,by simp,by simp,f6,f7,fun e=>⟨(f8 e).1,(f8 e).2.1,fun e2=>x6.at ((f8 e).2.2 e2)⟩,f9,f10⟩
    ·rintro b1 b2 b3 b4 b5 b6 b7 b8 b9 b10 b11 v1 v2 v3 v4 v5 v6 v7 v8 v9 v10 w5 hq ⟨q1,a1,u1,e1,q2,a2,u2,e2,zk,x5,f1,f2,f3,f4,f5,f6,f7,f8,f9,f10⟩
     have hb3:b3=true:=by revert hq;cases b3 <;> simp
     subst hb3
     obtain ⟨rfl,g1⟩:=f3 rfl
     refine aA ?_
     ((with_reducible refine cJ ?_);(first | (refine jO ?_;refine fV ?_) | (refine oN ?_;refine qV ?_;(with_reducible refine cJ ?_);refine jO ?_;refine fV ?_)))
     refine aJ ⟨x5,_,rfl,q1,a1,u1,e1,q2,a2,u2,e2,zk,x5,fun e=>⟨(f1 e).1,by simp⟩,f2,fun _=>⟨rfl,g1⟩,fun _=>rfl,f5,f6,f7,f8,f9,f10⟩
    ·rintro b1 b2 b3 b4 b5 b6 b7 b8 b9 b10 b11 v1 v2 v3 v4 v5 v6 v7 v8 v9 v10 w5 hq ⟨q1,a1,u1,e1,q2,a2,u2,e2,zk,x5,f1,f2,f3,f4,f5,f6,f7,f8,f9,f10⟩
     have hb4:b4=true:=by revert hq;cases b4 <;> simp
     subst hb4
     have g4:=f4 rfl
     subst g4
     refine aA ?_
     ((with_reducible refine cJ ?_);(first | (refine jO ?_;refine fV ?_) | (refine oN ?_;refine qV ?_;(with_reducible refine cJ ?_);refine jO ?_;refine fV ?_)))
     refine aJ ⟨x5,_,rfl,q1,a1,u1,e1,q2,a2,u2,e2,zk,x5,f1,f2,f3,fun _=>rfl,fun _=>rfl,f6,f7,f8,f9,f10⟩
    ·rintro b1 b2 b3 b4 b5 b6 b7 b8 b9 b10 b11 v1 v2 v3 v4 v5 v6 v7 v8 v9 v10 w5 hq ⟨q1,a1,u1,e1,q2,a2,u2,e2,zk,x5,f1,f2,f3,f4,f5,f6,f7,f8,f9,f10⟩
     have hb4:b4=true:=by revert hq;cases b4 <;> simp
     subst hb4
     have g4:=f4 rfl
     subst g4
     refine aA ?_
     ((with_reducible refine cJ ?_);(first | (refine jO ?_;refine fV ?_) | (refine oN ?_;refine qV ?_;(with_reducible refine cJ ?_);refine jO ?_;refine fV ?_)))
     refine aJ ⟨x5,_,rfl,q1,a1,u1,e1,q2,a2,u2,e2,zk,x5,f1,f2,f3,fun _=>rfl,f5,fun _=>rfl,f7,f8,f9,f10⟩
    ·rintro b1 b2 b3 b4 b5 b6 b7 b8 b9 b10 b11 v1 v2 v3 v4 v5 v6 v7 v8 v9 v10 w5 hq ⟨q1,a1,u1,e1,q2,a2,u2,e2,zk,x5,f1,f2,f3,f4,f5,f6,f7,f8,f9,f10⟩
     have hb4:b4=true:=by revert hq;cases b4 <;> simp
     subst hb4
     have g4:=f4 rfl
     subst g4
     refine aA ?_
     ((with_reducible refine cJ ?_);(first | (refine jO ?_;refine fV ?_) | (refine oN ?_;refine qV ?_;(with_reducible refine cJ ?_);refine jO ?_;refine fV ?_)))
     refine aJ ⟨x5,_,rfl,q1,a1,u1,e1,q2,a2,u2,e2,zk,x5,f1,f2,f3,fun _=>rfl,f5,f6,fun _=>rfl,f8,f9,f10⟩
    ·rintro b1 b2 b3 b4 b5 b6 b7 b8 b9 b10 b11 v1 v2 v3 v4 v5 v6 v7 v8 v9 v10 w5 hq ⟨q1,a1,u1,e1,q2,a2,u2,e2,zk,x5,f1,f2,f3,f4,f5,f6,f7,f8,f9,f10⟩
     refine aA ?_
     refine aL (z:=gO) rfl (by decide +kernel) ?_
     intro w6 x6 s6 h6
     refine aA ?_
     refine aJ ⟨x5.trans x6,_,rfl,q1,a1,u1,e1,q2,a2,u2,e2,_,x5.trans x6,fun e=>⟨(f1 e).1,fun e2=>((f1 e).2 e2).ext x6⟩,f2,f3,f4,f5,f6,f7,fun _=>⟨rfl,x5.size,fun _=>h6⟩,f9,f10⟩
    ·rintro b1 b2 b3 b4 b5 b6 b7 b8 b9 b10 b11 v1 v2 v3 v4 v5 v6 v7 v8 v9 v10 w5 hq ⟨q1,a1,u1,e1,q2,a2,u2,e2,zk,x5,f1,f2,f3,f4,f5,f6,f7,f8,f9,f10⟩
     have hb6:b6=true:=by revert hq;cases b6 <;> simp
     subst hb6
     have g6:=f6 rfl
     subst g6
     refine aA ?_
     ((with_reducible refine cJ ?_);(first | (refine jO ?_;refine fV ?_) | (refine oN ?_;refine qV ?_;(with_reducible refine cJ ?_);refine jO ?_;refine fV ?_)))
     refine aJ ⟨x5,_,rfl,q1,a1,u1,e1,q2,a2,u2,e2,zk,x5,f1,f2,f3,f4,f5,by simp,f7,f8,fun _=>rfl,f10⟩
    ·rintro b1 b2 b3 b4 b5 b6 b7 b8 b9 b10 b11 v1 v2 v3 v4 v5 v6 v7 v8 v9 v10 w5 hq ⟨q1,a1,u1,e1,q2,a2,u2,e2,zk,x5,f1,f2,f3,f4,f5,f6,f7,f8,f9,f10⟩
     have hb7:b7=true:=by revert hq;cases b7 <;> simp
     subst hb7
     have g7:=f7 rfl
     subst g7
     refine aA ?_
     ((with_reducible refine cJ ?_);(first | (refine jO ?_;refine fV ?_) | (refine oN ?_;refine qV ?_;(with_reducible refine cJ ?_);refine jO ?_;refine fV ?_)))
     refine aJ ⟨x5,_,rfl,q1,a1,u1,e1,q2,a2,u2,e2,zk,x5,f1,f2,f3,f4,f5,f6,by simp,f8,f9,fun _=>rfl⟩
    ·rintro b1 b2 b3 b4 b5 b6 b7 b8 b9 b10 b11 v1 v2 v3 v4 v5 v6 v7 v8 v9 v10 w5 hq ⟨q1,a1,u1,e1,q2,a2,u2,e2,zk,x5,f1,f2,f3,f4,f5,f6,f7,f8,f9,f10⟩
     have hb5:b5=true:=by revert hq;cases b5 <;> simp
     have hb8:b8=true:=by revert hq;cases b8 <;> simp
     have hb4:b4=true:=by revert hq;subst hb5;cases b4 <;> simp
     have hb3:b3=true:=by revert hq;subst hb4;cases b3 <;> simp
     subst hb3 hb5 hb8
     have g5:=f5 rfl
     subst g5
     obtain ⟨g2,g3⟩:=f3 rfl
     obtain ⟨rfl,g8,g9⟩:=f8 rfl
     refine aA ?_
     refine aG (v:=.agg (aW FF.1 q2 a2 u2 e2).toArray) rfl rfl rfl (g9 rfl) (show aR Tryz.prog 26 13=true by decide +kernel) rfl (by simp only [Value.cells,List.all_toArray,List.all_eq_true];exact g3) ?_
     intro w6 p6
     have x6:Ext w4 w6:=x5.move p6.mv (by rintro k ⟨⟩;exact g8)
     refine aJ ⟨x6,rfl,q1,a1,u1,e1,q2,a2,u2,e2,zk,x6,fun e=>⟨(f1 e).1,by simp⟩,f2,fun _=>⟨g2,g3⟩,f4,fun _=>rfl,f6,f7,fun _=>⟨rfl,g8,by simp⟩,f9,f10⟩
    ·rintro v1 v2 v3 v4 v5 v6 v7 v8 v9 v10 w9 ⟨q1,a1,u1,e1,q2,a2,u2,e2,zk,x9,f1,f2,f3,f4,f5,f6,f7,f8,f9,f10⟩
     have k3:=(f3 rfl).1
     have k9:=f9 rfl
     have k10:=f10 rfl
     clear f1 f2 f3 f4 f5 f6 f7 f8 f9 f10
     subst k9 k10
     refine aA ?_
     refine dK (by decide +kernel) ?_
     have hB9:=x9.at hB4
     have hp9:=aE (cs:=aW D.1 q a u x) hB9
     unfold aW at hp9
     have hm9:=hm4.ext x9
     have x09:=x04.trans x9
     clear hpM
     by_cases cF:FF.2.2=0
     ·rw [if_neg (by simpa using cF)] at hS
      refine_lift OO (fun _ => ?_) (fun _ _ _ => ?_)
      all_goals first
       | (have hh:False:=by have h9:=‹(!decide (FF.2.2=0))=true›;rw [decide_eq_true cF] at h9;cases h9
          exact hh.elim)
       | skip
      go_ret2
      rw [hS]
      exact ⟨by kernel_rfl,x09⟩
     ·rw [if_pos cF] at hS
      refine_lift OO (fun _ => ?_) (fun _ _ _ => ?_)
      all_goals first
       | (have hh:False:=by have h9:=‹(!decide (FF.2.2=0))=false›;rw [decide_eq_false cF] at h9;cases h9
          exact hh.elim)
       | skip
      refine aK (enters_of Tryz.func29 rfl rfl) rfl rfl (mI D.1 q a u x 2 _ hm9 hlq) ?_
      intro _ wb xb ⟨qb,er,ob⟩
      subst er
      refine aA ?_
      have hmb:MsgV wb (bareR D.1 2) qb aH aH aH:=⟨ob.sl,Sl.nil _ _,Sl.nil _ _,Sl.nil _ _⟩
      refine aD (enters_of Tryz.func23 rfl rfl) rfl rfl (tK hmb) ?_;intro w10 x10;refine aA ?_
      refine_lift bG ?_
      go_ret2
      rw [hS]
      exact ⟨by kernel_rfl,x09.trans (xb.trans x10)⟩
   ·rw [if_pos cD] at hS
    refine_lift UH (fun _ _ _ => ?_) (fun _ _ _ _ _ => ?_)
    all_goals first
     | (have hh:False:=by have h9:=‹(!decide (D.2=0))=false›;rw [decide_eq_false cD] at h9;cases h9
        exact hh.elim)
     | skip
    refine aT (v:=.agg (aW (TE ((qT s).1:Nat) (TF s)) aH aH aH aH).toArray) (Runs.build rfl (by kernel_rfl)) ?_
    refine aA ?_
    have hma:MsgV w4 (TE ((qT s).1:Nat) (TF s)) aH aH aH aH:=⟨Sl.nil _ _,Sl.nil _ _,Sl.nil _ _,Sl.nil _ _⟩
    refine aD (enters_of Tryz.func23 rfl rfl) rfl rfl (tK hma) ?_;intro w5 x5;refine aA ?_
    refine_lift bG ?_
    go_ret2
    rw [hS]
    exact ⟨by kernel_rfl,x04.trans x5⟩
end Go.Proofs.X
