/- Laws and walks that the proof of the statement is made of (part 16). -/
import Derived.Test.YtgljkfpcadempaaGreatP15
set_option linter.unusedSimpArgs false
set_option linter.unusedVariables false
namespace Go.Proofs.X
open Go.RowKit
set_option maxRecDepth 100000
structure RecOk (r:Rec):Prop where
 nm:(aV r.name).isSome=true
 k0:1≤r.kind
 k1:r.kind≤65535
 t0:0≤r.ttl
 t1:r.ttl≤2147483647
 d:r.data.length≤4000
 soa:r.kind=6→(aV (gE r.data).main).isSome=true∧(aV (gE r.data).mail).isSome=true∧20≤r.data.length
theorem zX {o:Option (List UInt8)} (h:o.isSome=true):∃ n,o=some n∧o.getD []=n:=by
 cases o with
 | none=>cases h
 | some n=>exact ⟨n,rfl,rfl⟩
theorem vJ {s:List UInt8} (h:(cL s).2.2=true):(aV (cL s).1).isSome=true∧(cL s).2.1.length≤s.length:=by
 unfold cL at h ⊢
 split
 ·rename_i c
  rw [if_pos c] at h
  cases h
 ·rename_i c
  rw [if_neg c] at h
  dsimp only at h ⊢
  obtain ⟨n,h1,h2⟩:=zX h
  rw [h2]
  exact ⟨(rP h1).2,by rw [List.length_drop];omega⟩
theorem KM {d:List UInt8} (h:(cS d).isSome=true):(aV (gE d).main).isSome=true∧(aV (gE d).mail).isSome=true∧20≤d.length:=by
 unfold gE
 unfold cS at h ⊢
 dsimp only at h ⊢
 split at h
 ·rename_i c
  rw [if_pos c]
  obtain ⟨c1,c2,c3,c4⟩:=c
  have a:=vJ c1
  have b:=vJ c2
  refine ⟨a.1,b.1,by omega⟩
 ·cases h
theorem KN {r:Rec} (h:bC r=0):RecOk r:=by
 unfold bC at h
 split at h
 ·cases h
 ·split at h
  ·cases h
  ·rename_i c1 c2
   split at h
   ·rename_i c3
    refine ⟨c3,by omega,by omega,by omega,by omega,by omega,fun e => ?_⟩
    have hf:fits r.kind r.data=true:=by
     cases hf:fits r.kind r.data with
     | true=>rfl
     | false=>exact absurd (by simp [hf]) c2
    rw [e] at hf
    exact KM (by simpa [fits] using hf)
   ·cases h
def flagN (is:Bool) (n:Nat):Nat:=if is=true then n else 0
def flagsW (m:MsgR):Nat:=(((((flagN m.resp 32768 ||| m.op.toNat * 2048) ||| flagN m.auth 1024) ||| flagN m.trunc 512) ||| flagN m.want 256) ||| flagN m.avail 128) ||| m.rcode.toNat
abbrev OG:=List UInt8 × List (List UInt8 × Nat)
def qW (x:OG) (q:qS):OG:=((eG (gX q.1) x.1 x.2).1 ++ cG q.2.toNat ++ cG 1,(eG (gX q.1) x.1 x.2).2)
def lQ (x:OG) (r:Rec):OG:=pY r ((eG (gX r.name) x.1 x.2).1 ++ cG r.kind.toNat ++ cG 1 ++ pX r.ttl.toNat) (eG (gX r.name) x.1 x.2).2
def jM (m:MsgR):List UInt8:=cG m.id.toNat ++ cG (flagsW m) ++ cG m.qs.length ++ cG m.an.length ++ cG m.au.length ++ cG (m.ex.length + flagN (!decide (m.size=0)) 1)
def FV (m:MsgR):List UInt8:=if m.size=0 then [] else [0] ++ cG 41 ++ cG m.size.toNat ++ pX 0 ++ cG 0
def vK (m:MsgR):OG:=m.ex.foldl lQ (m.au.foldl lQ (m.an.foldl lQ (m.qs.foldl qW (jM m,[]))))
def nX (m:MsgR):List UInt8:=(vK m).1 ++ FV m
def dA (m:MsgR):List UInt8 × Int:=if dH m≠0 then ([],dH m) else if 65535 < (nX m).length then ([],4) else (nX m,0)
theorem PX (x:OG) (q:qS) (h:Keys x.2):Keys (qW x q).2:=iE _ _ _ h
theorem FW (r:Rec) (l:List UInt8) (ps:List (List UInt8 × Nat)) (h:Keys ps):Keys (pY r l ps).2:=by
 unfold pY eQ
 dsimp only
 split
 ·exact iE _ _ _ (iE _ _ _ h)
 ·split
  ·exact iE _ _ _ h
  ·exact h
theorem KO (x:OG) (r:Rec) (h:Keys x.2):Keys (lQ x r).2:=FW _ _ _ (iE _ _ _ h)
theorem tH {n:List UInt8} (h:(aV n).isSome=true) (x:OG):∃ t,(eG (gX n) x.1 x.2).1=x.1 ++ t∧t.length≤256:=by
 obtain ⟨t,h1,h2⟩:=kU (gX n) x.1 x.2
 have:=gG h
 rw [this.2.1] at h2
 exact ⟨t,h1,by omega⟩
theorem SW {q:qS} (h:tE q=true) (x:OG):(qW x q).1.length≤x.1.length + 260:=by
 have hs:(aV q.1).isSome=true:=by
  simp only [tE,dM,Bool.and_eq_true,decide_eq_true_eq] at h
  have h:=h.1.1
  split at h
  ·assumption
  ·cases h
 obtain ⟨t,h1,h2⟩:=tH hs x
 simp [qW,h1,cG]
 omega
theorem HU {r:Rec} (h:RecOk r) (l:List UInt8) (ps:List (List UInt8 × Nat)):∃ y,(pY r l ps).1=l ++ y∧y.length≤5002:=by
 obtain ⟨y,h1,h2⟩:=tG r (l ++ cG 0) ps h.d h.soa
 unfold pY
 dsimp only
 rw [h1]
 refine ⟨cG ((l ++ cG 0 ++ y).length - l.length - 2) ++ y,?_,by simp [cG];omega⟩
 rw [show (l ++ cG 0 ++ y).drop (l.length + 2)=y by rw [show l.length + 2=(l ++ cG 0).length by simp [cG],List.drop_left]]
 rw [List.append_assoc]
theorem NM {r:Rec} (h:RecOk r) (x:OG):(lQ x r).1.length≤x.1.length + 6000:=by
 obtain ⟨t,h1,h2⟩:=tH h.nm x
 obtain ⟨y,h3,h4⟩:=HU h ((eG (gX r.name) x.1 x.2).1 ++ cG r.kind.toNat ++ cG 1 ++ pX r.ttl.toNat) (eG (gX r.name) x.1 x.2).2
 unfold lQ
 rw [h3,h1]
 simp [cG,pX]
 omega
structure MsgOk (m:MsgR):Prop where
 id:0≤m.id∧m.id≤65535
 op:0≤m.op∧m.op≤15
 rc:0≤m.rcode∧m.rcode≤15
 sz:m.size=0∨(512≤m.size∧m.size≤65535)
 ql:m.qs.length≤10
 qs:∀ q ∈ m.qs,tE q=true
 nl:m.an.length≤200
 an:∀ r ∈ m.an,bC r=0
 ul:m.au.length≤200
 au:∀ r ∈ m.au,bC r=0
 el:m.ex.length≤200
 ex:∀ r ∈ m.ex,bC r=0
theorem rV {l:List Rec} (h:eW l=true):l.length≤200∧∀ r ∈ l,bC r=0:=by
 simp only [eW,Bool.and_eq_true,decide_eq_true_eq,Bool.not_eq_true',List.any_eq_false] at h
 refine ⟨h.1,fun r hr => ?_⟩
 simpa using h.2 r hr
theorem qN {m:MsgR} (h:dH m=0):MsgOk m:=by
 unfold dH at h
 split at h
 ·rename_i c
  simp only [Bool.and_eq_true,fJ,decide_eq_true_eq,Bool.or_eq_true,List.all_eq_true] at c
  obtain ⟨⟨⟨⟨⟨c1,c2⟩,c3⟩,c4⟩,c5,c6⟩,⟨c7,c8⟩,c9⟩:=c
  have c7:=rV c7
  have c8:=rV c8
  have c9:=rV c9
  exact ⟨c1,c2,c3,c4,c5,c6,c7.1,c7.2,c8.1,c8.2,c9.1,c9.2⟩
 ·cases h
theorem nB (is:Bool) (n:Nat):flagN is n≤n:=by unfold flagN;split <;> omega
theorem KP {a b:Nat} (ha:a < 65536) (hb:b < 65536):a ||| b < 65536:=Nat.or_lt_two_pow (x:=a) (y:=b) (n:=16) ha hb
def zA (m:MsgR):List Nat:=[m.qs.length,m.an.length,m.au.length,m.ex.length + flagN (!decide (m.size=0)) 1]
theorem SX {q:qS} (h:tE q=true):(aV q.1).isSome=true∧1≤q.2∧q.2≤65535:=by
 simp only [tE,dM,Bool.and_eq_true,decide_eq_true_eq] at h
 obtain ⟨⟨h1,h2,h3⟩,_⟩:=h
 refine ⟨?_,h2,h3⟩
 split at h1
 ·assumption
 ·cases h1
end Go.Proofs.X
set_option linter.unusedSimpArgs false
set_option linter.unusedVariables false
namespace Go.Proofs.X
open Go.RowKit
set_option maxHeartbeats 3000000 in
theorem FX (v:Value) (l:List qS) (w:World) (hv:Sl 2 w v (cU l)) (hl:l.length≤1000000):Calls Tryz.prog 62 #[v] w (oA w fun v' w'=>Own w.heap.size 2 54 w' v' (cU l)):=by
 have hlen:=cI l
 go_enter Tryz.func62,Tryz.ntmps62
 (repeat' first | ((with_reducible refine cY ?_);go_step) | ((with_reducible refine cJ ?_);first | refine iZ ?_ | (refine dD ?_ ?_ <;> intro hc)) | fail)
 ·have hn:=‹DQ v=true›
  go_ret
  have:cU l=[]:=hv.isNil hn
  refine ⟨_,rfl,Ext.refl _,?_⟩
  rw [this]
  exact Own.nil _ _ _ _
 ·refine rH (t:=23) (e:=54) (k:=2) (bytes:=24) (by decide +kernel) rfl ?_
  intro v2 w2 x2 s2 o2
  refine aA ?_
  (repeat' first | ((with_reducible refine cY ?_);go_step) | ((with_reducible refine cJ ?_);first | refine iZ ?_ | (refine dD ?_ ?_ <;> intro hc)) | fail)
  refine bU (B:=w.heap.size) (e:=54) rfl o2 rfl (hv.ext x2) yV x2.size (by simp;omega) ?_
  intro v3 w3 o3 m3 _
  have x3:=o2.mvx m3 x2 (Nat.le_refl _)
  refine aA ?_
  (repeat' first | ((with_reducible refine cY ?_);go_step) | ((with_reducible refine cJ ?_);first | refine iZ ?_ | (refine dD ?_ ?_ <;> intro hc)) | fail)
  go_ret
  exact ⟨_,rfl,x3,by simpa using o3⟩
end Go.Proofs.X
set_option linter.unusedSimpArgs false
set_option linter.unusedVariables false
namespace Go.Proofs.X
open Go.RowKit
set_option maxRecDepth 100000
def mH (size:Int) (stream:Bool):Int:=if stream=true then 65535 else if size < 512 then 512 else min size 1232
theorem PY (m:MsgR) (q a u e:Value) (stream:Bool) (w:World) (hm:MsgV w m q a u e):Calls Tryz.prog 20 #[.agg (aW m q a u e).toArray, .bool stream] w (bM w (.int .i64 (mH m.size stream))):=by
 unfold mH
 go_enter Tryz.func20,Tryz.ntmps20
 refine_lift lF fun _ _ => ?_
 refine eK (vs:=aW m q a u e) rfl rfl ?_
 intro w1 x1 s1 hb1
 refine aA ?_
 have hpM:=aE (cs:=aW m q a u e) hb1
 unfold aW at hpM
 cases stream with
 | true =>
  refine_lift bG ?_
  go_ret
  exact ⟨rfl,x1⟩
 | false =>
  by_cases c:m.size < 512
  ·refine_lift nK fun _ => ?_
   all_goals first
    | (exfalso;omega)
    | skip
   go_ret
   rw [if_neg (by decide),if_pos c]
   exact ⟨rfl,x1⟩
  ·refine_lift nK fun _ => ?_
   all_goals first
    | (exfalso;omega)
    | skip
   go_ret
   rw [if_neg (by decide),if_neg c]
   exact ⟨rfl,x1⟩
def bareR (m:MsgR) (code:Int):MsgR:=⟨m.id,true,m.op,false,false,m.want,false,code,m.qs,[],[],[],if m.size=0 then 0 else 1232⟩
def bareN (m:MsgR) (code:Int):MsgR:=⟨m.id,true,m.op,false,false,m.want,false,code,m.qs,[],[],[],0⟩
def aH:Value:=.slice none 0 0
theorem mI (m:MsgR) (q a u e:Value) (code:Int) (w:World) (hm:MsgV w m q a u e) (hl:m.qs.length≤1000):Calls Tryz.prog 29 #[.agg (aW m q a u e).toArray, .int .i64 code] w (oA w fun r w'=>∃ q',r=.agg (aW (bareR m code) q' aH aH aH).toArray∧Own w.heap.size 2 54 w' q' (cU m.qs)):=by
 go_enter Tryz.func29,Tryz.ntmps29
 refine_lift zN ?_;intro _ _ _
 refine eK (vs:=aW m q a u e) rfl rfl ?_
 intro w1 x1 s1 hb1
 refine aA ?_
 refine aL (z:=gO) rfl (by decide +kernel) ?_
 intro w2 x2 s2 h2
 refine aA ?_
 have x02:=x1.trans x2
 have hpM:=aE (cs:=aW m q a u e) (x2.at hb1)
 unfold aW at hpM
 have hq2:=hm.qs.ext x02
 refine_lift dJ fun _ _ => ?_
 refine dS (S:=fun w'=>Ext w2 w') (by decide +kernel) ?_
 intro w3 x3 _
 refine iF 0 ?_;refine aA ?_;refine iF 1 ?_;refine aA ?_;refine iF 2 ?_;refine aA ?_;refine iF 3 ?_;refine aA ?_;refine iF 4 ?_;refine aA ?_;refine iF 5 ?_;refine aA ?_;refine iF 6 ?_;refine aA ?_;refine iF 7 ?_;refine aA ?_;refine iF 8 ?_;refine aA ?_
 refine OL 9 10 11 12 15 16 5 (fun b1 b2 b3 b4=>(!b2 || b1) && (!b4 || b2) && (!b4 || b3)) (fun b1 b2 b3 b4 => !b2) (fun b1 b2 b3 b4=>b1 && !b4) (fun b1 b2 b3 b4 => !b4) (fun b1 b2 b3 b4=>b2 && b3) (fun b1 b2 b3 b4 v1 v2 v3 w'=>∃ zk,Ext w2 w'∧(b1=true→Own w2.heap.size 2 54 w' v1 (cU m.qs))∧(b2=true→v2=.agg (aW (bareN m code) v1 aH aH aH).toArray)∧(b3=true→v3=.pointer (some ⟨zk,0,none⟩)∧w2.heap.size≤zk∧w'.heap[zk]? = some (.cells (bif b4 then aW (bareN m code) v1 aH aH aH else gO).toArray 26 (0,0)))) ?_ ?_ ?_ ?_ ?_ ?_
 ·exact ⟨0,x3,by simp,by simp,by simp⟩
 ·rintro b1 b2 b3 b4 v1 v2 v3 w4 hq ⟨zk,x4,f1,f2,f3⟩
  have hb2:b2=false:=by revert hq;cases b2 <;> simp
  have hb4:b4=false:=by revert hq;subst hb2;cases b4 <;> simp
  subst hb2 hb4
  refine aA ?_
  refine aK (enters_of Tryz.func62 rfl rfl) rfl rfl (FX q m.qs _ (hq2.ext x4) (by omega)) ?_
  intro v5 w5 x5 o5
  refine aA ?_
  refine aJ ⟨x4.trans x5,_,rfl,zk,x4.trans x5,fun _=>o5.weaken x4.size,by simp,fun e => ?_⟩
  obtain ⟨g1,g2,g3⟩:=f3 e
  exact ⟨g1,g2,x5.at g3⟩
 ·rintro b1 b2 b3 b4 v1 v2 v3 w4 hq ⟨zk,x4,f1,f2,f3⟩
  have hb1:b1=true:=by revert hq;cases b1 <;> simp
  have hb4:b4=false:=by revert hq;cases b4 <;> simp
  subst hb1 hb4
  refine aA ?_
  have q1:=(f1 rfl).sl.slf
  refine cH (v:=.agg (aW (bareN m code) v1 aH aH aH).toArray) rfl (Runs.build (vals:=[(0, .int .i64 m.id),(2, .int .i64 m.op),(5, .bool m.want),(1, .bool true),(7, .int .i64 code),(8,v1)]) rfl (by obtain ⟨_,_,_,rfl⟩:=q1;kernel_rfl)) ?_
  refine aA ?_
  refine aJ ⟨x4,_,rfl,zk,x4,fun _=>f1 rfl,fun _=>rfl,f3⟩
 ·rintro b1 b2 b3 b4 v1 v2 v3 w4 hq ⟨zk,x4,f1,f2,f3⟩
  have hb4:b4=false:=by revert hq;cases b4 <;> simp
  subst hb4
  refine aA ?_
  refine aL (z:=gO) rfl (by decide +kernel) ?_
  intro w5 x5 s5 h5
  refine aA ?_
  refine aJ ⟨x4.trans x5,_,rfl,_,x4.trans x5,fun e=>(f1 e).ext x5,f2,fun _=>⟨rfl,x4.size,h5⟩⟩
 ·rintro b1 b2 b3 b4 v1 v2 v3 w4 hq ⟨zk,x4,f1,f2,f3⟩
  have hb2:b2=true:=by revert hq;cases b2 <;> simp
  have hb3:b3=true:=by revert hq;cases b3 <;> simp
  have hb1:b1=true:=by revert hq;subst hb2;cases b1 <;> simp
  subst hb1 hb2 hb3
  have g2:=f2 rfl
  subst g2
  obtain ⟨rfl,g5,g6⟩:=f3 rfl
  have q1:=(f1 rfl).sl.one
  have n1:=(f1 rfl).neBlock g6 (by decide)
  refine aA ?_
  have hmb:MsgV w4 (bareN m code) v1 aH aH aH:=⟨(f1 rfl).sl,Sl.nil _ _,Sl.nil _ _,Sl.nil _ _⟩
  refine aG (v:=.agg (aW (bareN m code) v1 aH aH aH).toArray) rfl rfl rfl g6 (show aR Tryz.prog 26 13=true by decide +kernel) rfl (cM hmb) ?_
  intro w5 p5
  have x5:Ext w2 w5:=x4.move p5.mv (by rintro k ⟨⟩;exact g5)
  refine aJ ⟨x5,rfl,zk,x5,fun _=>(f1 rfl).mv p5.mv (.inr n1),by simp,fun _=>⟨rfl,g5,p5.this⟩⟩
 ·rintro v1 v2 v3 w9 ⟨zk,x9,f1,f2,f3⟩
  have o1:=f1 rfl
  have k2:=f2 rfl
  obtain ⟨k3,k4,k5⟩:=f3 rfl
  clear f1 f2 f3
  subst k2 k3
  refine aA ?_
  refine dK (by decide +kernel) ?_
  have k5':w9.heap[zk]? = some (.cells (aW (bareN m code) v1 aH aH aH).toArray 26 (0,0)):=k5
  have hpz:=aE (cs:=aW (bareN m code) v1 aH aH aH) k5'
  have hpM9:=hpM.ext x9
  unfold aW bareN at hpz
  have h9:=x9.at h2
  clear hpM
  have x09:=x02.trans x9
  have hmb:MsgV w9 (bareR m code) v1 aH aH aH:=⟨o1.sl,Sl.nil _ _,Sl.nil _ _,Sl.nil _ _⟩
  have hlt1:w1.heap.size < w2.heap.size:=by omega
  by_cases cz:m.size=0
  ·have hbr:bareR m code=bareN m code:=by unfold bareR bareN;rw [if_pos cz]
   refine_lift oZ (fun _ _ _ => ?_) (fun _ _ _ => ?_)
   all_goals first
    | (exfalso;simp_all;done)
    | skip
   refine aG (v:=.agg (aW (bareR m code) v1 aH aH aH).toArray) rfl rfl (by rw [hbr];rfl) h9 (show aR Tryz.prog 26 13=true by decide +kernel) rfl (cM hmb) ?_
   intro w10 p10
   have x10:Ext w w10:=x09.move p10.mv (by rintro k ⟨⟩;exact x1.size)
   refine_lift bG ?_
   refine bodyPost_ret (bH (cs:=aW (bareR m code) v1 aH aH aH) rfl rfl p10.this (show cP Tryz.prog 26 13=true by decide +kernel)) rfl ⟨_,rfl,x10,v1,rfl,?_⟩
   exact (o1.mv p10.mv (.inr (o1.neBlock h9 (by decide)))).weaken x02.size
  ·have hbr:bareR m code={ bareN m code with size:=1232 }:=by unfold bareR bareN;rw [if_neg cz]
   refine_lift oZ (fun _ _ _ => ?_) (fun _ _ _ => ?_)
   all_goals first
    | (exfalso;simp_all;done)
    | skip
   refine aM (n:=12) (v:=.int .i64 1232) k5' rfl rfl rfl (by simp [aW]) (by decide +kernel) rfl ?_
   intro w10 p10
   have hz10:w10.heap[zk]? = some (.cells (aW (bareR m code) v1 aH aH aH).toArray 26 (0,0)):=by rw [hbr];exact p10.this
   have x10:Ext w2 w10:=x9.move p10.mv (by rintro k ⟨⟩;exact k4)
   have h10:=x10.at h2
   have o10:=o1.mv p10.mv (.inr (o1.neBlock k5' (by decide)))
   have hmb:MsgV w10 (bareR m code) v1 aH aH aH:=⟨o10.sl,Sl.nil _ _,Sl.nil _ _,Sl.nil _ _⟩
   have hpz:=aE (cs:=aW (bareR m code) v1 aH aH aH) hz10
   rw [hbr] at hpz
   unfold aW bareN at hpz
   refine_lift dJ fun _ _ => ?_
   refine aG (v:=.agg (aW (bareR m code) v1 aH aH aH).toArray) rfl rfl (by rw [hbr];rfl) h10 (show aR Tryz.prog 26 13=true by decide +kernel) rfl (cM hmb) ?_
   intro w11 p11
   have x11:Ext w w11:=(x02.trans x10).move p11.mv (by rintro k ⟨⟩;exact x1.size)
   refine_lift bG ?_
   refine bodyPost_ret (bH (cs:=aW (bareR m code) v1 aH aH aH) rfl rfl p11.this (show cP Tryz.prog 26 13=true by decide +kernel)) rfl ⟨_,rfl,x11,v1,rfl,?_⟩
   exact (o10.mv p11.mv (.inr (o10.neBlock h10 (by decide)))).weaken x02.size
theorem NN (is:Bool) (n:Int) (w:World):Calls Tryz.prog 55 #[.bool is, .int .i64 n] w (bM w (.int .i64 (if is=true then n else 0))):=by
 go_enter Tryz.func55,Tryz.ntmps55
 cases is with
 | true =>
  refine_lift bG ?_
  go_ret
  exact ⟨rfl,Ext.refl _⟩
 | false =>
  refine_lift bG ?_
  go_ret
  exact ⟨rfl,Ext.refl _⟩
structure RecW where
 name:List UInt8
 kind:Nat
 cls:Nat
 r3:RdS
def gY (s:List UInt8) (r:RdS):RecW :=
 ⟨(fU s r).1,((fU s r).2.number s 2).1,(((fU s r).2.number s 2).2.number s 2).1,(((fU s r).2.number s 2).2.number s 2).2⟩
def IY (s:List UInt8) (last:Bool) (n i:Nat) (x:RecW):RdS :=
 ((x.r3.number s 4).2.number s 2).2.want (last && (decide ((i:Int)=(n:Int) - 1) && (decide (x.name=[]) && (decide ((512:Int)≤(x.cls:Nat)) && (decide (((x.r3.number s 4).1:Int)=0) && decide ((((x.r3.number s 4).2.number s 2).1:Int)=0)))))) 2
def pZ (s:List UInt8) (x:RecW):Nat × RdS:=(x.r3.want (decide (((x.cls:Nat):Int)=1)) 2).number s 4
def uI (s:List UInt8) (x:RecW):List UInt8 × RdS:=((pZ s x).2.number s 2).2.data s x.kind ((pZ s x).2.number s 2).1
def CZ (s:List UInt8) (x:RecW):Rec:=⟨x.name,x.kind,(pZ s x).1,(uI s x).1⟩
def wJ (s:List UInt8) (i:Nat) (x:RecW):RdS:=(uI s x).2.want (decide ((i:Int) < 200) && decide (bC (CZ s x)=0)) 2
def rA (s:List UInt8) (last:Bool) (n:Nat):Nat→Nat→List Rec→RdS→List Rec × Nat × RdS
 | 0,_,l,r=>(l,0,r)
 | f + 1,i,l,r=>if r.e≠0 then (l,0,r) else
   if (gY s r).kind=41∧(gY s r).r3.e=0 then (l,(gY s r).cls,IY s last n i (gY s r))
   else rA s last n f (i + 1) (l ++ [CZ s (gY s r)]) (wJ s i (gY s r))
def iN (s:List UInt8) (r:RdS) (n:Nat) (last:Bool):List Rec × Nat × RdS:=rA s last n n 0 [] (r.want (decide ((n:Int)≤200 + (if last=true then 1 else 0))) 2)
def DA (w:World) (b:Nat) (s:List UInt8) (o:List Rec × Nat × RdS) (e:Ending) (w':World):Prop:=∃ v,e=.returned (.tuple #[v, .int .i64 (o.2.1:Nat)])∧Own w.heap.size 4 106 w' v (aO o.1)∧dI w' b s o.2.2∧Mv (some b) w w'
theorem IZ {s:List UInt8} {r:RdS} (hr:r.Ok s) (hs:s.length≤100000000) (kind:Int) {n:Int} (hn:0≤n):(r.data s kind n).2.Ok s:=by
 have hw:=hr.want (decide (r.at_ + n≤(s.length:Int))) (er:=3) (by decide)
 unfold RdS.data
 dsimp only
 split
 ·exact hw
 ·refine RdS.Ok.want ?_ _ (by decide)
  split
  ·exact (lY hw hs).2
  ·split
   ·exact (lY (hw.take hs (by omega)) hs).2
   ·split
    ·exact (lY (lY hw hs).2 hs).2.take hs (by omega)
    ·exact hw.take hs hn
theorem nY {s:List UInt8} {r:RdS} (hr:r.Ok s) (hs:s.length≤100000000):(gY s r).r3.Ok s:=cR (cR (pW hr hs).2 hs (by omega)) hs (by omega)
theorem HV {s:List UInt8} {x:RecW} (hr:x.r3.Ok s) (hs:s.length≤100000000) (i:Nat):(wJ s i x).Ok s:=by
 unfold wJ uI pZ
 exact RdS.Ok.want (IZ (cR (cR (hr.want _ (by decide)) hs (by omega)) hs (by omega)) hs _ (Int.natCast_nonneg _)) _ (by decide)
set_option maxHeartbeats 2000000 in
theorem uJ {w:World} {b:Nat} {s:List UInt8} {r:RdS} (h:dI w b s r) (hr:r.Ok s) (hs:s.length≤1000000) (n:Nat) (hn1:n≤65535) (last:Bool):Calls Tryz.prog 47 #[.pointer (some ⟨b,0,none⟩), .int .i64 n, .bool last] w (DA w b s (iN s r n last)):=by
 have hs8:s.length≤100000000:=by omega
 have hwr:=hr.want (decide ((n:Int)≤200 + (if last=true then 1 else 0))) (er:=2) (by decide)
 have hgo:rA s last n n 0 [] (r.want (decide ((n:Int)≤200 + (if last=true then 1 else 0))) 2)=iN s r n last:=rfl
 generalize iN s r n last=RES at *
 go_enter Tryz.func47,Tryz.ntmps47
 refine_lift dJ fun _ _ => ?_
 refine aD (enters_of Tryz.func55 rfl rfl) rfl rfl (NN last 1 _) ?_;intro w1 x1;refine aA ?_
 have h1:dI w1 b s r:=x1.at h
 have hcw:=gF h1 (decide ((n:Int)≤200 + (if last=true then 1 else 0))) 2
 have hfl:(if last=true then (1:Int) else 0)≤1∧0≤(if last=true then (1:Int) else 0):=by split <;> decide
 generalize hF:(if last=true then (1:Int) else 0)=F at *
 generalize r.want (decide ((n:Int)≤200 + F)) 2=r0 at *
 refine_lift bG ?_
 refine aN (vs:=[.pointer (some ⟨b,0,none⟩), .bool (decide ((n:Int)≤200 + F)), .int .i64 2]) (enters_of Tryz.func44 rfl rfl) rfl rfl hcw ?_
 rintro _ w2 ⟨rfl,h2,m2⟩
 refine ⟨_,rfl,?_⟩
 refine aA ?_
 have m02:=(x1.mv (some b)).trans m2
 have hbw:b < w.heap.size:=(Array.getElem?_eq_some_iff.1 h).1
 refine_lift dJ fun _ _ => ?_
 go_loopw [6,7,8,9,10,11,12] (fun lv sz iv _ _ _ _ wr=>∃ (i:Nat) (l:List Rec) (r':RdS),i≤n∧iv=.int .i64 i∧sz=.int .i64 0∧Own w.heap.size 4 106 wr lv (aO l)∧l.length=i∧dI wr b s r'∧r'.Ok s∧Mv (some b) w wr∧rA s last n (n - i) i l r'=RES) (fun _ _ iv _ _ _ _ _=>n - (intOf iv).toNat)
 case atStart=>exact ⟨0,[],r0,Nat.zero_le _,rfl,rfl,Own.nil _ _ _ _,rfl,h2,hwr,m02,hgo⟩
 case round =>
  obtain ⟨i,l,r',hi,rfl,rfl,ho,hli,hR,hok,hm,hg⟩:=hrel
  have hpr:=aE (cs:=sA s r') hR
  by_cases c1:i < n
  ·by_cases c2:r'.e=0
   ·obtain ⟨f',hf'⟩:∃ f',n - i=f' + 1:=⟨n - i - 1,by omega⟩
    rw [hf'] at hg
    unfold rA at hg
    rw [if_neg (by simpa using c2)] at hg
    have hX:=nY hok hs8
    have hXe:gY s r'=⟨(fU s r').1,((fU s r').2.number s 2).1,(((fU s r').2.number s 2).2.number s 2).1,(((fU s r').2.number s 2).2.number s 2).2⟩:=rfl
    obtain ⟨hn1',hn2'⟩:=pW hok hs8
    have hcn:=HR hR hok hs8
    generalize hN:fU s r'=N at *
    obtain ⟨nm,q1⟩:=N
    dsimp only at *
    have hq2:=cR (n:=2) hn2' hs8 (by omega)
    have hk1:=dQ s q1 2 (by omega)
    have hc1:=fun w' (h':dI w' b s q1)=>eL h' hn2' hs8 2 (by omega) (by omega)
    generalize q1.number s 2=K at *
    obtain ⟨kind,q2⟩:=K
    dsimp only at *
    have hq3:=cR (n:=2) hq2 hs8 (by omega)
    have hk2:=dQ s q2 2 (by omega)
    have hc2:=fun w' (h':dI w' b s q2)=>eL h' hq2 hs8 2 (by omega) (by omega)
    generalize q2.number s 2=C at *
    obtain ⟨cls,q3⟩:=C
    dsimp only at *
    rw [hXe] at hg
    have hk1':kind < 65536:=by simpa using hk1
    have hk2':cls < 65536:=by simpa using hk2
    (repeat' first | ((with_reducible refine cY ?_);go_step) | ((with_reducible refine cJ ?_);first | refine iZ ?_ | (refine dD ?_ ?_ <;> intro hc)) | fail)
    all_goals first
     | (exfalso;omega)
     | skip
    refine aN (vs:=[.pointer (some ⟨b,0,none⟩)]) (enters_of Tryz.func45 rfl rfl) rfl rfl hcn ?_
    rintro _ w3 ⟨rfl,h3,m3⟩
    refine ⟨_,rfl,?_⟩
    refine aA ?_
    have ho3:=ho.mv m3 (.inr (ho.neBlock hR (by decide)))
    refine_lift bG ?_
    refine aT (v:=.agg #[aI nm, .int .i64 0, .int .i64 0,aI []]) (Runs.build rfl (by kernel_rfl)) ?_
    refine aA ?_
    refine aL (z:=QX) rfl (by decide +kernel) ?_
    intro w4 x4 s4 h4
    refine aA ?_
    refine aG (v:=.agg #[aI nm, .int .i64 0, .int .i64 0,aI []]) rfl rfl rfl h4 (show aR Tryz.prog 106 4=true by decide +kernel) rfl (eR rfl rfl rfl rfl) ?_
    intro w5 p5
    have x5:Ext w3 w5:=x4.move p5.mv (by rintro k ⟨⟩;exact Nat.le_refl _)
    have hx5:w5.heap[w3.heap.size]? = some (.cells [aI nm, .int .i64 0, .int .i64 0,aI []].toArray 106 (0,0)):=p5.this
    have hb5:dI w5 b s q1:=x5.at h3
    have ho5:=ho3.ext x5
    have hv5:=NH ho3 w3.heap.size (Nat.le_refl _)
    have hm5:=(hm.trans m3).trans (x5.mv (some b))
    have hbn:b < w3.heap.size:=(Array.getElem?_eq_some_iff.1 h3).1
    have hne:some w3.heap.size≠some b:=by intro e;have:=Option.some.inj e;omega
    have hwc:w.heap.size≤w3.heap.size:=(hm.trans m3).size
    generalize w3.heap.size=c at *
    clear h4 p5 x4 hpr hcn
    refine_lift dJ fun _ _ => ?_
    refine aN (vs:=[.pointer (some ⟨b,0,none⟩), .int .i64 2]) (enters_of Tryz.func43 rfl rfl) rfl rfl (hc1 _ hb5) ?_
    rintro _ w6 ⟨rfl,h6,m6⟩
    refine ⟨_,rfl,?_⟩
    refine aA ?_
    have hx6:=m6.at hx5 hne
    have hpx6:=aE hx6
    have ho6:=ho5.mv m6 (.inr (ho5.neBlock hb5 (by decide)))
    refine_lift bG ?_
    refine aM (n:=1) (v:=.int .i64 (kind:Nat)) hx6 rfl rfl rfl (by simp) (by decide +kernel) rfl ?_
    intro w7 p7
    have hx7:w7.heap[c]? = some (.cells [aI nm, .int .i64 (kind:Nat), .int .i64 0,aI []].toArray 106 (0,0)):=p7.this
    have h7:dI w7 b s q2:=p7.mv.at h6 (by intro e;exact hne e.symm)
    have ho7:=ho6.mv p7.mv hv5
    have hm7:=(hm5.trans m6).fresh p7.mv hwc
    clear hpx6
    refine_lift dJ fun _ _ => ?_
    refine aN (vs:=[.pointer (some ⟨b,0,none⟩), .int .i64 2]) (enters_of Tryz.func43 rfl rfl) rfl rfl (hc2 _ h7) ?_
    rintro _ w8 ⟨rfl,h8,m8⟩
    refine ⟨_,rfl,?_⟩
    refine aA ?_
    have hx8:=m8.at hx7 hne
    have hpx8:=aE hx8
    have hp8:=aE (cs:=sA s q3) h8
    have ho8:=ho7.mv m8 (.inr (ho7.neBlock h7 (by decide)))
    have hm8:=hm7.trans m8
    by_cases ck:kind=41∧q3.e=0
    ·obtain ⟨ck,ce⟩:=ck
     rw [if_pos ⟨ck,ce⟩] at hg
     refine_lift WD (fun hc _ _ => ?_) (fun _ _ hc _ _ _ => ?_)
     all_goals first
      | (exfalso;omega)
      | skip
     have hq4:=cR (n:=4) hq3 hs8 (by omega)
     have hk3:=dQ s q3 4 (by omega)
     have hc3:=eL h8 hq3 hs8 4 (by omega) (by omega)
     generalize hT:q3.number s 4=T at *
     obtain ⟨ttl,q4⟩:=T
     dsimp only at *
     have hk4:=dQ s q4 2 (by omega)
     have hc4:=fun w' (h':dI w' b s q4)=>eL h' hq4 hs8 2 (by omega) (by omega)
     generalize hD:q4.number s 2=D at *
     obtain ⟨dl,q5⟩:=D
     dsimp only at *
     refine aN (vs:=[.pointer (some ⟨b,0,none⟩), .int .i64 4]) (enters_of Tryz.func43 rfl rfl) rfl rfl hc3 ?_
     rintro _ w9 ⟨rfl,h9,m9⟩
     refine ⟨_,rfl,?_⟩
     refine aA ?_
     have hx9:=m9.at hx8 hne
     have ho9:=ho8.mv m9 (.inr (ho8.neBlock h8 (by decide)))
     have hm9:=hm8.trans m9
     refine_lift bG ?_
     refine aN (vs:=[.pointer (some ⟨b,0,none⟩), .int .i64 2]) (enters_of Tryz.func43 rfl rfl) rfl rfl (hc4 _ h9) ?_
     rintro _ w10 ⟨rfl,h10,m10⟩
     refine ⟨_,rfl,?_⟩
     refine aA ?_
     have hx10:=m10.at hx9 hne
     have hpx10:=aE hx10
     have ho10:=ho9.mv m10 (.inr (ho9.neBlock h9 (by decide)))
     have hm10:=hm9.trans m10
     clear hpx8 hp8
     have hcw2:=gF h10 (last && (decide ((i:Int)=(n:Int) - 1) && (decide (nm=[]) && (decide ((512:Int)≤(cls:Nat)) && (decide ((ttl:Int)=0) && decide ((dl:Int)=0)))))) 2
     have hg2:(l,cls,q5.want (last && (decide ((i:Int)=(n:Int) - 1) && (decide (nm=[]) && (decide ((512:Int)≤(cls:Nat)) && (decide ((ttl:Int)=0) && decide ((dl:Int)=0)))))) 2)=RES:=by rw [← hg];simp only [IY,hT,hD]
     generalize q5.want (last && (decide ((i:Int)=(n:Int) - 1) && (decide (nm=[]) && (decide ((512:Int)≤(cls:Nat)) && (decide ((ttl:Int)=0) && decide ((dl:Int)=0)))))) 2=qe at *
     clear hg
     (repeat' first | ((with_reducible refine cY ?_);go_step) | ((with_reducible refine cJ ?_);first | refine iZ ?_ | (refine dD ?_ ?_ <;> intro hc)) | fail)
     all_goals refine aN (vs:=[.pointer (some ⟨b,0,none⟩), .bool (last && (decide ((i:Int)=(n:Int) - 1) && (decide (nm=[]) && (decide ((512:Int)≤(cls:Nat)) && (decide ((ttl:Int)=0) && decide ((dl:Int)=0)))))), .int .i64 2]) (enters_of Tryz.func44 rfl rfl) rfl ?_ hcw2 ?_
     all_goals first
      | (refine congrArg (fun z=>[Value.pointer (some ⟨b,0,none⟩),Value.bool z, .int .i64 2]) ?_;simp only [*,decide_true,decide_false,Bool.and_true,Bool.true_and,Bool.and_false,Bool.false_and,and_self,not_false_eq_true];done)
      | skip
     all_goals rintro _ w11 ⟨rfl,h11,m11⟩
     all_goals refine ⟨_,rfl,?_⟩
     all_goals refine aA ?_
     all_goals have ho11:=ho10.mv m11 (.inr (ho10.neBlock h10 (by decide)))
     all_goals have hm11:=hm10.trans m11
     all_goals refine_lift bG ?_
     all_goals go_ret2
     all_goals rw [← hg2]
     all_goals exact ⟨_,rfl,ho11,h11,hm11⟩
    ·rw [if_neg ck] at hg
     have hw3:=hq3.want (decide ((cls:Int)=1)) (er:=2) (by decide)
     have hcw3:=gF h8 (decide ((cls:Int)=1)) 2
     have hN9:wJ s i ⟨nm,kind,cls,q3⟩=(uI s ⟨nm,kind,cls,q3⟩).2.want (decide ((i:Int) < 200) && decide (bC (CZ s ⟨nm,kind,cls,q3⟩)=0)) 2:=rfl
     have hR9:CZ s ⟨nm,kind,cls,q3⟩=⟨nm,kind,(pZ s ⟨nm,kind,cls,q3⟩).1,(uI s ⟨nm,kind,cls,q3⟩).1⟩:=rfl
     have hD9:uI s ⟨nm,kind,cls,q3⟩=((pZ s ⟨nm,kind,cls,q3⟩).2.number s 2).2.data s kind ((pZ s ⟨nm,kind,cls,q3⟩).2.number s 2).1:=rfl
     have hT9:pZ s ⟨nm,kind,cls,q3⟩=(q3.want (decide ((cls:Int)=1)) 2).number s 4:=rfl
     generalize q3.want (decide ((cls:Int)=1)) 2=y1 at *
     have hy2:=cR (n:=4) hw3 hs8 (by omega)
     have hk3:=dQ s y1 4 (by omega)
     have hc3:=fun w' (h':dI w' b s y1)=>eL h' hw3 hs8 4 (by omega) (by omega)
     generalize y1.number s 4=T at *
     obtain ⟨ttl,y2⟩:=T
     rw [hT9] at hD9 hR9
     dsimp only at *
     have hy3:=cR (n:=2) hy2 hs8 (by omega)
     have hk4:=dQ s y2 2 (by omega)
     have hc4:=fun w' (h':dI w' b s y2)=>eL h' hy2 hs8 2 (by omega) (by omega)
     generalize y2.number s 2=D at *
     obtain ⟨dl,y3⟩:=D
     dsimp only at *
     have hk4':dl < 65536:=by simpa using hk4
     have hy4:=IZ hy3 hs8 kind (n:=(dl:Nat)) (Int.natCast_nonneg _)
     have hc5:=fun w' (h':dI w' b s y3)=>ST h' hy3 hs kind (dl:Nat) (Int.natCast_nonneg _) (by omega)
     generalize y3.data s kind (dl:Nat)=E9 at *
     obtain ⟨dat,y4⟩:=E9
     rw [hD9] at hR9 hN9
     dsimp only at *
     rw [hR9] at hN9 hg
     rw [hN9] at hg
     clear hN9 hR9 hD9 hT9
     have hy5:=hy4.want (decide ((i:Int) < 200) && decide (bC ⟨nm,kind,ttl,dat⟩=0)) (er:=2) (by decide)
     have hc6:=fun w' (h':dI w' b s y4)=>gF h' (decide ((i:Int) < 200) && decide (bC ⟨nm,kind,ttl,dat⟩=0)) 2
     generalize y4.want (decide ((i:Int) < 200) && decide (bC ⟨nm,kind,ttl,dat⟩=0)) 2=y5 at *
     refine_lift UE (fun hc _ _ => ?_) (fun hc _ _ _ => ?_)
     all_goals first
      | (exfalso;omega)
      | skip
     all_goals refine aN (vs:=[.pointer (some ⟨b,0,none⟩), .bool (decide ((cls:Int)=1)), .int .i64 2]) (enters_of Tryz.func44 rfl rfl) rfl rfl hcw3 ?_
     all_goals rintro _ w9 ⟨rfl,h9,m9⟩
     all_goals refine ⟨_,rfl,?_⟩
     all_goals refine aA ?_
     all_goals have hx9:=m9.at hx8 hne
     all_goals have hpx9:=aE hx9
     all_goals have ho9:=ho8.mv m9 (.inr (ho8.neBlock h8 (by decide)))
     all_goals have hm9:=hm8.trans m9
     all_goals clear hpx8 hp8
     all_goals refine_lift dJ fun _ _ => ?_
     all_goals refine aN (vs:=[.pointer (some ⟨b,0,none⟩), .int .i64 4]) (enters_of Tryz.func43 rfl rfl) rfl rfl (hc3 _ h9) ?_
     all_goals rintro _ w10 ⟨rfl,h10,m10⟩
     all_goals refine ⟨_,rfl,?_⟩
     all_goals refine aA ?_
     all_goals have hx10:=m10.at hx9 hne
     all_goals have hpx10:=aE hx10
     all_goals have ho10:=ho9.mv m10 (.inr (ho9.neBlock h9 (by decide)))
     all_goals have hm10:=hm9.trans m10
     all_goals clear hpx9
     all_goals refine_lift bG ?_
     all_goals refine aM (n:=2) (v:=.int .i64 (ttl:Nat)) hx10 rfl rfl rfl (by simp) (by decide +kernel) rfl ?_
     all_goals intro w11 p11
     all_goals have hx11:w11.heap[c]? = some (.cells [aI nm, .int .i64 (kind:Nat), .int .i64 (ttl:Nat),aI []].toArray 106 (0,0)):=p11.this
     all_goals have h11:dI w11 b s y2:=p11.mv.at h10 (by intro e;exact hne e.symm)
     all_goals have ho11:=ho10.mv p11.mv hv5
     all_goals have hm11:=hm10.fresh p11.mv hwc
     all_goals clear hpx10
     all_goals refine_lift dJ fun _ _ => ?_
     all_goals refine bV 5 (fun w'=>Pts w' (.pointer (some ⟨c,0,none⟩)) [aI nm, .int .i64 (kind:Nat), .int .i64 (ttl:Nat),aI []]) (by decide +kernel) ?_
     all_goals intro w12 x12 _
     all_goals have hx12:=x12.at hx11
     all_goals have h12:dI w12 b s y2:=x12.at h11
     all_goals have ho12:=ho11.ext x12
     all_goals have hm12:=hm11.trans (x12.mv _)
     all_goals refine ⟨aE hx12,?_⟩
     all_goals refine cV 0 ?_;refine cV 1 ?_;refine cV 2 ?_;refine cV 3 ?_
     all_goals refine bE (i:=4) (by decide +kernel) rfl rfl ?_
     all_goals refine aN (vs:=[.pointer (some ⟨b,0,none⟩), .int .i64 2]) (enters_of Tryz.func43 rfl rfl) rfl rfl (hc4 _ h12) ?_
     all_goals rintro _ w13 ⟨rfl,h13,m13⟩
     all_goals refine ⟨_,rfl,?_⟩
     all_goals refine aA ?_
     all_goals have hx13:=m13.at hx12 hne
     all_goals have ho13:=ho12.mv m13 (.inr (ho12.neBlock h12 (by decide)))
     all_goals have hm13:=hm12.trans m13
     all_goals refine aJ ⟨cC (aE hx13),?_⟩
     all_goals refine bE (i:=5) (by decide +kernel) rfl rfl ?_
     all_goals refine aN (vs:=[.pointer (some ⟨b,0,none⟩), .int .i64 (kind:Nat), .int .i64 (dl:Nat)]) (enters_of Tryz.func99 rfl rfl) rfl rfl (hc5 _ h13) ?_
     all_goals rintro _ w14 ⟨rfl,h14,m14⟩
     all_goals refine ⟨_,rfl,?_⟩
     all_goals refine aA ?_
     all_goals have hx14:=m14.at hx13 hne
     all_goals have hpx14:=aE hx14
     all_goals have ho14:=ho13.mv m14 (.inr (ho13.neBlock h13 (by decide)))
     all_goals have hm14:=hm13.trans m14
     all_goals refine aJ ⟨bT rfl,?_⟩
     all_goals refine bE (i:=6) (by decide +kernel) rfl rfl ?_
     all_goals ((with_reducible refine cJ ?_);(first | (refine jO ?_;refine fV ?_) | (refine oN ?_;refine qV ?_;(with_reducible refine cJ ?_);refine jO ?_;refine fV ?_)))
     all_goals refine aJ ⟨bT rfl,?_⟩
     all_goals refine bE (i:=7) (by decide +kernel) rfl rfl ?_
     all_goals refine aM (n:=3) (v:=aI dat) hx14 rfl rfl rfl (by simp) (by decide +kernel) rfl ?_
     all_goals intro w15 p15
     all_goals have hx15:w15.heap[c]? = some (.cells [aI nm, .int .i64 (kind:Nat), .int .i64 (ttl:Nat),aI dat].toArray 106 (0,0)):=p15.this
     all_goals have hpx15:=aE hx15
     all_goals have h15:dI w15 b s y4:=p15.mv.at h14 (by intro e;exact hne e.symm)
     all_goals have ho15:=ho14.mv p15.mv hv5
     all_goals have hm15:=hm14.fresh p15.mv hwc
     all_goals clear hpx14
     all_goals refine aJ ⟨bT rfl,?_⟩
     all_goals refine cN (by decide +kernel) ?_
     all_goals refine_lift oZ (fun _ _ hc => ?_) (fun _ _ hc => ?_)
     all_goals first
      | (refine aD (enters_of Tryz.func100 rfl rfl) rfl rfl (VO ⟨nm,kind,ttl,dat⟩ _) ?_;intro w16 x16;refine aA ?_
         have h16:=x16.at h15
         have hx16:=x16.at hx15
         have hpx16:=aE hx16
         have ho16:=ho15.ext x16
         have hm16:=hm15.trans (x16.mv _)
         refine_lift bG ?_)
      | (have h16:=h15
         have hx16:=hx15
         have hpx16:=hpx15
         have ho16:=ho15
         have hm16:=hm15)
     all_goals clear hpx15
     all_goals refine aN (vs:=[.pointer (some ⟨b,0,none⟩), .bool (decide ((i:Int) < 200) && decide (bC ⟨nm,kind,ttl,dat⟩=0)), .int .i64 2]) (enters_of Tryz.func44 rfl rfl) rfl ?_ (hc6 _ h16) ?_
     all_goals first
      | (refine congrArg (fun z=>[Value.pointer (some ⟨b,0,none⟩),Value.bool z, .int .i64 2]) ?_;simp [*];done)
      | skip
     all_goals rintro _ w17 ⟨rfl,h17,m17⟩
     all_goals refine ⟨_,rfl,?_⟩
     all_goals refine aA ?_
     all_goals have hpx17:Pts w17 (.pointer (some ⟨c,0,none⟩)) [aI nm, .int .i64 (kind:Nat), .int .i64 (ttl:Nat),aI dat]:=aE (m17.at hx16 hne)
     all_goals have ho17:=ho16.mv m17 (.inr (ho16.neBlock h16 (by decide)))
     all_goals have hm17:=hm16.trans m17
     all_goals clear hpx16
     all_goals refine_lift bG ?_
     all_goals refine bN (e:=106) (k:=4) (bytes:=48) (xs:=[.agg #[aI nm, .int .i64 (kind:Nat), .int .i64 (ttl:Nat),aI dat]]) rfl rfl rfl (by simp [Value.cells]) (by decide +kernel) (by simp) ?_
     all_goals intro u18 w18 x18 _ sl18 o18
     all_goals refine aA ?_
     all_goals have h18:dI w18 b s y5:=x18.at h17
     all_goals have ho18:=ho17.ext x18
     all_goals have hm18:=hm17.trans (x18.mv _)
     all_goals refine bU (v0:=u6) (es:=aO l) (fs:=[[aI nm, .int .i64 (kind:Nat), .int .i64 (ttl:Nat),aI dat]]) rfl ho18 rfl sl18 (by simp [aI,Value.oneCell']) hm18.size (by simp [aO];omega) ?_
     all_goals intro v19 w19 o19 m19 _
     all_goals refine aA ?_
     all_goals have h19:dI w19 b s y5:=m19.at h18 (fun e=>(ho18.neBlock h18 (by decide)) e.symm)
     all_goals have hm19:=hm18.fresh' m19 (fun c hc=>(ho18.block c hc).1)
     all_goals refine_lift bG ?_
     all_goals refine ⟨⟨i + 1,l ++ [⟨nm,kind,ttl,dat⟩],y5,by omega,by go_num,rfl,by simpa [aO,Rec.cells] using o19,by simp [hli],h19,hy5,hm19,?_⟩,by simp [intOf];omega⟩
     all_goals rw [show n - (i + 1)=f' by omega]
     all_goals exact hg
   ·obtain ⟨f',hf'⟩:∃ f',n - i=f' + 1:=⟨n - i - 1,by omega⟩
    rw [hf'] at hg
    unfold rA at hg
    rw [if_pos c2] at hg
    refine_lift VY (fun hc => ?_) (fun hc _ => ?_)
    all_goals first
     | (exfalso;omega)
     | skip
    go_ret2
    rw [← hg]
    exact ⟨_,rfl,ho,hR,hm⟩
  ·have hn0:n - i=0:=by omega
   rw [hn0] at hg
   unfold rA at hg
   refine_lift nK fun hc => ?_
   all_goals first
    | (exfalso;omega)
    | skip
   go_ret2
   rw [← hg]
   exact ⟨_,rfl,ho,hR,hm⟩
end Go.Proofs.X
