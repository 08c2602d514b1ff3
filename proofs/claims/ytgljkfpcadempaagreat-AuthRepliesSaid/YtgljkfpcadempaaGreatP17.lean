/- Laws and walks that the proof of the statement is made of (part 17). -/
import Derived.Test.YtgljkfpcadempaaGreatP16
set_option linter.unusedSimpArgs false
set_option linter.unusedVariables false
namespace Go.Proofs.X
open Go.RowKit
set_option maxRecDepth 100000
theorem tI {fn:Func} {t u v x:Tmp} (h:fn.results=#[.tmp t, .tmp u, .tmp v, .tmp x]) (ts:Array Value) (P:Program) (w:World):(results fn ts).run P w=.ok (.tuple #[ts.getD t undef,ts.getD u undef,ts.getD v undef,ts.getD x undef]) w:=by simp [results,h]
def bI (f k:Nat):Bool := !decide (((f &&& k:Nat):Int)=0)
def NO:RdS:=⟨0,0⟩
def qT (s:List UInt8):Nat × RdS:=NO.number s 2
def kO (s:List UInt8):Nat × RdS:=(qT s).2.number s 2
def DC (s:List UInt8) (e:Ending) (w w':World):Prop :=
 e=.returned (.tuple (if s.length < 12 then #[.int .i64 0, .int .i64 0, .bool false, .int .i64 3] else #[.int .i64 ((qT s).1:Nat), .int .i64 (((kO s).1 / 2048 &&& 15:Nat):Int), .bool (bI (kO s).1 32768), .int .i64 0]))∧Ext w w'
theorem NP (s:List UInt8) (hs:s.length≤100000000):NO.Ok s:=by
 constructor
 all_goals (simp [NO];try omega)
theorem SY {w:World} (s:List UInt8) (hs:s.length≤1000000):Calls Tryz.prog 18 #[aI s] w (fun e w'=>DC s e w w'):=by
 have hs8:s.length≤100000000:=by omega
 have h0:=NP s hs8
 unfold DC kO qT
 go_enter Tryz.func18,Tryz.ntmps18
 have h1:=cR (n:=2) h0 hs8 (by omega)
 have l1:=dQ s NO 2 (by omega)
 have c1:=fun w' b (h':dI w' b s NO)=>eL h' h0 hs8 2 (by omega) (by omega)
 generalize NO.number s 2=R1 at *
 obtain ⟨id,r1⟩:=R1
 dsimp only at *
 have l2:=dQ s r1 2 (by omega)
 have c2:=fun w' b (h':dI w' b s r1)=>eL h' h1 hs8 2 (by omega) (by omega)
 generalize r1.number s 2=R2 at *
 obtain ⟨fl,r2⟩:=R2
 dsimp only at *
 by_cases cl:s.length < 12
 ·rw [if_pos cl]
  refine_lift nK fun _ => ?_
  all_goals first
   | (exfalso;omega)
   | skip
  refine bodyPost_ret (tI rfl _ _ _) rfl ?_
  exact ⟨rfl,Ext.refl _⟩
 ·rw [if_neg cl]
  refine_lift xI ?_;intro _ _ _ _
  all_goals first
   | (exfalso;omega)
   | skip
  refine aT (v:=.agg #[aI s, .int .i64 0, .int .i64 0]) (Runs.build rfl (by kernel_rfl)) ?_
  refine aA ?_
  refine eK (vs:=[aI s, .int .i64 0, .int .i64 0]) rfl rfl ?_
  intro w1 x1 s1 hb1
  refine aA ?_
  have hR1:dI w1 w.heap.size s NO:=hb1
  refine_lift dJ fun _ _ => ?_
  refine aN (vs:=[.pointer (some ⟨w.heap.size,0,none⟩), .int .i64 2]) (enters_of Tryz.func43 rfl rfl) rfl rfl (c1 _ _ hR1) ?_
  rintro _ w2 ⟨rfl,h2,m2⟩
  refine ⟨_,rfl,?_⟩
  refine aA ?_
  refine_lift bG ?_
  refine aN (vs:=[.pointer (some ⟨w.heap.size,0,none⟩), .int .i64 2]) (enters_of Tryz.func43 rfl rfl) rfl rfl (c2 _ _ h2) ?_
  rintro _ w3 ⟨rfl,h3,m3⟩
  refine ⟨_,rfl,?_⟩
  refine aA ?_
  refine_lift dJ fun _ _ => ?_
  have l2':fl < 65536:=by simpa using l2
  refine aT (Runs.andN (m:=fl / 2048) (n:=15) (by show Value.int .i64 _=_;simp) rfl (by omega) (by decide)) ?_
  refine aA ?_
  refine_lift bG ?_
  refine aT (Runs.andN (m:=fl) (n:=32768) rfl rfl (by omega) (by decide)) ?_
  refine aA ?_
  refine_lift bG ?_
  refine bodyPost_ret (tI rfl _ _ _) rfl ?_
  exact ⟨rfl,x1.move (m2.trans m3) (by rintro k ⟨⟩;exact Nat.le_refl _)⟩
def NQ (x:RecW):RdS:=x.r3.want (decide (((x.cls:Nat):Int)=1) && tE (x.name,((x.kind:Nat):Int))) 2
def KQ (s:List UInt8):Nat→List qS→RdS→List qS × RdS
 | 0,l,r=>(l,r)
 | f + 1,l,r=>if r.e≠0 then (l,r) else KQ s f (l ++ [((gY s r).name,(((gY s r).kind:Nat):Int))]) (NQ (gY s r))
def RD (s:List UInt8):RdS:=(kO s).2.want (decide ((((kO s).1 &&& 112:Nat):Int)=0)) 2
def qU (s:List UInt8):Nat × RdS:=(RD s).number s 2
def vU (s:List UInt8):Nat × RdS:=(qU s).2.number s 2
def vV (s:List UInt8):Nat × RdS:=(vU s).2.number s 2
def zB (s:List UInt8):Nat × RdS:=(vV s).2.number s 2
def SZ (s:List UInt8):RdS:=(zB s).2.want (decide (((qU s).1:Int)≤10)) 2
def PZ (s:List UInt8):List qS × RdS:=KQ s (qU s).1 [] (SZ s)
def TA (s:List UInt8):List Rec × Nat × RdS:=iN s (PZ s).2 (vU s).1 false
def TB (s:List UInt8):List Rec × Nat × RdS:=iN s (TA s).2.2 (vV s).1 false
def QA (s:List UInt8):List Rec × Nat × RdS:=iN s (TB s).2.2 (zB s).1 true
def TQ (s:List UInt8):RdS:=(QA s).2.2.want (decide ((QA s).2.2.at_=(s.length:Int))) 2
def WO:MsgR:=⟨0,false,0,false,false,false,false,0,[],[],[],[],0⟩
def fG (s:List UInt8):MsgR × Int :=
 if (TQ s).e=0 then (⟨((qT s).1:Nat),bI (kO s).1 32768,(((kO s).1 / 2048 &&& 15:Nat):Int),bI (kO s).1 1024,bI (kO s).1 512,bI (kO s).1 256,bI (kO s).1 128,(((kO s).1 &&& 15:Nat):Int),(PZ s).1,(TA s).1,(TB s).1,(QA s).1,((QA s).2.1:Nat)⟩,0)
 else (WO,(TQ s).e)
def HW (s:List UInt8) (e:Ending) (w w':World):Prop:=∃ q a u x,e=.returned (.tuple #[.agg (aW (fG s).1 q a u x).toArray, .int .i64 (fG s).2])∧MsgV w' (fG s).1 q a u x∧Ext w w'
theorem NR {s:List UInt8} {x:RecW} (hr:x.r3.Ok s):(NQ x).Ok s:=hr.want _ (by decide)
theorem TC {s:List UInt8} (hs:s.length≤100000000):∀ (f:Nat) (l:List qS) (r:RdS),r.Ok s→(KQ s f l r).2.Ok s:=by
 intro f
 induction f with
 | zero=>intro l r h;exact h
 | succ f ih =>
  intro l r h
  unfold KQ
  split
  ·exact h
  ·exact ih _ _ (NR (nY h hs))
theorem NS {s:List UInt8} (hs:s.length≤100000000) (last:Bool) (n:Nat):∀ (f i:Nat) (l:List Rec) (r:RdS),r.Ok s→(rA s last n f i l r).2.2.Ok s:=by
 intro f
 induction f with
 | zero=>intro i l r h;exact h
 | succ f ih =>
  intro i l r h
  unfold rA
  have hX:=nY h hs
  split
  ·exact h
  ·split
   ·exact RdS.Ok.want (cR (cR hX hs (by omega)) hs (by omega)) _ (by decide)
   ·exact ih _ _ _ (HV hX hs _)
theorem vL {s:List UInt8} (hs:s.length≤100000000) {r:RdS} (h:r.Ok s) (n:Nat) (last:Bool):(iN s r n last).2.2.Ok s:=NS hs _ _ _ _ _ _ (h.want _ (by decide))
theorem QB {a b:Value} (h1:a.oneCell'=true) (h2:b.oneCell'=true):(Value.agg #[a,b]).cells.all (·.oneCell')=true:=by simp [Value.cells,h1,h2]
set_option maxHeartbeats 8000000 in
theorem FY {w:World} (s:List UInt8) (hs:s.length≤1000000):Calls Tryz.prog 19 #[aI s] w (fun e w'=>HW s e w w'):=by
 have hs8:s.length≤100000000:=by omega
 have o0:=NP s hs8
 have o1:(qT s).2.Ok s:=cR o0 hs8 (by omega)
 have o2:(kO s).2.Ok s:=cR o1 hs8 (by omega)
 have o3:(RD s).Ok s:=o2.want _ (by decide)
 have o4:(qU s).2.Ok s:=cR o3 hs8 (by omega)
 have o5:(vU s).2.Ok s:=cR o4 hs8 (by omega)
 have o6:(vV s).2.Ok s:=cR o5 hs8 (by omega)
 have o7:(zB s).2.Ok s:=cR o6 hs8 (by omega)
 have o8:(SZ s).Ok s:=o7.want _ (by decide)
 have o9:(PZ s).2.Ok s:=TC hs8 _ _ _ o8
 have o10:(TA s).2.2.Ok s:=vL hs8 o9 _ _
 have o11:(TB s).2.2.Ok s:=vL hs8 o10 _ _
 have l1:(qT s).1 < 65536:=by have:=dQ s NO 2 (by omega);simpa [qT] using this
 have l2:(kO s).1 < 65536:=by have:=dQ s (qT s).2 2 (by omega);simpa [kO] using this
 have n1:(qU s).1 < 65536:=by have:=dQ s (RD s) 2 (by omega);simpa [qU] using this
 have n2:(vU s).1 < 65536:=by have:=dQ s (qU s).2 2 (by omega);simpa [vU] using this
 have n3:(vV s).1 < 65536:=by have:=dQ s (vU s).2 2 (by omega);simpa [vV] using this
 have n4:(zB s).1 < 65536:=by have:=dQ s (vV s).2 2 (by omega);simpa [zB] using this
 have c1:=fun w' b (h':dI w' b s NO)=>eL h' o0 hs8 2 (by omega) (by omega)
 have c2:=fun w' b (h':dI w' b s (qT s).2)=>eL h' o1 hs8 2 (by omega) (by omega)
 have c3:=fun w' b (h':dI w' b s (kO s).2)=>gF h' (decide ((((kO s).1 &&& 112:Nat):Int)=0)) 2
 have c4:=fun w' b (h':dI w' b s (RD s))=>eL h' o3 hs8 2 (by omega) (by omega)
 have c5:=fun w' b (h':dI w' b s (qU s).2)=>eL h' o4 hs8 2 (by omega) (by omega)
 have c6:=fun w' b (h':dI w' b s (vU s).2)=>eL h' o5 hs8 2 (by omega) (by omega)
 have c7:=fun w' b (h':dI w' b s (vV s).2)=>eL h' o6 hs8 2 (by omega) (by omega)
 have c8:=fun w' b (h':dI w' b s (zB s).2)=>gF h' (decide (((qU s).1:Int)≤10)) 2
 have c10:=fun w' b (h':dI w' b s (PZ s).2)=>uJ h' o9 hs (vU s).1 (by omega) false
 have c11:=fun w' b (h':dI w' b s (TA s).2.2)=>uJ h' o10 hs (vV s).1 (by omega) false
 have c12:=fun w' b (h':dI w' b s (TB s).2.2)=>uJ h' o11 hs (zB s).1 (by omega) true
 have c13:=fun w' b (h':dI w' b s (QA s).2.2)=>gF h' (decide ((QA s).2.2.at_=(s.length:Int))) 2
 have hQ:KQ s (qU s).1 [] (SZ s)=PZ s:=rfl
 change ∀ w' b,dI w' b s NO→Calls _ _ _ _ (lP w' b s (.int .i64 ((qT s).1:Nat)) (qT s).2) at c1
 change ∀ w' b,dI w' b s (qT s).2→Calls _ _ _ _ (lP w' b s (.int .i64 ((kO s).1:Nat)) (kO s).2) at c2
 change ∀ w' b,dI w' b s (kO s).2→Calls _ _ _ _ (lP w' b s (.bool (decide ((RD s).e=0))) (RD s)) at c3
 change ∀ w' b,dI w' b s (RD s)→Calls _ _ _ _ (lP w' b s (.int .i64 ((qU s).1:Nat)) (qU s).2) at c4
 change ∀ w' b,dI w' b s (qU s).2→Calls _ _ _ _ (lP w' b s (.int .i64 ((vU s).1:Nat)) (vU s).2) at c5
 change ∀ w' b,dI w' b s (vU s).2→Calls _ _ _ _ (lP w' b s (.int .i64 ((vV s).1:Nat)) (vV s).2) at c6
 change ∀ w' b,dI w' b s (vV s).2→Calls _ _ _ _ (lP w' b s (.int .i64 ((zB s).1:Nat)) (zB s).2) at c7
 change ∀ w' b,dI w' b s (zB s).2→Calls _ _ _ _ (lP w' b s (.bool (decide ((SZ s).e=0))) (SZ s)) at c8
 change ∀ w' b,dI w' b s (PZ s).2→Calls _ _ _ _ (DA w' b s (TA s)) at c10
 change ∀ w' b,dI w' b s (TA s).2.2→Calls _ _ _ _ (DA w' b s (TB s)) at c11
 change ∀ w' b,dI w' b s (TB s).2.2→Calls _ _ _ _ (DA w' b s (QA s)) at c12
 change ∀ w' b,dI w' b s (QA s).2.2→Calls _ _ _ _ (lP w' b s (.bool (decide ((TQ s).e=0))) (TQ s)) at c13
 unfold HW fG
 generalize qT s=H1 at *
 generalize kO s=H2 at *
 generalize RD s=W1 at *
 generalize qU s=N1 at *
 generalize vU s=N2 at *
 generalize vV s=N3 at *
 generalize zB s=N4 at *
 generalize SZ s=V1 at *
 generalize PZ s=Q9 at *
 generalize TA s=A9 at *
 generalize TB s=U9 at *
 generalize QA s=X9 at *
 generalize TQ s=E9 at *
 obtain ⟨id,r1⟩:=H1
 obtain ⟨fl,r2⟩:=H2
 obtain ⟨k1,r4⟩:=N1
 obtain ⟨k2,r5⟩:=N2
 obtain ⟨k3,r6⟩:=N3
 obtain ⟨k4,r7⟩:=N4
 dsimp only at *
 go_enter Tryz.func19,Tryz.ntmps19
 refine_lift vZ ?_;intro _ _ _
 refine aL (z:=gO) rfl (by decide +kernel) ?_
 intro wa xa sa ha
 refine aA ?_
 refine_lift dJ fun _ _ => ?_
 refine aT (v:=.agg #[aI s, .int .i64 0, .int .i64 0]) (Runs.build rfl (by kernel_rfl)) ?_
 refine aA ?_
 refine eK (vs:=[aI s, .int .i64 0, .int .i64 0]) rfl rfl ?_
 intro wb xb sb hb
 refine aA ?_
 have hR1:dI wb wa.heap.size s NO:=hb
 have xab:=xa.trans xb
 have hab:=xa.size
 have hbl:wa.heap.size < wb.heap.size:=by omega
 have hal:w.heap.size < wa.heap.size:=by omega
 have ha1:=xb.at ha
 generalize hb9:wa.heap.size=b at *
 clear ha hb
 refine_lift dJ fun _ _ => ?_
 refine aN (vs:=[.pointer (some ⟨b,0,none⟩), .int .i64 2]) (enters_of Tryz.func43 rfl rfl) rfl rfl (c1 _ _ hR1) ?_
 rintro _ w1 ⟨rfl,h1,m1⟩
 refine ⟨_,rfl,?_⟩
 refine aA ?_
 refine_lift bG ?_
 refine aT (v:=.agg (aW ⟨(id:Nat),false,0,false,false,false,false,0,[],[],[],[],0⟩ (.slice none 0 0) (.slice none 0 0) (.slice none 0 0) (.slice none 0 0)).toArray) (Runs.build rfl (by kernel_rfl)) ?_
 refine aA ?_
 refine aL (z:=gO) rfl (by decide +kernel) ?_
 intro w2 x2 s2 hz2
 refine aA ?_
 refine aG (v:=.agg (aW ⟨(id:Nat),false,0,false,false,false,false,0,[],[],[],[],0⟩ (.slice none 0 0) (.slice none 0 0) (.slice none 0 0) (.slice none 0 0)).toArray) rfl rfl rfl hz2 (show aR Tryz.prog 26 13=true by decide +kernel) rfl (cM (w:=w2) (m:=⟨(id:Nat),false,0,false,false,false,false,0,[],[],[],[],0⟩) ⟨Sl.nil _ _,Sl.nil _ _,Sl.nil _ _,Sl.nil _ _⟩) ?_
 intro w3 p3
 have hM3:w3.heap[w1.heap.size]? = some (.cells (aW ⟨(id:Nat),false,0,false,false,false,false,0,[],[],[],[],0⟩ (.slice none 0 0) (.slice none 0 0) (.slice none 0 0) (.slice none 0 0)).toArray 26 (0,0)):=p3.this
 have x13:Ext w1 w3:=x2.move p3.mv (by rintro k ⟨⟩;exact Nat.le_refl _)
 have h3:dI w3 b s r1:=x13.at h1
 have hsz:=m1.size
 have hne:some w1.heap.size≠some b:=by intro e;have:=Option.some.inj e;omega
 have hcw:w.heap.size≤w1.heap.size:=by omega
 have hbw:w.heap.size≤b:=by omega
 have hb1:b < w1.heap.size:=by omega
 have ha1':wb.heap[w.heap.size]? = _:=ha1
 have ha2:=m1.at ha1 (by intro e;have:=Option.some.inj e;omega)
 have ha3:=x13.at ha2
 have x3:Ext w w3:=(xab.move m1 (by rintro k ⟨⟩;omega)).trans x13
 clear ha1 ha1' ha2 hz2 p3 x2 hR1
 have hac:w.heap.size < w1.heap.size:=by omega
 generalize hc9:w1.heap.size=c at *
 refine_lift dJ fun _ _ => ?_
 have hna:some w.heap.size≠some b:=by intro e;have:=Option.some.inj e;omega
 have hnc:some w.heap.size≠some c:=by intro e;have:=Option.some.inj e;omega
 refine_lift bG ?_
 refine aN (vs:=[.pointer (some ⟨b,0,none⟩), .int .i64 2]) (enters_of Tryz.func43 rfl rfl) rfl rfl (c2 _ _ h3) ?_
 rintro _ w4 ⟨rfl,h4,m4⟩
 refine ⟨_,rfl,?_⟩
 refine aA ?_
 have hM4:=m4.at hM3 hne
 have ha4:=m4.at ha3 hna
 have x4:Ext w w4:=x3.move m4 (by rintro k ⟨⟩;exact hbw)
 clear h3 hM3 ha3 x3 m4
 refine_lift dJ fun _ _ => ?_
 refine aT (Runs.andN (m:=fl) (n:=112) rfl rfl (by omega) (by decide)) ?_
 refine aA ?_
 refine_lift bG ?_
 refine aN (vs:=[.pointer (some ⟨b,0,none⟩), .bool (decide (((fl &&& 112:Nat):Int)=0)), .int .i64 2]) (enters_of Tryz.func44 rfl rfl) rfl rfl (c3 _ _ h4) ?_
 rintro _ w5 ⟨rfl,h5,m5⟩
 refine ⟨_,rfl,?_⟩
 refine aA ?_
 have hM5:=m5.at hM4 hne
 have ha5:=m5.at ha4 hna
 have x5:Ext w w5:=x4.move m5 (by rintro k ⟨⟩;exact hbw)
 clear h4 hM4 ha4 x4 m5
 refine_lift dJ fun _ _ => ?_
 refine aT (Runs.andN (m:=fl) (n:=32768) rfl rfl (by omega) (by decide)) ?_
 refine aA ?_
 refine_lift bG ?_
 refine aT (Runs.andN (m:=fl) (n:=1024) rfl rfl (by omega) (by decide)) ?_
 refine aA ?_
 refine_lift bG ?_
 refine aT (Runs.andN (m:=fl) (n:=512) rfl rfl (by omega) (by decide)) ?_
 refine aA ?_
 refine_lift bG ?_
 refine aT (Runs.andN (m:=fl) (n:=256) rfl rfl (by omega) (by decide)) ?_
 refine aA ?_
 refine_lift bG ?_
 refine aT (Runs.andN (m:=fl) (n:=128) rfl rfl (by omega) (by decide)) ?_
 refine aA ?_
 refine_lift bG ?_
 refine aM (n:=1) (v:=.bool (bI fl 32768)) hM5 rfl rfl rfl (by simp [aW]) (by decide +kernel) rfl ?_
 intro w6 p6
 have hM6:w6.heap[c]? = some (.cells (aW ⟨((id:Nat):Int),(bI fl 32768),0,false,false,false,false,0,[],[],[],[],0⟩ (.slice none 0 0) (.slice none 0 0) (.slice none 0 0) (.slice none 0 0)).toArray 26 (0,0)):=p6.this
 have h6:=p6.mv.at h5 (by intro e;exact hne e.symm)
 have ha6:=p6.mv.at ha5 hnc
 have x6:Ext w w6:=x5.move p6.mv (by rintro k ⟨⟩;exact hcw)
 clear h5 hM5 ha5 x5 p6
 refine_lift bG ?_
 refine aM (n:=3) (v:=.bool (bI fl 1024)) hM6 rfl rfl rfl (by simp [aW]) (by decide +kernel) rfl ?_
 intro w7 p7
 have hM7:w7.heap[c]? = some (.cells (aW ⟨((id:Nat):Int),(bI fl 32768),0,(bI fl 1024),false,false,false,0,[],[],[],[],0⟩ (.slice none 0 0) (.slice none 0 0) (.slice none 0 0) (.slice none 0 0)).toArray 26 (0,0)):=p7.this
 have h7:=p7.mv.at h6 (by intro e;exact hne e.symm)
 have ha7:=p7.mv.at ha6 hnc
 have x7:Ext w w7:=x6.move p7.mv (by rintro k ⟨⟩;exact hcw)
 clear h6 hM6 ha6 x6 p7
 refine_lift bG ?_
 refine aM (n:=4) (v:=.bool (bI fl 512)) hM7 rfl rfl rfl (by simp [aW]) (by decide +kernel) rfl ?_
 intro w8 p8
 have hM8:w8.heap[c]? = some (.cells (aW ⟨((id:Nat):Int),(bI fl 32768),0,(bI fl 1024),(bI fl 512),false,false,0,[],[],[],[],0⟩ (.slice none 0 0) (.slice none 0 0) (.slice none 0 0) (.slice none 0 0)).toArray 26 (0,0)):=p8.this
 have h8:=p8.mv.at h7 (by intro e;exact hne e.symm)
 have ha8:=p8.mv.at ha7 hnc
 have x8:Ext w w8:=x7.move p8.mv (by rintro k ⟨⟩;exact hcw)
 clear h7 hM7 ha7 x7 p8
 refine_lift bG ?_
 refine aM (n:=5) (v:=.bool (bI fl 256)) hM8 rfl rfl rfl (by simp [aW]) (by decide +kernel) rfl ?_
 intro w9 p9
 have hM9:w9.heap[c]? = some (.cells (aW ⟨((id:Nat):Int),(bI fl 32768),0,(bI fl 1024),(bI fl 512),(bI fl 256),false,0,[],[],[],[],0⟩ (.slice none 0 0) (.slice none 0 0) (.slice none 0 0) (.slice none 0 0)).toArray 26 (0,0)):=p9.this
 have h9:=p9.mv.at h8 (by intro e;exact hne e.symm)
 have ha9:=p9.mv.at ha8 hnc
 have x9:Ext w w9:=x8.move p9.mv (by rintro k ⟨⟩;exact hcw)
 clear h8 hM8 ha8 x8 p9
 refine_lift bG ?_
 refine aM (n:=6) (v:=.bool (bI fl 128)) hM9 rfl rfl rfl (by simp [aW]) (by decide +kernel) rfl ?_
 intro w10 p10
 have hM10:w10.heap[c]? = some (.cells (aW ⟨((id:Nat):Int),(bI fl 32768),0,(bI fl 1024),(bI fl 512),(bI fl 256),(bI fl 128),0,[],[],[],[],0⟩ (.slice none 0 0) (.slice none 0 0) (.slice none 0 0) (.slice none 0 0)).toArray 26 (0,0)):=p10.this
 have h10:=p10.mv.at h9 (by intro e;exact hne e.symm)
 have ha10:=p10.mv.at ha9 hnc
 have x10:Ext w w10:=x9.move p10.mv (by rintro k ⟨⟩;exact hcw)
 clear h9 hM9 ha9 x9 p10
 refine_lift dJ fun _ _ => ?_
 refine aT (Runs.andN (m:=fl / 2048) (n:=15) (by show Value.int .i64 _=_;simp) rfl (by omega) (by decide)) ?_
 refine aA ?_
 refine_lift bG ?_
 refine aT (Runs.andN (m:=fl) (n:=15) rfl rfl (by omega) (by decide)) ?_
 refine aA ?_
 refine_lift bG ?_
 refine aM (n:=2) (v:=.int .i64 ((fl / 2048 &&& 15:Nat):Int)) hM10 rfl rfl rfl (by simp [aW]) (by decide +kernel) rfl ?_
 intro w11 p11
 have hM11:w11.heap[c]? = some (.cells (aW ⟨((id:Nat):Int),(bI fl 32768),(((fl / 2048 &&& 15:Nat)):Int),(bI fl 1024),(bI fl 512),(bI fl 256),(bI fl 128),0,[],[],[],[],0⟩ (.slice none 0 0) (.slice none 0 0) (.slice none 0 0) (.slice none 0 0)).toArray 26 (0,0)):=p11.this
 have h11:=p11.mv.at h10 (by intro e;exact hne e.symm)
 have ha11:=p11.mv.at ha10 hnc
 have x11:Ext w w11:=x10.move p11.mv (by rintro k ⟨⟩;exact hcw)
 clear h10 hM10 ha10 x10 p11
 refine_lift bG ?_
 refine aM (n:=7) (v:=.int .i64 ((fl &&& 15:Nat):Int)) hM11 rfl rfl rfl (by simp [aW]) (by decide +kernel) rfl ?_
 intro w12 p12
 have hM12:w12.heap[c]? = some (.cells (aW ⟨((id:Nat):Int),(bI fl 32768),(((fl / 2048 &&& 15:Nat)):Int),(bI fl 1024),(bI fl 512),(bI fl 256),(bI fl 128),((fl &&& 15:Nat):Int),[],[],[],[],0⟩ (.slice none 0 0) (.slice none 0 0) (.slice none 0 0) (.slice none 0 0)).toArray 26 (0,0)):=p12.this
 have h12:=p12.mv.at h11 (by intro e;exact hne e.symm)
 have ha12:=p12.mv.at ha11 hnc
 have x12:Ext w w12:=x11.move p12.mv (by rintro k ⟨⟩;exact hcw)
 clear h11 hM11 ha11 x11 p12
 refine_lift dJ fun _ _ => ?_
 refine aN (vs:=[.pointer (some ⟨b,0,none⟩), .int .i64 2]) (enters_of Tryz.func43 rfl rfl) rfl rfl (c4 _ _ h12) ?_
 rintro _ w13 ⟨rfl,h13,m13⟩
 refine ⟨_,rfl,?_⟩
 refine aA ?_
 have hM13:=m13.at hM12 hne
 have ha13:=m13.at ha12 hna
 have x13:Ext w w13:=x12.move m13 (by rintro k ⟨⟩;exact hbw)
 clear h12 hM12 ha12 x12 m13
 refine_lift bG ?_
 refine aN (vs:=[.pointer (some ⟨b,0,none⟩), .int .i64 2]) (enters_of Tryz.func43 rfl rfl) rfl rfl (c5 _ _ h13) ?_
 rintro _ w14 ⟨rfl,h14,m14⟩
 refine ⟨_,rfl,?_⟩
 refine aA ?_
 have hM14:=m14.at hM13 hne
 have ha14:=m14.at ha13 hna
 have x14:Ext w w14:=x13.move m14 (by rintro k ⟨⟩;exact hbw)
 clear h13 hM13 ha13 x13 m14
 refine_lift bG ?_
 refine aN (vs:=[.pointer (some ⟨b,0,none⟩), .int .i64 2]) (enters_of Tryz.func43 rfl rfl) rfl rfl (c6 _ _ h14) ?_
 rintro _ w15 ⟨rfl,h15,m15⟩
 refine ⟨_,rfl,?_⟩
 refine aA ?_
 have hM15:=m15.at hM14 hne
 have ha15:=m15.at ha14 hna
 have x15:Ext w w15:=x14.move m15 (by rintro k ⟨⟩;exact hbw)
 clear h14 hM14 ha14 x14 m15
 refine_lift bG ?_
 refine aN (vs:=[.pointer (some ⟨b,0,none⟩), .int .i64 2]) (enters_of Tryz.func43 rfl rfl) rfl rfl (c7 _ _ h15) ?_
 rintro _ w16 ⟨rfl,h16,m16⟩
 refine ⟨_,rfl,?_⟩
 refine aA ?_
 have hM16:=m16.at hM15 hne
 have ha16:=m16.at ha15 hna
 have x16:Ext w w16:=x15.move m16 (by rintro k ⟨⟩;exact hbw)
 clear h15 hM15 ha15 x15 m16
 refine_lift dJ fun _ _ => ?_
 refine aN (vs:=[.pointer (some ⟨b,0,none⟩), .bool (decide ((k1:Int)≤10)), .int .i64 2]) (enters_of Tryz.func44 rfl rfl) rfl rfl (c8 _ _ h16) ?_
 rintro _ w17 ⟨rfl,h17,m17⟩
 refine ⟨_,rfl,?_⟩
 refine aA ?_
 have hM17:=m17.at hM16 hne
 have ha17:=m17.at ha16 hna
 have x17:Ext w w17:=x16.move m17 (by rintro k ⟨⟩;exact hbw)
 clear h16 hM16 ha16 x16 m17
 refine_lift dJ fun _ _ => ?_
 go_loopw [11,12,13] (fun iv _ _ wr=>∃ (i:Nat) (l:List qS) (r':RdS) (qv:Value),i≤k1∧iv=.int .i64 i∧l.length=i∧dI wr b s r'∧r'.Ok s∧Ext w wr∧wr.heap[w.heap.size]? = some (.cells gO.toArray 26 (0,0))∧wr.heap[c]? = some (.cells (aW ⟨((id:Nat):Int),(bI fl 32768),(((fl / 2048 &&& 15:Nat)):Int),(bI fl 1024),(bI fl 512),(bI fl 256),(bI fl 128),((fl &&& 15:Nat):Int),l,[],[],[],0⟩ qv (.slice none 0 0) (.slice none 0 0) (.slice none 0 0)).toArray 26 (0,0))∧Own w.heap.size 2 54 wr qv (cU l)∧KQ s (k1 - i) l r'=Q9) (fun iv _ _ _=>k1 - (intOf iv).toNat)
 case atStart=>exact ⟨0,[],V1,(.slice none 0 0),Nat.zero_le _,rfl,rfl,h17,o8,x17,ha17,hM17,Own.nil _ _ _ _,hQ⟩
 case round =>
  obtain ⟨i,l,r',qv,hi,rfl,hli,hR,hok,hx,ha,hM,hq,hg⟩:=hrel
  have hpr:=aE (cs:=sA s r') hR
  by_cases c0:i < k1∧r'.e=0
  ·obtain ⟨c1',c2'⟩:=c0
   obtain ⟨f',hf'⟩:∃ f',k1 - i=f' + 1:=⟨k1 - i - 1,by omega⟩
   rw [hf'] at hg
   all_goals skip
   unfold KQ at hg
   rw [if_neg (by simpa using c2')] at hg
   have hX:=nY hok hs8
   have hXe:gY s r'=⟨(fU s r').1,((fU s r').2.number s 2).1,(((fU s r').2.number s 2).2.number s 2).1,(((fU s r').2.number s 2).2.number s 2).2⟩:=rfl
   obtain ⟨hn1',hn2'⟩:=pW hok hs8
   have hcn:=HR hR hok hs8
   generalize hN:fU s r'=N at *
   obtain ⟨nm,q1⟩:=N
   dsimp only at *
   have hq2:=cR (n:=2) hn2' hs8 (by omega)
   have hk1:=dQ s q1 2 (by omega)
   have hc1:=fun w' (h':dI w' b s q1)=>eL h' hn2' hs8 2 (by omega) (by omega)
   generalize q1.number s 2=K at *
   obtain ⟨kind,q2⟩:=K
   dsimp only at *
   have hq3:=cR (n:=2) hq2 hs8 (by omega)
   have hk2:=dQ s q2 2 (by omega)
   have hc2:=fun w' (h':dI w' b s q2)=>eL h' hq2 hs8 2 (by omega) (by omega)
   generalize q2.number s 2=C at *
   obtain ⟨cls,q3⟩:=C
   dsimp only at *
   rw [hXe] at hg
   have hQn:NQ ⟨nm,kind,cls,q3⟩=q3.want (decide ((cls:Int)=1) && tE (nm,((kind:Nat):Int))) 2:=rfl
   rw [hQn] at hg
   clear hQn
   have hy5:=hq3.want (decide ((cls:Int)=1) && tE (nm,((kind:Nat):Int))) (er:=2) (by decide)
   have hcq:=fun w' (h':dI w' b s q3)=>gF h' (decide ((cls:Int)=1) && tE (nm,((kind:Nat):Int))) 2
   generalize q3.want (decide ((cls:Int)=1) && tE (nm,((kind:Nat):Int))) 2=y5 at *
   have hk1':kind < 65536:=by simpa using hk1
   have hk2':cls < 65536:=by simpa using hk2
   (repeat' first | ((with_reducible refine cY ?_);go_step) | ((with_reducible refine cJ ?_);first | refine iZ ?_ | (refine dD ?_ ?_ <;> intro hc)) | fail)
   all_goals first
    | (exfalso;omega)
    | skip
   refine aN (vs:=[.pointer (some ⟨b,0,none⟩)]) (enters_of Tryz.func45 rfl rfl) rfl rfl hcn ?_
   rintro _ w18 ⟨rfl,h18,m18⟩
   refine ⟨_,rfl,?_⟩
   refine aA ?_
   have hM18:=m18.at hM hne
   have ha18:=m18.at ha hna
   have x18:Ext w w18:=hx.move m18 (by rintro k ⟨⟩;exact hbw)
   have hq18:=hq.mv m18 (.inr (hq.neBlock hR (by decide)))
   refine_lift bG ?_
   refine aT (v:=.agg #[aI nm, .int .i64 0]) (Runs.build rfl (by kernel_rfl)) ?_
   refine aA ?_
   refine aL (z:=[aI [], .int .i64 0]) rfl (by decide +kernel) ?_
   intro w19 x19 s19 hz19
   refine aA ?_
   refine aG (v:=.agg #[aI nm, .int .i64 0]) rfl rfl rfl hz19 (show aR Tryz.prog 54 2=true by decide +kernel) rfl (QB rfl rfl) ?_
   intro w20 p20
   have hD20:w20.heap[w18.heap.size]? = some (.cells [aI nm, .int .i64 0].toArray 54 (0,0)):=p20.this
   have x1820:Ext w18 w20:=x19.move p20.mv (by rintro k ⟨⟩;exact Nat.le_refl _)
   have h20:dI w20 b s q1:=x1820.at h18
   have hM20:=x1820.at hM18
   have ha20:=x1820.at ha18
   have x20:=x18.trans x1820
   have hq20:=hq18.ext x1820
   have hv20:=NH hq18 w18.heap.size (Nat.le_refl _)
   have hdw:w.heap.size≤w18.heap.size:=x18.size
   have hbd:b < w18.heap.size:=(Array.getElem?_eq_some_iff.1 h18).1
   have hcd:c < w18.heap.size:=(Array.getElem?_eq_some_iff.1 hM18).1
   have had:w.heap.size < w18.heap.size:=(Array.getElem?_eq_some_iff.1 ha18).1
   have hneD:some w18.heap.size≠some b:=by intro e;have:=Option.some.inj e;omega
   have hncD:some c≠some w18.heap.size:=by intro e;have:=Option.some.inj e;omega
   have hnaD:some w.heap.size≠some w18.heap.size:=by intro e;have:=Option.some.inj e;omega
   clear hz19 p20 x19 hpr hcn h18 hM18 ha18 hq18 x18 hR hM ha hx hq m18
   generalize w18.heap.size=d at *
   refine_lift dJ fun _ _ => ?_
   refine aN (vs:=[.pointer (some ⟨b,0,none⟩), .int .i64 2]) (enters_of Tryz.func43 rfl rfl) rfl rfl (hc1 _ h20) ?_
   rintro _ w21 ⟨rfl,h21,m21⟩
   refine ⟨_,rfl,?_⟩
   refine aA ?_
   have hM21:=m21.at hM20 hne
   have ha21:=m21.at ha20 hna
   have hD21:=m21.at hD20 hneD
   have x21:Ext w w21:=x20.move m21 (by rintro k ⟨⟩;exact hbw)
   have hq21:=hq20.mv m21 (.inr (hq20.neBlock h20 (by decide)))
   refine_lift bG ?_
   refine aM (n:=1) (v:=.int .i64 (kind:Nat)) hD21 rfl rfl rfl (by simp) (by decide +kernel) rfl ?_
   intro w22 p22
   have hD22:w22.heap[d]? = some (.cells [aI nm, .int .i64 (kind:Nat)].toArray 54 (0,0)):=p22.this
   have h22:dI w22 b s q2:=p22.mv.at h21 (by intro e;exact hneD e.symm)
   have hM22:=p22.mv.at hM21 hncD
   have ha22:=p22.mv.at ha21 hnaD
   have x22:Ext w w22:=x21.move p22.mv (by rintro k ⟨⟩;exact hdw)
   have hq22:=hq21.mv p22.mv hv20
   clear p22
   refine_lift dJ fun _ _ => ?_
   refine aN (vs:=[.pointer (some ⟨b,0,none⟩), .int .i64 2]) (enters_of Tryz.func43 rfl rfl) rfl rfl (hc2 _ h22) ?_
   rintro _ w23 ⟨rfl,h23,m23⟩
   refine ⟨_,rfl,?_⟩
   refine aA ?_
   have hM23:=m23.at hM22 hne
   have ha23:=m23.at ha22 hna
   have hD23:=m23.at hD22 hneD
   have hpD:=aE hD23
   have x23:Ext w w23:=x22.move m23 (by rintro k ⟨⟩;exact hbw)
   have hq23:=hq22.mv m23 (.inr (hq22.neBlock h22 (by decide)))
   refine_lift oZ (fun _ _ hc => ?_) (fun _ _ hc => ?_)
   all_goals first
    | (refine aD (enters_of Tryz.func46 rfl rfl) rfl rfl (yT (nm,((kind:Nat):Int)) _) ?_;intro w24 x24;refine aA ?_
       have h24:=x24.at h23
       have hM24:=x24.at hM23
       have ha24:=x24.at ha23
       have hD24:=x24.at hD23
       have y24:=x23.trans x24
       have hq24:=hq23.ext x24
       refine_lift bG ?_)
    | (have h24:=h23
       have hM24:=hM23
       have ha24:=ha23
       have hD24:=hD23
       have y24:=x23
       have hq24:=hq23)
   all_goals clear hpD
   all_goals refine aN (vs:=[.pointer (some ⟨b,0,none⟩), .bool (decide ((cls:Int)=1) && tE (nm,((kind:Nat):Int))), .int .i64 2]) (enters_of Tryz.func44 rfl rfl) rfl ?_ (hcq _ h24) ?_
   all_goals first
    | (refine congrArg (fun z=>[Value.pointer (some ⟨b,0,none⟩),Value.bool z, .int .i64 2]) ?_;simp [*];done)
    | skip
   all_goals rintro _ w25 ⟨rfl,h25,m25⟩
   all_goals refine ⟨_,rfl,?_⟩
   all_goals refine aA ?_
   all_goals have hM25:=m25.at hM24 hne
   all_goals have ha25:=m25.at ha24 hna
   all_goals have hD25:=m25.at hD24 hneD
   all_goals have hpD:=aE hD25
   all_goals have hpM:=aE (cs:=aW ⟨((id:Nat):Int),(bI fl 32768),(((fl / 2048 &&& 15:Nat)):Int),(bI fl 1024),(bI fl 512),(bI fl 256),(bI fl 128),((fl &&& 15:Nat):Int),l,[],[],[],0⟩ qv (.slice none 0 0) (.slice none 0 0) (.slice none 0 0)) hM25
   all_goals have x25:Ext w w25:=y24.move m25 (by rintro k ⟨⟩;exact hbw)
   all_goals have hq25:=hq24.mv m25 (.inr (hq24.neBlock h24 (by decide)))
   all_goals refine_lift bG ?_
   all_goals refine bN (e:=54) (k:=2) (bytes:=24) (xs:=[.agg #[aI nm, .int .i64 (kind:Nat)]]) rfl rfl rfl (by simp [Value.cells]) (by decide +kernel) (by simp) ?_
   all_goals intro u26 w26 x26 _ sl26 o26
   all_goals refine aA ?_
   all_goals have h26:=x26.at h25
   all_goals have hM26:=x26.at hM25
   all_goals have ha26:=x26.at ha25
   all_goals have hq26:=hq25.ext x26
   all_goals have y26:=x25.trans x26
   all_goals refine bU (v0:=qv) (es:=cU l) (fs:=[[aI nm, .int .i64 (kind:Nat)]]) rfl hq26 rfl sl26 (by simp [aI,Value.oneCell']) y26.size (by simp [cU];omega) ?_
   all_goals intro v27 w27 o27 m27 _
   all_goals refine aA ?_
   all_goals have h27:=m27.at h26 (fun e=>(hq26.neBlock h26 (by decide)) e.symm)
   all_goals have hM27:=m27.at hM26 (fun e=>(hq26.neBlock hM26 (by decide)) e.symm)
   all_goals have ha27:=m27.at ha26 (fun e=>(hq26.neBlock ha26 (by decide)) e.symm)
   all_goals have y27:Ext w w27:=y26.move m27 (fun k e=>(hq26.block k e).1)
   all_goals clear hpD hpM
   all_goals refine_lift bG ?_
   all_goals refine aM (n:=8) (v:=v27) hM27 rfl rfl rfl (by simp [aW]) (by decide +kernel) o27.one ?_
   all_goals intro w28 p28
   all_goals have hM28:w28.heap[c]? = some (.cells (aW ⟨((id:Nat):Int),(bI fl 32768),(((fl / 2048 &&& 15:Nat)):Int),(bI fl 1024),(bI fl 512),(bI fl 256),(bI fl 128),((fl &&& 15:Nat):Int),(l ++ [(nm,((kind:Nat):Int))]),[],[],[],0⟩ v27 (.slice none 0 0) (.slice none 0 0) (.slice none 0 0)).toArray 26 (0,0)):=p28.this
   all_goals have h28:=p28.mv.at h27 (by intro e;exact hne e.symm)
   all_goals have ha28:=p28.mv.at ha27 hnc
   all_goals have y28:Ext w w28:=y27.move p28.mv (by rintro k ⟨⟩;exact hcw)
   all_goals have o28:=o27.mv p28.mv (.inr (o27.neBlock hM27 (by decide)))
   all_goals refine_lift bG ?_
   all_goals refine ⟨⟨i + 1,l ++ [(nm,((kind:Nat):Int))],y5,v27,by omega,by go_num,by simp [hli],h28,hy5,y28,ha28,hM28,by simpa [cU] using o28,?_⟩,by simp [intOf];omega⟩
   all_goals rw [show k1 - (i + 1)=f' by omega]
   all_goals exact hg
  ·have hQ9:Q9=(l,r'):=by
    rw [← hg]
    by_cases c1':i < k1
    ·obtain ⟨f',hf'⟩:∃ f',k1 - i=f' + 1:=⟨k1 - i - 1,by omega⟩
     rw [hf']
     unfold KQ
     rw [if_pos (fun h=>c0 ⟨c1',h⟩)]
    ·rw [show k1 - i=0 by omega]
     rfl
   subst hQ9
   dsimp only at *
   refine_lift UE (fun hc _ _ => ?_) (fun hc _ _ _ => ?_)
   all_goals first
    | (exfalso;omega)
    | skip
   all_goals refine aN (vs:=[.pointer (some ⟨b,0,none⟩), .int .i64 (k2:Nat), .bool false]) (enters_of Tryz.func47 rfl rfl) rfl rfl (c10 _ _ hR) ?_
   all_goals rintro _ w30 ⟨va,rfl,o30,h30,m30⟩
   all_goals refine ⟨_,rfl,?_⟩
   all_goals refine aA ?_
   all_goals have hM30:=m30.at hM hne
   all_goals have ha30:=m30.at ha hna
   all_goals have x30:Ext w w30:=hx.move m30 (by rintro k ⟨⟩;exact hbw)
   all_goals have oo30_0:=hq.mv m30 (.inr (hq.neBlock hR (by decide)))
   all_goals refine_lift bG ?_
   all_goals refine aM (n:=9) (v:=va) hM30 rfl rfl rfl (by simp [aW]) (by decide +kernel) o30.one ?_
   all_goals intro w31 p31
   all_goals have hM31:w31.heap[c]? = some (.cells (aW ⟨((id:Nat):Int),(bI fl 32768),(((fl / 2048 &&& 15:Nat)):Int),(bI fl 1024),(bI fl 512),(bI fl 256),(bI fl 128),((fl &&& 15:Nat):Int),l,A9.1,[],[],0⟩ qv va (.slice none 0 0) (.slice none 0 0)).toArray 26 (0,0)):=p31.this
   all_goals have h31:=p31.mv.at h30 (by intro e;exact hne e.symm)
   all_goals have ha31:=p31.mv.at ha30 hnc
   all_goals have x31:Ext w w31:=x30.move p31.mv (by rintro k ⟨⟩;exact hcw)
   all_goals have oo31_0:=oo30_0.mv p31.mv (.inr (oo30_0.neBlock hM30 (by decide)))
   all_goals have oo31_1:=o30.mv p31.mv (.inr (o30.neBlock hM30 (by decide)))
   all_goals refine_lift dJ fun _ _ => ?_
   all_goals refine aN (vs:=[.pointer (some ⟨b,0,none⟩), .int .i64 (k3:Nat), .bool false]) (enters_of Tryz.func47 rfl rfl) rfl rfl (c11 _ _ h31) ?_
   all_goals rintro _ w32 ⟨vu,rfl,o32,h32,m32⟩
   all_goals refine ⟨_,rfl,?_⟩
   all_goals refine aA ?_
   all_goals have hM32:=m32.at hM31 hne
   all_goals have ha32:=m32.at ha31 hna
   all_goals have x32:Ext w w32:=x31.move m32 (by rintro k ⟨⟩;exact hbw)
   all_goals have oo32_0:=oo31_0.mv m32 (.inr (oo31_0.neBlock h31 (by decide)))
   all_goals have oo32_1:=oo31_1.mv m32 (.inr (oo31_1.neBlock h31 (by decide)))
   all_goals refine_lift bG ?_
   all_goals refine aM (n:=10) (v:=vu) hM32 rfl rfl rfl (by simp [aW]) (by decide +kernel) o32.one ?_
   all_goals intro w33 p33
   all_goals have hM33:w33.heap[c]? = some (.cells (aW ⟨((id:Nat):Int),(bI fl 32768),(((fl / 2048 &&& 15:Nat)):Int),(bI fl 1024),(bI fl 512),(bI fl 256),(bI fl 128),((fl &&& 15:Nat):Int),l,A9.1,U9.1,[],0⟩ qv va vu (.slice none 0 0)).toArray 26 (0,0)):=p33.this
   all_goals have h33:=p33.mv.at h32 (by intro e;exact hne e.symm)
   all_goals have ha33:=p33.mv.at ha32 hnc
   all_goals have x33:Ext w w33:=x32.move p33.mv (by rintro k ⟨⟩;exact hcw)
   all_goals have oo33_0:=oo32_0.mv p33.mv (.inr (oo32_0.neBlock hM32 (by decide)))
   all_goals have oo33_1:=oo32_1.mv p33.mv (.inr (oo32_1.neBlock hM32 (by decide)))
   all_goals have oo33_2:=o32.mv p33.mv (.inr (o32.neBlock hM32 (by decide)))
   all_goals refine_lift dJ fun _ _ => ?_
   all_goals refine aN (vs:=[.pointer (some ⟨b,0,none⟩), .int .i64 (k4:Nat), .bool true]) (enters_of Tryz.func47 rfl rfl) rfl rfl (c12 _ _ h33) ?_
   all_goals rintro _ w34 ⟨vx,rfl,o34,h34,m34⟩
   all_goals refine ⟨_,rfl,?_⟩
   all_goals refine aA ?_
   all_goals have hM34:=m34.at hM33 hne
   all_goals have ha34:=m34.at ha33 hna
   all_goals have x34:Ext w w34:=x33.move m34 (by rintro k ⟨⟩;exact hbw)
   all_goals have oo34_0:=oo33_0.mv m34 (.inr (oo33_0.neBlock h33 (by decide)))
   all_goals have oo34_1:=oo33_1.mv m34 (.inr (oo33_1.neBlock h33 (by decide)))
   all_goals have oo34_2:=oo33_2.mv m34 (.inr (oo33_2.neBlock h33 (by decide)))
   all_goals refine_lift bG ?_
   all_goals refine aM (n:=11) (v:=vx) hM34 rfl rfl rfl (by simp [aW]) (by decide +kernel) o34.one ?_
   all_goals intro w35 p35
   all_goals have hM35:w35.heap[c]? = some (.cells (aW ⟨((id:Nat):Int),(bI fl 32768),(((fl / 2048 &&& 15:Nat)):Int),(bI fl 1024),(bI fl 512),(bI fl 256),(bI fl 128),((fl &&& 15:Nat):Int),l,A9.1,U9.1,X9.1,0⟩ qv va vu vx).toArray 26 (0,0)):=p35.this
   all_goals have h35:=p35.mv.at h34 (by intro e;exact hne e.symm)
   all_goals have ha35:=p35.mv.at ha34 hnc
   all_goals have x35:Ext w w35:=x34.move p35.mv (by rintro k ⟨⟩;exact hcw)
   all_goals have oo35_0:=oo34_0.mv p35.mv (.inr (oo34_0.neBlock hM34 (by decide)))
   all_goals have oo35_1:=oo34_1.mv p35.mv (.inr (oo34_1.neBlock hM34 (by decide)))
   all_goals have oo35_2:=oo34_2.mv p35.mv (.inr (oo34_2.neBlock hM34 (by decide)))
   all_goals have oo35_3:=o34.mv p35.mv (.inr (o34.neBlock hM34 (by decide)))
   all_goals refine_lift bG ?_
   all_goals refine aM (n:=12) (v:=.int .i64 (X9.2.1:Nat)) hM35 rfl rfl rfl (by simp [aW]) (by decide +kernel) rfl ?_
   all_goals intro w36 p36
   all_goals have hM36:w36.heap[c]? = some (.cells (aW ⟨((id:Nat):Int),(bI fl 32768),(((fl / 2048 &&& 15:Nat)):Int),(bI fl 1024),(bI fl 512),(bI fl 256),(bI fl 128),((fl &&& 15:Nat):Int),l,A9.1,U9.1,X9.1,((X9.2.1:Nat):Int)⟩ qv va vu vx).toArray 26 (0,0)):=p36.this
   all_goals have h36:=p36.mv.at h35 (by intro e;exact hne e.symm)
   all_goals have ha36:=p36.mv.at ha35 hnc
   all_goals have x36:Ext w w36:=x35.move p36.mv (by rintro k ⟨⟩;exact hcw)
   all_goals have oo36_0:=oo35_0.mv p36.mv (.inr (oo35_0.neBlock hM35 (by decide)))
   all_goals have oo36_1:=oo35_1.mv p36.mv (.inr (oo35_1.neBlock hM35 (by decide)))
   all_goals have oo36_2:=oo35_2.mv p36.mv (.inr (oo35_2.neBlock hM35 (by decide)))
   all_goals have oo36_3:=oo35_3.mv p36.mv (.inr (oo35_3.neBlock hM35 (by decide)))
   all_goals refine_lift xI fun _ _ _ _ => ?_
   all_goals have hp36:=aE (cs:=sA s X9.2.2) h36
   all_goals refine_lift bG ?_
   all_goals refine aN (vs:=[.pointer (some ⟨b,0,none⟩), .bool (decide (X9.2.2.at_=(s.length:Int))), .int .i64 2]) (enters_of Tryz.func44 rfl rfl) rfl rfl (c13 _ _ h36) ?_
   all_goals rintro _ w37 ⟨rfl,h37,m37⟩
   all_goals refine ⟨_,rfl,?_⟩
   all_goals refine aA ?_
   all_goals have hM37:=m37.at hM36 hne
   all_goals have ha37:=m37.at ha36 hna
   all_goals have x37:Ext w w37:=x36.move m37 (by rintro k ⟨⟩;exact hbw)
   all_goals have q0:=oo36_0.mv m37 (.inr (oo36_0.neBlock h36 (by decide)))
   all_goals have q1:=oo36_1.mv m37 (.inr (oo36_1.neBlock h36 (by decide)))
   all_goals have q2:=oo36_2.mv m37 (.inr (oo36_2.neBlock h36 (by decide)))
   all_goals have q3:=oo36_3.mv m37 (.inr (oo36_3.neBlock h36 (by decide)))
   all_goals have hmsg:MsgV w37 ⟨((id:Nat):Int),(bI fl 32768),(((fl / 2048 &&& 15:Nat)):Int),(bI fl 1024),(bI fl 512),(bI fl 256),(bI fl 128),((fl &&& 15:Nat):Int),l,A9.1,U9.1,X9.1,((X9.2.1:Nat):Int)⟩ qv va vu vx:=⟨q0.sl,q1.sl,q2.sl,q3.sl⟩
   all_goals clear hp36
   all_goals have hp37:=aE (cs:=sA s E9) h37
   all_goals have hpM:=aE (cs:=aW ⟨((id:Nat):Int),(bI fl 32768),(((fl / 2048 &&& 15:Nat)):Int),(bI fl 1024),(bI fl 512),(bI fl 256),(bI fl 128),((fl &&& 15:Nat):Int),l,A9.1,U9.1,X9.1,((X9.2.1:Nat):Int)⟩ qv va vu vx) hM37
   all_goals unfold aW at hpM
   all_goals refine_lift oZ (fun _ _ _ => ?_) (fun _ _ _ => ?_)
   ·have ce:¬ E9.e=0:=by simpa using ‹(!decide (E9.e=0))=true›
    refine bV 6 (fun w'=>Pts w' (.pointer (some ⟨b,0,none⟩)) (sA s E9)) (by decide +kernel) ?_
    intro w38 x38 _
    have h38:=x38.at h37
    have ha38:=x38.at ha37
    have y38:=x37.trans x38
    refine ⟨aE h38,?_⟩
    refine dL (i:=0) (v:=.agg gO.toArray) rfl rfl rfl (by decide +kernel) (by decide +kernel) (by decide +kernel) rfl (fun _=>Runs.build0 (by kernel_rfl)) (fun _ _ _ h=>h) ?_
    refine aA ?_
    refine cV 1 ?_;refine cV 2 ?_;refine cV 3 ?_;refine cV 4 ?_
    refine bE (i:=5) (by decide +kernel) rfl rfl ?_
    refine aG (v:=.agg gO.toArray) rfl rfl rfl ha38 (show aR Tryz.prog 26 13=true by decide +kernel) rfl (by decide +kernel) ?_
    intro w39 p39
    have h39:=p39.mv.at h38 (by intro e;exact hna e.symm)
    have x39:Ext w w39:=y38.move p39.mv (by rintro k ⟨⟩;exact Nat.le_refl _)
    refine aJ ⟨cC (aE h39),?_⟩
    refine bE (i:=6) (by decide +kernel) rfl rfl ?_
    ((with_reducible refine cJ ?_);(first | (refine jO ?_;refine fV ?_) | (refine oN ?_;refine qV ?_;(with_reducible refine cJ ?_);refine jO ?_;refine fV ?_)))
    refine aJ ⟨bT rfl,?_⟩
    refine cN (by decide +kernel) ?_
    refine_lift bG ?_
    refine bodyPost_ret (aU (cs:=gO) rfl rfl p39.this (show cP Tryz.prog 26 13=true by decide +kernel)) rfl ?_
    rw [if_neg ce]
    exact ⟨.slice none 0 0, .slice none 0 0, .slice none 0 0, .slice none 0 0,rfl,⟨Sl.nil _ _,Sl.nil _ _,Sl.nil _ _,Sl.nil _ _⟩,x39⟩
   ·have ce:E9.e=0:=by simpa using ‹(!decide (E9.e=0))=false›
    refine aG (v:=.agg (aW ⟨((id:Nat):Int),(bI fl 32768),(((fl / 2048 &&& 15:Nat)):Int),(bI fl 1024),(bI fl 512),(bI fl 256),(bI fl 128),((fl &&& 15:Nat):Int),l,A9.1,U9.1,X9.1,((X9.2.1:Nat):Int)⟩ qv va vu vx).toArray) rfl rfl rfl ha37 (show aR Tryz.prog 26 13=true by decide +kernel) rfl (cM hmsg) ?_
    intro w38 p38
    have x38:Ext w w38:=x37.move p38.mv (by rintro k ⟨⟩;exact Nat.le_refl _)
    have y0:=q0.mv p38.mv (.inr (q0.neBlock ha37 (by decide)))
    have y1:=q1.mv p38.mv (.inr (q1.neBlock ha37 (by decide)))
    have y2:=q2.mv p38.mv (.inr (q2.neBlock ha37 (by decide)))
    have y3:=q3.mv p38.mv (.inr (q3.neBlock ha37 (by decide)))
    refine_lift bG ?_
    refine bodyPost_ret (aU (cs:=aW ⟨((id:Nat):Int),(bI fl 32768),(((fl / 2048 &&& 15:Nat)):Int),(bI fl 1024),(bI fl 512),(bI fl 256),(bI fl 128),((fl &&& 15:Nat):Int),l,A9.1,U9.1,X9.1,((X9.2.1:Nat):Int)⟩ qv va vu vx) rfl rfl p38.this (show cP Tryz.prog 26 13=true by decide +kernel)) rfl ?_
    rw [if_pos ce]
    exact ⟨qv,va,vu,vx,rfl,⟨y0.sl,y1.sl,y2.sl,y3.sl⟩,x38⟩
   ·have ce:¬ E9.e=0:=by simpa using ‹(!decide (E9.e=0))=true›
    refine bV 6 (fun w'=>Pts w' (.pointer (some ⟨b,0,none⟩)) (sA s E9)) (by decide +kernel) ?_
    intro w38 x38 _
    have h38:=x38.at h37
    have ha38:=x38.at ha37
    have y38:=x37.trans x38
    refine ⟨aE h38,?_⟩
    refine dL (i:=0) (v:=.agg gO.toArray) rfl rfl rfl (by decide +kernel) (by decide +kernel) (by decide +kernel) rfl (fun _=>Runs.build0 (by kernel_rfl)) (fun _ _ _ h=>h) ?_
    refine aA ?_
    refine cV 1 ?_;refine cV 2 ?_;refine cV 3 ?_;refine cV 4 ?_
    refine bE (i:=5) (by decide +kernel) rfl rfl ?_
    refine aG (v:=.agg gO.toArray) rfl rfl rfl ha38 (show aR Tryz.prog 26 13=true by decide +kernel) rfl (by decide +kernel) ?_
    intro w39 p39
    have h39:=p39.mv.at h38 (by intro e;exact hna e.symm)
    have x39:Ext w w39:=y38.move p39.mv (by rintro k ⟨⟩;exact Nat.le_refl _)
    refine aJ ⟨cC (aE h39),?_⟩
    refine bE (i:=6) (by decide +kernel) rfl rfl ?_
    ((with_reducible refine cJ ?_);(first | (refine jO ?_;refine fV ?_) | (refine oN ?_;refine qV ?_;(with_reducible refine cJ ?_);refine jO ?_;refine fV ?_)))
    refine aJ ⟨bT rfl,?_⟩
    refine cN (by decide +kernel) ?_
    refine_lift bG ?_
    refine bodyPost_ret (aU (cs:=gO) rfl rfl p39.this (show cP Tryz.prog 26 13=true by decide +kernel)) rfl ?_
    rw [if_neg ce]
    exact ⟨.slice none 0 0, .slice none 0 0, .slice none 0 0, .slice none 0 0,rfl,⟨Sl.nil _ _,Sl.nil _ _,Sl.nil _ _,Sl.nil _ _⟩,x39⟩
   ·have ce:E9.e=0:=by simpa using ‹(!decide (E9.e=0))=false›
    refine aG (v:=.agg (aW ⟨((id:Nat):Int),(bI fl 32768),(((fl / 2048 &&& 15:Nat)):Int),(bI fl 1024),(bI fl 512),(bI fl 256),(bI fl 128),((fl &&& 15:Nat):Int),l,A9.1,U9.1,X9.1,((X9.2.1:Nat):Int)⟩ qv va vu vx).toArray) rfl rfl rfl ha37 (show aR Tryz.prog 26 13=true by decide +kernel) rfl (cM hmsg) ?_
    intro w38 p38
    have x38:Ext w w38:=x37.move p38.mv (by rintro k ⟨⟩;exact Nat.le_refl _)
    have y0:=q0.mv p38.mv (.inr (q0.neBlock ha37 (by decide)))
    have y1:=q1.mv p38.mv (.inr (q1.neBlock ha37 (by decide)))
    have y2:=q2.mv p38.mv (.inr (q2.neBlock ha37 (by decide)))
    have y3:=q3.mv p38.mv (.inr (q3.neBlock ha37 (by decide)))
    refine_lift bG ?_
    refine bodyPost_ret (aU (cs:=aW ⟨((id:Nat):Int),(bI fl 32768),(((fl / 2048 &&& 15:Nat)):Int),(bI fl 1024),(bI fl 512),(bI fl 256),(bI fl 128),((fl &&& 15:Nat):Int),l,A9.1,U9.1,X9.1,((X9.2.1:Nat):Int)⟩ qv va vu vx) rfl rfl p38.this (show cP Tryz.prog 26 13=true by decide +kernel)) rfl ?_
    rw [if_pos ce]
    exact ⟨qv,va,vu,vx,rfl,⟨y0.sl,y1.sl,y2.sl,y3.sl⟩,x38⟩
end Go.Proofs.X
