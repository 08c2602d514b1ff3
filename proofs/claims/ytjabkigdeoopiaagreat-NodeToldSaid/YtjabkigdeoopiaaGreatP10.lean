/- Laws and walks that the proof of the statement is made of (part 10). -/
import Derived.Test.YtjabkigdeoopiaaGreatP9
set_option linter.unusedSimpArgs false
set_option linter.unusedVariables false
set_option maxRecDepth 100000
set_option maxHeartbeats 20000000
namespace Go.Proofs.X
open Go.RowKit
variable {cs:Array Value} {held:Bool} {qt:Int} {ps rs:List (List UInt8 × Nat)} {ls:List (List UInt8)} {css css0 es:List (List Value)} {d l m n o qn s t x y z:List UInt8} {B a b base c e fuel i j k p q:Nat} {fz:Nat × Nat} {row:Option Nat} {r u v:Value} {w w' w0 w1 w2:World}
def aO (f k:Nat):Bool := !decide (((f &&& k:Nat):Int)=0)
def TH:RdS:=⟨0,0⟩
def vJ (s:List UInt8):Nat × RdS:=TH.number s 2
def mI (s:List UInt8):Nat × RdS:=(vJ s).2.number s 2
theorem TI (s:List UInt8) (hs:s.length≤100000000):TH.Ok s:=by
 constructor
 all_goals (simp [TH];try omega)
def IL (x:RecW):RdS:=x.r3.want (decide (((x.cls:Nat):Int)=1) && mD (x.name,((x.kind:Nat):Int))) 2
def NK (s:List UInt8):Nat→List gE→RdS→List gE × RdS
 | 0,l,r=>(l,r)
 | f + 1,l,r=>if r.e≠0 then (l,r) else NK s f (l ++ [((eQ s r).name,(((eQ s r).kind:Nat):Int))]) (IL (eQ s r))
def OJ (s:List UInt8):RdS:=(mI s).2.want (decide ((((mI s).1 &&& 112:Nat):Int)=0)) 2
def qA (s:List UInt8):Nat × RdS:=(OJ s).number s 2
def sR (s:List UInt8):Nat × RdS:=(qA s).2.number s 2
def sS (s:List UInt8):Nat × RdS:=(sR s).2.number s 2
def tR (s:List UInt8):Nat × RdS:=(sS s).2.number s 2
def RX (s:List UInt8):RdS:=(tR s).2.want (decide (((qA s).1:Int)≤10)) 2
def PX (s:List UInt8):List gE × RdS:=NK s (qA s).1 [] (RX s)
def PY (s:List UInt8):List Rec × Nat × RdS:=gM s (PX s).2 (sR s).1 false
def PZ (s:List UInt8):List Rec × Nat × RdS:=gM s (PY s).2.2 (sS s).1 false
def NL (s:List UInt8):List Rec × Nat × RdS:=gM s (PZ s).2.2 (tR s).1 true
def TJ (s:List UInt8):RdS:=(NL s).2.2.want (decide ((NL s).2.2.at_=(s.length:Int))) 2
def WZ:MsgR:=⟨0,false,0,false,false,false,false,0,[],[],[],[],0⟩
def cK (s:List UInt8):MsgR × Int :=
 if (TJ s).e=0 then (⟨((vJ s).1:Nat),aO (mI s).1 32768,(((mI s).1 / 2048 &&& 15:Nat):Int),aO (mI s).1 1024,aO (mI s).1 512,aO (mI s).1 256,aO (mI s).1 128,(((mI s).1 &&& 15:Nat):Int),(PX s).1,(PY s).1,(PZ s).1,(NL s).1,((NL s).2.1:Nat)⟩,0)
 else (WZ,(TJ s).e)
def pN (s:List UInt8) (e:Ending) (w w':World):Prop:=∃ q a u x,e=.returned (.tuple #[.agg (aX (cK s).1 q a u x).toArray, .int .i64 (cK s).2])∧(Own w.heap.size 2 28 w' q (cG (cK s).1.qs)∧Own w.heap.size 4 61 w' a (aF (cK s).1.an)∧Own w.heap.size 4 61 w' u (aF (cK s).1.au)∧Own w.heap.size 4 61 w' x (aF (cK s).1.ex))∧Ext w w'
def NM (s:List UInt8) (e:Ending) (w w':World):Prop:=∃ q a u x,e=.returned (.tuple #[.agg (aX (cK s).1 q a u x).toArray, .int .i64 (cK s).2])∧MsgV w' (cK s).1 q a u x∧Ext w w'
theorem NN {x:RecW} (hr:x.r3.Ok s):(IL x).Ok s:=hr.want _ aH
theorem TK (hs:s.length≤100000000):∀ (f:Nat) (l:List gE) (r:RdS),r.Ok s→(NK s f l r).2.Ok s:=by
 intro f;induction f with
 | zero=>intro l r h;exact h
 | succ f ih =>
  intro l r h;unfold NK;split
  ·exact h
  ·exact ih _ _ (NN (nR h hs))
theorem NO (hs:s.length≤100000000) (last:Bool) (n:Nat):∀ (f i:Nat) (l:List Rec) (r:RdS),r.Ok s→(lC s last n f i l r).2.2.Ok s:=by
 intro f;induction f with
 | zero=>intro i l r h;exact h
 | succ f ih =>
  intro i l r h;unfold lC;have hX:=nR h hs;split
  ·exact h
  ·split
   ·exact RdS.Ok.want (bY (bY hX hs aC) hs aC) _ aH
   ·exact ih _ _ _ (GZ hX hs _)
theorem uZ (hs:s.length≤100000000) {r:RdS} (h:r.Ok s) (n:Nat) (last:Bool):(gM s r n last).2.2.Ok s:=NO hs _ _ _ _ _ _ (h.want _ aH)
theorem NP {a b:Value} (h1:a.oneCell'=true) (h2:b.oneCell'=true):(Value.agg #[a,b]).cells.all (·.oneCell')=true:=by simp [Value.cells,h1,h2]
theorem mJ (s:List UInt8) (hs:s.length≤1000000):Calls Tryz.prog 16 #[aE s] w (fun e w'=>pN s e w w'):=by
 have hs8:s.length≤100000000:=aC;have o0:=TI s hs8;have o1:(vJ s).2.Ok s:=bY o0 hs8 aC;have o2:(mI s).2.Ok s:=bY o1 hs8 aC;have o3:(OJ s).Ok s:=o2.want _ aH;have o4:(qA s).2.Ok s:=bY o3 hs8 aC;have o5:(sR s).2.Ok s:=bY o4 hs8 aC;have o6:(sS s).2.Ok s:=bY o5 hs8 aC;have o7:(tR s).2.Ok s:=bY o6 hs8 aC;have o8:(RX s).Ok s:=o7.want _ aH;have o9:(PX s).2.Ok s:=TK hs8 _ _ _ o8;have o10:(PY s).2.2.Ok s:=uZ hs8 o9 _ _;have o11:(PZ s).2.2.Ok s:=uZ hs8 o10 _ _;have l1:(vJ s).1 < 65536:=by have:=dH s TH 2 aC;simpa [vJ] using this
 have l2:(mI s).1 < 65536:=by have:=dH s (vJ s).2 2 aC;simpa [mI] using this
 have n1:(qA s).1 < 65536:=by have:=dH s (OJ s) 2 aC;simpa [qA] using this
 have n2:(sR s).1 < 65536:=by have:=dH s (qA s).2 2 aC;simpa [sR] using this
 have n3:(sS s).1 < 65536:=by have:=dH s (sR s).2 2 aC;simpa [sS] using this
 have n4:(tR s).1 < 65536:=by have:=dH s (sS s).2 2 aC;simpa [tR] using this
 have c1:=fun w' b (h':cV w' b s TH)=>eE h' o0 hs8 2 aC aC;have c2:=fun w' b (h':cV w' b s (vJ s).2)=>eE h' o1 hs8 2 aC aC;have c3:=fun w' b (h':cV w' b s (mI s).2)=>gB h' (decide ((((mI s).1 &&& 112:Nat):Int)=0)) 2;have c4:=fun w' b (h':cV w' b s (OJ s))=>eE h' o3 hs8 2 aC aC;have c5:=fun w' b (h':cV w' b s (qA s).2)=>eE h' o4 hs8 2 aC aC;have c6:=fun w' b (h':cV w' b s (sR s).2)=>eE h' o5 hs8 2 aC aC;have c7:=fun w' b (h':cV w' b s (sS s).2)=>eE h' o6 hs8 2 aC aC;have c8:=fun w' b (h':cV w' b s (tR s).2)=>gB h' (decide (((qA s).1:Int)≤10)) 2;have c10:=fun w' b (h':cV w' b s (PX s).2)=>tQ h' o9 hs (sR s).1 aC false;have c11:=fun w' b (h':cV w' b s (PY s).2.2)=>tQ h' o10 hs (sS s).1 aC false;have c12:=fun w' b (h':cV w' b s (PZ s).2.2)=>tQ h' o11 hs (tR s).1 aC true;have c13:=fun w' b (h':cV w' b s (NL s).2.2)=>gB h' (decide ((NL s).2.2.at_=(s.length:Int))) 2;have hQ:NK s (qA s).1 [] (RX s)=PX s:=rfl;change ∀ w' b,cV w' b s TH→Calls _ _ _ _ (kK w' b s (.int .i64 ((vJ s).1:Nat)) (vJ s).2) at c1;change ∀ w' b,cV w' b s (vJ s).2→Calls _ _ _ _ (kK w' b s (.int .i64 ((mI s).1:Nat)) (mI s).2) at c2;change ∀ w' b,cV w' b s (mI s).2→Calls _ _ _ _ (kK w' b s (.bool (decide ((OJ s).e=0))) (OJ s)) at c3;change ∀ w' b,cV w' b s (OJ s)→Calls _ _ _ _ (kK w' b s (.int .i64 ((qA s).1:Nat)) (qA s).2) at c4;change ∀ w' b,cV w' b s (qA s).2→Calls _ _ _ _ (kK w' b s (.int .i64 ((sR s).1:Nat)) (sR s).2) at c5;change ∀ w' b,cV w' b s (sR s).2→Calls _ _ _ _ (kK w' b s (.int .i64 ((sS s).1:Nat)) (sS s).2) at c6;change ∀ w' b,cV w' b s (sS s).2→Calls _ _ _ _ (kK w' b s (.int .i64 ((tR s).1:Nat)) (tR s).2) at c7;change ∀ w' b,cV w' b s (tR s).2→Calls _ _ _ _ (kK w' b s (.bool (decide ((RX s).e=0))) (RX s)) at c8;change ∀ w' b,cV w' b s (PX s).2→Calls _ _ _ _ (CH w' b s (PY s)) at c10;change ∀ w' b,cV w' b s (PY s).2.2→Calls _ _ _ _ (CH w' b s (PZ s)) at c11;change ∀ w' b,cV w' b s (PZ s).2.2→Calls _ _ _ _ (CH w' b s (NL s)) at c12;change ∀ w' b,cV w' b s (NL s).2.2→Calls _ _ _ _ (kK w' b s (.bool (decide ((TJ s).e=0))) (TJ s)) at c13;unfold pN cK;generalize vJ s=H1 at *;generalize mI s=H2 at *;generalize OJ s=W1 at *;generalize qA s=N1 at *;generalize sR s=N2 at *;generalize sS s=N3 at *;generalize tR s=N4 at *;generalize RX s=V1 at *;generalize PX s=Q9 at *;generalize PY s=A9 at *;generalize PZ s=U9 at *;generalize NL s=X9 at *;generalize TJ s=E9 at *;obtain ⟨id,r1⟩:=H1;obtain ⟨fl,r2⟩:=H2;obtain ⟨k1,r4⟩:=N1;obtain ⟨k2,r5⟩:=N2;obtain ⟨k3,r6⟩:=N3;obtain ⟨k4,r7⟩:=N4;dsimp only at *;go_enter Tryz.func16,Tryz.ntmps16
 refine_lift mS ?_;intro _ _ _;refine eX (z:=jL) fun wa xa sa ha => ?_;refine aB ?_;refine_lift bK fun _ _ => ?_;refine aG (v:=.agg #[aE s, .int .i64 0, .int .i64 0]) (Runs.build rfl (by kernel_rfl)) ?_;refine aB ?_;refine jS (vs:=[aE s, .int .i64 0, .int .i64 0]) fun wb xb sb hb => ?_;refine aB ?_;have hR1:cV wb wa.heap.size s TH:=hb;have xab:=xa.trans xb;have hab:=xa.size;have hbl:wa.heap.size < wb.heap.size:=aC;have hal:w.heap.size < wa.heap.size:=aC;have ha1:=xb.at ha;generalize hb9:wa.heap.size=b at *;clear ha hb;refine_lift bK fun _ _ => ?_;refine dJ (c1 _ _ hR1) fun w1 h1 m1 => ?_;refine_lift aL ?_;refine aG (v:=.agg (aX ⟨(id:Nat),false,0,false,false,false,false,0,[],[],[],[],0⟩ (.slice none 0 0) (.slice none 0 0) (.slice none 0 0) (.slice none 0 0)).toArray) (Runs.build rfl (by kernel_rfl)) ?_;refine aB ?_;refine eX (z:=jL) fun w2 x2 s2 hz2 => ?_;refine aB ?_;refine fG (v:=.agg (aX ⟨(id:Nat),false,0,false,false,false,false,0,[],[],[],[],0⟩ (.slice none 0 0) (.slice none 0 0) (.slice none 0 0) (.slice none 0 0)).toArray) hz2 (gP (w:=w2) (m:=⟨(id:Nat),false,0,false,false,false,false,0,[],[],[],[],0⟩) ⟨Sl.nil _ _,Sl.nil _ _,Sl.nil _ _,Sl.nil _ _⟩) fun w3 p3 => ?_;have hM3:w3.heap[w1.heap.size]? = some (.cells (aX ⟨(id:Nat),false,0,false,false,false,false,0,[],[],[],[],0⟩ (.slice none 0 0) (.slice none 0 0) (.slice none 0 0) (.slice none 0 0)).toArray 25 (0,0)):=p3.this;have x13:=eC x2 p3;have h3:cV w3 b s r1:=x13.at h1;have hsz:=m1.size;have hne:some w1.heap.size≠some b:=by intro e;have:=Option.some.inj e;omega
 have hcw:w.heap.size≤w1.heap.size:=aC;have hbw:w.heap.size≤b:=aC;have hb1:b < w1.heap.size:=aC;have ha1':wb.heap[w.heap.size]? = _:=ha1;have ha2:=m1.at ha1 (by intro e;have:=Option.some.inj e;omega);have ha3:=x13.at ha2;have x3:Ext w w3:=(xab.move m1 (by rintro k ⟨⟩;omega)).trans x13;clear ha1 ha1' ha2 hz2 p3 x2 hR1;have hac:w.heap.size < w1.heap.size:=aC;generalize hc9:w1.heap.size=c at *;refine_lift bK fun _ _ => ?_;have hna:some w.heap.size≠some b:=by intro e;have:=Option.some.inj e;omega
 have hnc:some w.heap.size≠some c:=by intro e;have:=Option.some.inj e;omega
 refine_lift aL ?_;refine dJ (c2 _ _ h3) fun w4 h4 m4 => ?_;have hM4:=m4.at hM3 hne;have ha4:=m4.at ha3 hna;have x4:Ext w w4:=x3.move m4 (by rintro k ⟨⟩;exact hbw);clear h3 hM3 ha3 x3 m4;refine_lift bK fun _ _ => ?_;refine aG (Runs.andN (m:=fl) (n:=112) rfl rfl aC aH) ?_;refine aB ?_;refine_lift aL ?_;refine dJ (c3 _ _ h4) fun w5 h5 m5 => ?_;have hM5:=m5.at hM4 hne;have ha5:=m5.at ha4 hna;have x5:Ext w w5:=x4.move m5 (by rintro k ⟨⟩;exact hbw);clear h4 hM4 ha4 x4 m5;refine_lift bK fun _ _ => ?_;refine aG (Runs.andN (m:=fl) (n:=32768) rfl rfl aC aH) ?_;refine aB ?_;refine_lift aL ?_;refine aG (Runs.andN (m:=fl) (n:=1024) rfl rfl aC aH) ?_;refine aB ?_;refine_lift aL ?_;refine aG (Runs.andN (m:=fl) (n:=512) rfl rfl aC aH) ?_;refine aB ?_;refine_lift aL ?_;refine aG (Runs.andN (m:=fl) (n:=256) rfl rfl aC aH) ?_;refine aB ?_;refine_lift aL ?_;refine aG (Runs.andN (m:=fl) (n:=128) rfl rfl aC aH) ?_;refine aB ?_;refine_lift aL ?_;refine fZ 1 (.bool (aO fl 32768)) hM5 rfl fun w6 p6 => ?_;have hM6:w6.heap[c]? = some (.cells (aX ⟨((id:Nat):Int),(aO fl 32768),0,false,false,false,false,0,[],[],[],[],0⟩ (.slice none 0 0) (.slice none 0 0) (.slice none 0 0) (.slice none 0 0)).toArray 25 (0,0)):=p6.this;have h6:=p6.mv.at h5 (by intro e;exact hne e.symm);have ha6:=p6.mv.at ha5 hnc;have x6:=eC x5 p6;clear h5 hM5 ha5 x5 p6;refine_lift aL ?_;refine fZ 3 (.bool (aO fl 1024)) hM6 rfl fun w7 p7 => ?_;have hM7:w7.heap[c]? = some (.cells (aX ⟨((id:Nat):Int),(aO fl 32768),0,(aO fl 1024),false,false,false,0,[],[],[],[],0⟩ (.slice none 0 0) (.slice none 0 0) (.slice none 0 0) (.slice none 0 0)).toArray 25 (0,0)):=p7.this;have h7:=p7.mv.at h6 (by intro e;exact hne e.symm);have ha7:=p7.mv.at ha6 hnc;have x7:=eC x6 p7;clear h6 hM6 ha6 x6 p7;refine_lift aL ?_;refine fZ 4 (.bool (aO fl 512)) hM7 rfl fun w8 p8 => ?_;have hM8:w8.heap[c]? = some (.cells (aX ⟨((id:Nat):Int),(aO fl 32768),0,(aO fl 1024),(aO fl 512),false,false,0,[],[],[],[],0⟩ (.slice none 0 0) (.slice none 0 0) (.slice none 0 0) (.slice none 0 0)).toArray 25 (0,0)):=p8.this;have h8:=p8.mv.at h7 (by intro e;exact hne e.symm);have ha8:=p8.mv.at ha7 hnc;have x8:=eC x7 p8;clear h7 hM7 ha7 x7 p8;refine_lift aL ?_;refine fZ 5 (.bool (aO fl 256)) hM8 rfl fun w9 p9 => ?_;have hM9:w9.heap[c]? = some (.cells (aX ⟨((id:Nat):Int),(aO fl 32768),0,(aO fl 1024),(aO fl 512),(aO fl 256),false,0,[],[],[],[],0⟩ (.slice none 0 0) (.slice none 0 0) (.slice none 0 0) (.slice none 0 0)).toArray 25 (0,0)):=p9.this;have h9:=p9.mv.at h8 (by intro e;exact hne e.symm);have ha9:=p9.mv.at ha8 hnc;have x9:=eC x8 p9;clear h8 hM8 ha8 x8 p9;refine_lift aL ?_;refine fZ 6 (.bool (aO fl 128)) hM9 rfl fun w10 p10 => ?_;have hM10:w10.heap[c]? = some (.cells (aX ⟨((id:Nat):Int),(aO fl 32768),0,(aO fl 1024),(aO fl 512),(aO fl 256),(aO fl 128),0,[],[],[],[],0⟩ (.slice none 0 0) (.slice none 0 0) (.slice none 0 0) (.slice none 0 0)).toArray 25 (0,0)):=p10.this;have h10:=p10.mv.at h9 (by intro e;exact hne e.symm);have ha10:=p10.mv.at ha9 hnc;have x10:=eC x9 p10;clear h9 hM9 ha9 x9 p10;refine_lift bK fun _ _ => ?_;refine aG (Runs.andN (m:=fl / 2048) (n:=15) (by show Value.int .i64 _=_;simp) rfl aC aH) ?_;refine aB ?_;refine_lift aL ?_;refine aG (Runs.andN (m:=fl) (n:=15) rfl rfl aC aH) ?_;refine aB ?_;refine_lift aL ?_;refine fZ 2 (.int .i64 ((fl / 2048 &&& 15:Nat):Int)) hM10 rfl fun w11 p11 => ?_;have hM11:w11.heap[c]? = some (.cells (aX ⟨((id:Nat):Int),(aO fl 32768),(((fl / 2048 &&& 15:Nat)):Int),(aO fl 1024),(aO fl 512),(aO fl 256),(aO fl 128),0,[],[],[],[],0⟩ (.slice none 0 0) (.slice none 0 0) (.slice none 0 0) (.slice none 0 0)).toArray 25 (0,0)):=p11.this;have h11:=p11.mv.at h10 (by intro e;exact hne e.symm);have ha11:=p11.mv.at ha10 hnc;have x11:=eC x10 p11;clear h10 hM10 ha10 x10 p11;refine_lift aL ?_;refine fZ 7 (.int .i64 ((fl &&& 15:Nat):Int)) hM11 rfl fun w12 p12 => ?_;have hM12:w12.heap[c]? = some (.cells (aX ⟨((id:Nat):Int),(aO fl 32768),(((fl / 2048 &&& 15:Nat)):Int),(aO fl 1024),(aO fl 512),(aO fl 256),(aO fl 128),((fl &&& 15:Nat):Int),[],[],[],[],0⟩ (.slice none 0 0) (.slice none 0 0) (.slice none 0 0) (.slice none 0 0)).toArray 25 (0,0)):=p12.this;have h12:=p12.mv.at h11 (by intro e;exact hne e.symm);have ha12:=p12.mv.at ha11 hnc;have x12:=eC x11 p12;clear h11 hM11 ha11 x11 p12;refine_lift bK fun _ _ => ?_;refine dJ (c4 _ _ h12) fun w13 h13 m13 => ?_;have hM13:=m13.at hM12 hne;have ha13:=m13.at ha12 hna;have x13:Ext w w13:=x12.move m13 (by rintro k ⟨⟩;exact hbw);clear h12 hM12 ha12 x12 m13;refine_lift aL ?_;refine dJ (c5 _ _ h13) fun w14 h14 m14 => ?_;have hM14:=m14.at hM13 hne;have ha14:=m14.at ha13 hna;have x14:Ext w w14:=x13.move m14 (by rintro k ⟨⟩;exact hbw);clear h13 hM13 ha13 x13 m14;refine_lift aL ?_;refine dJ (c6 _ _ h14) fun w15 h15 m15 => ?_;have hM15:=m15.at hM14 hne;have ha15:=m15.at ha14 hna;have x15:Ext w w15:=x14.move m15 (by rintro k ⟨⟩;exact hbw);clear h14 hM14 ha14 x14 m15;refine_lift aL ?_;refine dJ (c7 _ _ h15) fun w16 h16 m16 => ?_;have hM16:=m16.at hM15 hne;have ha16:=m16.at ha15 hna;have x16:Ext w w16:=x15.move m16 (by rintro k ⟨⟩;exact hbw);clear h15 hM15 ha15 x15 m16;refine_lift bK fun _ _ => ?_;refine dJ (c8 _ _ h16) fun w17 h17 m17 => ?_;have hM17:=m17.at hM16 hne;have ha17:=m17.at ha16 hna;have x17:Ext w w17:=x16.move m17 (by rintro k ⟨⟩;exact hbw);clear h16 hM16 ha16 x16 m17;refine_lift bK fun _ _ => ?_;go_loopw [11,12,13] (fun iv _ _ wr=>∃ (i:Nat) (l:List gE) (r':RdS) (qv:Value),i≤k1∧iv=.int .i64 i∧l.length=i∧cV wr b s r'∧r'.Ok s∧Ext w wr∧wr.heap[w.heap.size]? = some (.cells jL.toArray 25 (0,0))∧wr.heap[c]? = some (.cells (aX ⟨((id:Nat):Int),(aO fl 32768),(((fl / 2048 &&& 15:Nat)):Int),(aO fl 1024),(aO fl 512),(aO fl 256),(aO fl 128),((fl &&& 15:Nat):Int),l,[],[],[],0⟩ qv (.slice none 0 0) (.slice none 0 0) (.slice none 0 0)).toArray 25 (0,0))∧Own w.heap.size 2 28 wr qv (cG l)∧NK s (k1 - i) l r'=Q9) (fun iv _ _ _=>k1 - (intOf iv).toNat)
 case atStart=>exact ⟨0,[],V1,(.slice none 0 0),Nat.zero_le _,rfl,rfl,h17,o8,x17,ha17,hM17,Own.nil _ _ _ _,hQ⟩
 case round =>
  obtain ⟨i,l,r',qv,hi,rfl,hli,hR,hok,hx,ha,hM,hq,hg⟩:=hrel;have hpr:=aA (cs:=vV s r') hR;by_cases c0:i < k1∧r'.e=0
  ·obtain ⟨c1',c2'⟩:=c0;obtain ⟨f',hf'⟩:∃ f',k1 - i=f' + 1:=⟨k1 - i - 1,aC⟩;rw [hf'] at hg
   all_goals skip
   unfold NK at hg;rw [if_neg (by simpa using c2')] at hg;have hX:=nR hok hs8;have hXe:eQ s r'=⟨(fJ s r').1,((fJ s r').2.number s 2).1,(((fJ s r').2.number s 2).2.number s 2).1,(((fJ s r').2.number s 2).2.number s 2).2⟩:=rfl;obtain ⟨hn1',hn2'⟩:=pD hok hs8;have hcn:=GY hR hok hs8;generalize hN:fJ s r'=N at *;obtain ⟨nm,q1⟩:=N;dsimp only at *;have hq2:=bY (n:=2) hn2' hs8 aC;have hk1:=dH s q1 2 aC;have hc1:=fun w' (h':cV w' b s q1)=>eE h' hn2' hs8 2 aC aC;generalize q1.number s 2=K at *;obtain ⟨kind,q2⟩:=K;dsimp only at *;have hq3:=bY (n:=2) hq2 hs8 aC;have hk2:=dH s q2 2 aC;have hc2:=fun w' (h':cV w' b s q2)=>eE h' hq2 hs8 2 aC aC;generalize q2.number s 2=C at *;obtain ⟨cls,q3⟩:=C;dsimp only at *;rw [hXe] at hg;have hQn:IL ⟨nm,kind,cls,q3⟩=q3.want (decide ((cls:Int)=1) && mD (nm,((kind:Nat):Int))) 2:=rfl;rw [hQn] at hg;clear hQn;have hy5:=hq3.want (decide ((cls:Int)=1) && mD (nm,((kind:Nat):Int))) (er:=2) aH;have hcq:=fun w' (h':cV w' b s q3)=>gB h' (decide ((cls:Int)=1) && mD (nm,((kind:Nat):Int))) 2;generalize q3.want (decide ((cls:Int)=1) && mD (nm,((kind:Nat):Int))) 2=y5 at *;have hk1':kind < 65536:=by simpa using hk1
   have hk2':cls < 65536:=by simpa using hk2
   (repeat' first | ((with_reducible refine eN ?_);go_step) | ((with_reducible refine cB ?_);first | refine iF ?_ | (refine fA ?_ ?_ <;> intro hc)) | fail)
   all_goals first
    | (exfalso;omega)
    | skip
   refine dJ hcn fun w18 h18 m18 => ?_;have hM18:=m18.at hM hne;have ha18:=m18.at ha hna;have x18:Ext w w18:=hx.move m18 (by rintro k ⟨⟩;exact hbw);have hq18:=hq.mv m18 (.inr (hq.neBlock hR aH));refine_lift aL ?_;refine aG (v:=.agg #[aE nm, .int .i64 0]) (Runs.build rfl (by kernel_rfl)) ?_;refine aB ?_;refine eX (z:=[aE [], .int .i64 0]) fun w19 x19 s19 hz19 => ?_;refine aB ?_;refine fG (v:=.agg #[aE nm, .int .i64 0]) hz19 (NP rfl rfl) fun w20 p20 => ?_;have hD20:w20.heap[w18.heap.size]? = some (.cells [aE nm, .int .i64 0].toArray 28 (0,0)):=p20.this;have x1820:=eC x19 p20;have h20:cV w20 b s q1:=x1820.at h18;have hM20:=x1820.at hM18;have ha20:=x1820.at ha18;have x20:=x18.trans x1820;have hq20:=hq18.ext x1820;have hv20:=GT hq18 w18.heap.size (Nat.le_refl _);have hdw:w.heap.size≤w18.heap.size:=x18.size;have hbd:b < w18.heap.size:=(Array.getElem?_eq_some_iff.1 h18).1;have hcd:c < w18.heap.size:=(Array.getElem?_eq_some_iff.1 hM18).1;have had:w.heap.size < w18.heap.size:=(Array.getElem?_eq_some_iff.1 ha18).1;have hneD:some w18.heap.size≠some b:=by intro e;have:=Option.some.inj e;omega
   have hncD:some c≠some w18.heap.size:=by intro e;have:=Option.some.inj e;omega
   have hnaD:some w.heap.size≠some w18.heap.size:=by intro e;have:=Option.some.inj e;omega
   clear hz19 p20 x19 hpr hcn h18 hM18 ha18 hq18 x18 hR hM ha hx hq m18;generalize w18.heap.size=d at *;refine_lift bK fun _ _ => ?_;refine dJ (hc1 _ h20) fun w21 h21 m21 => ?_;have hM21:=m21.at hM20 hne;have ha21:=m21.at ha20 hna;have hD21:=m21.at hD20 hneD;have x21:Ext w w21:=x20.move m21 (by rintro k ⟨⟩;exact hbw);have hq21:=hq20.mv m21 (.inr (hq20.neBlock h20 aH));refine_lift aL ?_;refine fZ 1 (.int .i64 (kind:Nat)) hD21 rfl fun w22 p22 => ?_;have hD22:w22.heap[d]? = some (.cells [aE nm, .int .i64 (kind:Nat)].toArray 28 (0,0)):=p22.this;have h22:cV w22 b s q2:=p22.mv.at h21 (by intro e;exact hneD e.symm);have hM22:=p22.mv.at hM21 hncD;have ha22:=p22.mv.at ha21 hnaD;have x22:=eC x21 p22;have hq22:=hq21.mv p22.mv hv20;clear p22;refine_lift bK fun _ _ => ?_;refine dJ (hc2 _ h22) fun w23 h23 m23 => ?_;have hM23:=m23.at hM22 hne;have ha23:=m23.at ha22 hna;have hD23:=m23.at hD22 hneD;have hpD:=aA hD23;have x23:Ext w w23:=x22.move m23 (by rintro k ⟨⟩;exact hbw);have hq23:=hq22.mv m23 (.inr (hq22.neBlock h22 aH));refine_lift FU (fun _ _ hc => ?_) (fun _ _ hc => ?_)
   all_goals first
    | (refine bX (xZ (nm,((kind:Nat):Int)) _) fun w24 x24 => ?_
       have h24:=x24.at h23;have hM24:=x24.at hM23;have ha24:=x24.at ha23;have hD24:=x24.at hD23;have y24:=x23.trans x24;have hq24:=hq23.ext x24;refine_lift aL ?_)
    | (have h24:=h23
       have hM24:=hM23;have ha24:=ha23;have hD24:=hD23;have y24:=x23;have hq24:=hq23)
   all_goals clear hpD
   all_goals refine cL (vs:=[.pointer (some ⟨b,0,none⟩), .bool (decide ((cls:Int)=1) && mD (nm,((kind:Nat):Int))), .int .i64 2]) (enters_of Tryz.func38 rfl rfl) rfl ?_ (hcq _ h24) ?_
   all_goals first
    | (refine congrArg (fun z=>[Value.pointer (some ⟨b,0,none⟩),Value.bool z, .int .i64 2]) ?_;simp [*];done)
    | skip
   all_goals rintro _ w25 ⟨rfl,h25,m25⟩
   all_goals refine ⟨_,rfl,?_⟩
   all_goals refine aB ?_
   all_goals have hM25:=m25.at hM24 hne
   all_goals have ha25:=m25.at ha24 hna
   all_goals have hD25:=m25.at hD24 hneD
   all_goals have hpD:=aA hD25
   all_goals have hpM:=aA (cs:=aX ⟨((id:Nat):Int),(aO fl 32768),(((fl / 2048 &&& 15:Nat)):Int),(aO fl 1024),(aO fl 512),(aO fl 256),(aO fl 128),((fl &&& 15:Nat):Int),l,[],[],[],0⟩ qv (.slice none 0 0) (.slice none 0 0) (.slice none 0 0)) hM25
   all_goals have x25:Ext w w25:=y24.move m25 (by rintro k ⟨⟩;exact hbw)
   all_goals have hq25:=hq24.mv m25 (.inr (hq24.neBlock h24 aH))
   all_goals refine_lift aL ?_
   all_goals refine qP (e:=28) (k:=2) (bytes:=24) (xs:=[.agg #[aE nm, .int .i64 (kind:Nat)]]) (by simp [Value.cells]) ?_
   all_goals intro u26 w26 x26 _ sl26 o26
   all_goals refine aB ?_
   all_goals have h26:=x26.at h25
   all_goals have hM26:=x26.at hM25
   all_goals have ha26:=x26.at ha25
   all_goals have hq26:=hq25.ext x26
   all_goals have y26:=x25.trans x26
   all_goals refine dA (v0:=qv) (es:=cG l) (fs:=[[aE nm, .int .i64 (kind:Nat)]]) rfl hq26 rfl sl26 (by simp [aE,Value.oneCell']) y26.size (by simp [cG];omega) ?_
   all_goals intro v27 w27 o27 m27 _
   all_goals refine aB ?_
   all_goals have h27:=m27.at h26 (fun e=>(hq26.neBlock h26 aH) e.symm)
   all_goals have hM27:=m27.at hM26 (fun e=>(hq26.neBlock hM26 aH) e.symm)
   all_goals have ha27:=m27.at ha26 (fun e=>(hq26.neBlock ha26 aH) e.symm)
   all_goals have y27:Ext w w27:=y26.move m27 (fun k e=>(hq26.block k e).1)
   all_goals clear hpD hpM
   all_goals refine_lift aL ?_
   all_goals refine fZ 8 v27 hM27 o27.one ?_
   all_goals intro w28 p28
   all_goals have hM28:w28.heap[c]? = some (.cells (aX ⟨((id:Nat):Int),(aO fl 32768),(((fl / 2048 &&& 15:Nat)):Int),(aO fl 1024),(aO fl 512),(aO fl 256),(aO fl 128),((fl &&& 15:Nat):Int),(l ++ [(nm,((kind:Nat):Int))]),[],[],[],0⟩ v27 (.slice none 0 0) (.slice none 0 0) (.slice none 0 0)).toArray 25 (0,0)):=p28.this
   all_goals have h28:=p28.mv.at h27 (by intro e;exact hne e.symm)
   all_goals have ha28:=p28.mv.at ha27 hnc
   all_goals have y28:=eC y27 p28
   all_goals have o28:=iM o27 p28 hM27
   all_goals refine_lift aL ?_
   all_goals refine ⟨⟨i + 1,l ++ [(nm,((kind:Nat):Int))],y5,v27,aC,by go_num,by simp [hli],h28,hy5,y28,ha28,hM28,by simpa [cG] using o28,?_⟩,by simp [intOf];omega⟩
   all_goals rw [show k1 - (i + 1)=f' by omega]
   all_goals exact hg
  ·have hQ9:Q9=(l,r'):=by
    rw [← hg];by_cases c1':i < k1
    ·obtain ⟨f',hf'⟩:∃ f',k1 - i=f' + 1:=⟨k1 - i - 1,aC⟩;rw [hf'];unfold NK;rw [if_pos (fun h=>c0 ⟨c1',h⟩)]
    ·rw [show k1 - i=0 by omega];rfl
   subst hQ9;dsimp only at *
   (repeat' first | ((with_reducible refine eN ?_);go_step) | ((with_reducible refine cB ?_);first | refine iF ?_ | (refine fA ?_ ?_ <;> intro hc)) | fail)
   all_goals first
    | (exfalso;omega)
    | skip
   all_goals refine fY (c10 _ _ hR) ?_
   all_goals rintro _ w30 ⟨va,rfl,o30,h30,m30⟩
   all_goals refine ⟨_,rfl,?_⟩
   all_goals refine aB ?_
   all_goals have hM30:=m30.at hM hne
   all_goals have ha30:=m30.at ha hna
   all_goals have x30:Ext w w30:=hx.move m30 (by rintro k ⟨⟩;exact hbw)
   all_goals have oo30_0:=hq.mv m30 (.inr (hq.neBlock hR aH))
   all_goals refine_lift aL ?_
   all_goals refine fZ 9 va hM30 o30.one ?_
   all_goals intro w31 p31
   all_goals have hM31:w31.heap[c]? = some (.cells (aX ⟨((id:Nat):Int),(aO fl 32768),(((fl / 2048 &&& 15:Nat)):Int),(aO fl 1024),(aO fl 512),(aO fl 256),(aO fl 128),((fl &&& 15:Nat):Int),l,A9.1,[],[],0⟩ qv va (.slice none 0 0) (.slice none 0 0)).toArray 25 (0,0)):=p31.this
   all_goals have h31:=p31.mv.at h30 (by intro e;exact hne e.symm)
   all_goals have ha31:=p31.mv.at ha30 hnc
   all_goals have x31:=eC x30 p31
   all_goals have oo31_0:=iM oo30_0 p31 hM30
   all_goals have oo31_1:=iM o30 p31 hM30
   all_goals refine_lift bK fun _ _ => ?_
   all_goals refine fY (c11 _ _ h31) ?_
   all_goals rintro _ w32 ⟨vu,rfl,o32,h32,m32⟩
   all_goals refine ⟨_,rfl,?_⟩
   all_goals refine aB ?_
   all_goals have hM32:=m32.at hM31 hne
   all_goals have ha32:=m32.at ha31 hna
   all_goals have x32:Ext w w32:=x31.move m32 (by rintro k ⟨⟩;exact hbw)
   all_goals have oo32_0:=oo31_0.mv m32 (.inr (oo31_0.neBlock h31 aH))
   all_goals have oo32_1:=oo31_1.mv m32 (.inr (oo31_1.neBlock h31 aH))
   all_goals refine_lift aL ?_
   all_goals refine fZ 10 vu hM32 o32.one ?_
   all_goals intro w33 p33
   all_goals have hM33:w33.heap[c]? = some (.cells (aX ⟨((id:Nat):Int),(aO fl 32768),(((fl / 2048 &&& 15:Nat)):Int),(aO fl 1024),(aO fl 512),(aO fl 256),(aO fl 128),((fl &&& 15:Nat):Int),l,A9.1,U9.1,[],0⟩ qv va vu (.slice none 0 0)).toArray 25 (0,0)):=p33.this
   all_goals have h33:=p33.mv.at h32 (by intro e;exact hne e.symm)
   all_goals have ha33:=p33.mv.at ha32 hnc
   all_goals have x33:=eC x32 p33
   all_goals have oo33_0:=iM oo32_0 p33 hM32
   all_goals have oo33_1:=iM oo32_1 p33 hM32
   all_goals have oo33_2:=iM o32 p33 hM32
   all_goals refine_lift bK fun _ _ => ?_
   all_goals refine fY (c12 _ _ h33) ?_
   all_goals rintro _ w34 ⟨vx,rfl,o34,h34,m34⟩
   all_goals refine ⟨_,rfl,?_⟩
   all_goals refine aB ?_
   all_goals have hM34:=m34.at hM33 hne
   all_goals have ha34:=m34.at ha33 hna
   all_goals have x34:Ext w w34:=x33.move m34 (by rintro k ⟨⟩;exact hbw)
   all_goals have oo34_0:=oo33_0.mv m34 (.inr (oo33_0.neBlock h33 aH))
   all_goals have oo34_1:=oo33_1.mv m34 (.inr (oo33_1.neBlock h33 aH))
   all_goals have oo34_2:=oo33_2.mv m34 (.inr (oo33_2.neBlock h33 aH))
   all_goals refine_lift aL ?_
   all_goals refine fZ 11 vx hM34 o34.one ?_
   all_goals intro w35 p35
   all_goals have hM35:w35.heap[c]? = some (.cells (aX ⟨((id:Nat):Int),(aO fl 32768),(((fl / 2048 &&& 15:Nat)):Int),(aO fl 1024),(aO fl 512),(aO fl 256),(aO fl 128),((fl &&& 15:Nat):Int),l,A9.1,U9.1,X9.1,0⟩ qv va vu vx).toArray 25 (0,0)):=p35.this
   all_goals have h35:=p35.mv.at h34 (by intro e;exact hne e.symm)
   all_goals have ha35:=p35.mv.at ha34 hnc
   all_goals have x35:=eC x34 p35
   all_goals have oo35_0:=iM oo34_0 p35 hM34
   all_goals have oo35_1:=iM oo34_1 p35 hM34
   all_goals have oo35_2:=iM oo34_2 p35 hM34
   all_goals have oo35_3:=iM o34 p35 hM34
   all_goals refine_lift aL ?_
   all_goals refine fZ 12 (.int .i64 (X9.2.1:Nat)) hM35 rfl ?_
   all_goals intro w36 p36
   all_goals have hM36:w36.heap[c]? = some (.cells (aX ⟨((id:Nat):Int),(aO fl 32768),(((fl / 2048 &&& 15:Nat)):Int),(aO fl 1024),(aO fl 512),(aO fl 256),(aO fl 128),((fl &&& 15:Nat):Int),l,A9.1,U9.1,X9.1,((X9.2.1:Nat):Int)⟩ qv va vu vx).toArray 25 (0,0)):=p36.this
   all_goals have h36:=p36.mv.at h35 (by intro e;exact hne e.symm)
   all_goals have ha36:=p36.mv.at ha35 hnc
   all_goals have x36:=eC x35 p36
   all_goals have oo36_0:=iM oo35_0 p36 hM35
   all_goals have oo36_1:=iM oo35_1 p36 hM35
   all_goals have oo36_2:=iM oo35_2 p36 hM35
   all_goals have oo36_3:=iM oo35_3 p36 hM35
   all_goals refine_lift jH fun _ _ _ _ => ?_
   all_goals have hp36:=aA (cs:=vV s X9.2.2) h36
   all_goals refine_lift aL ?_
   all_goals refine fY (c13 _ _ h36) ?_
   all_goals rintro _ w37 ⟨rfl,h37,m37⟩
   all_goals refine ⟨_,rfl,?_⟩
   all_goals refine aB ?_
   all_goals have hM37:=m37.at hM36 hne
   all_goals have ha37:=m37.at ha36 hna
   all_goals have x37:Ext w w37:=x36.move m37 (by rintro k ⟨⟩;exact hbw)
   all_goals have q0:=oo36_0.mv m37 (.inr (oo36_0.neBlock h36 aH))
   all_goals have q1:=oo36_1.mv m37 (.inr (oo36_1.neBlock h36 aH))
   all_goals have q2:=oo36_2.mv m37 (.inr (oo36_2.neBlock h36 aH))
   all_goals have q3:=oo36_3.mv m37 (.inr (oo36_3.neBlock h36 aH))
   all_goals have hmsg:MsgV w37 ⟨((id:Nat):Int),(aO fl 32768),(((fl / 2048 &&& 15:Nat)):Int),(aO fl 1024),(aO fl 512),(aO fl 256),(aO fl 128),((fl &&& 15:Nat):Int),l,A9.1,U9.1,X9.1,((X9.2.1:Nat):Int)⟩ qv va vu vx:=⟨q0.sl,q1.sl,q2.sl,q3.sl⟩
   all_goals clear hp36
   all_goals have hp37:=aA (cs:=vV s E9) h37
   all_goals have hpM:=aA (cs:=aX ⟨((id:Nat):Int),(aO fl 32768),(((fl / 2048 &&& 15:Nat)):Int),(aO fl 1024),(aO fl 512),(aO fl 256),(aO fl 128),((fl &&& 15:Nat):Int),l,A9.1,U9.1,X9.1,((X9.2.1:Nat):Int)⟩ qv va vu vx) hM37
   all_goals unfold aX at hpM
   all_goals refine_lift FU (fun _ _ _ => ?_) (fun _ _ _ => ?_)
   ·have ce:¬ E9.e=0:=by simpa using ‹(!decide (E9.e=0))=true›
    refine aV 6 (fun w'=>Pts w' (.pointer (some ⟨b,0,none⟩)) (vV s E9)) zDk ?_;intro w38 x38 _;have h38:=x38.at h37;have ha38:=x38.at ha37;have y38:=x37.trans x38;refine ⟨aA h38,?_⟩;refine FP (i:=0) (v:=.agg jL.toArray) rfl rfl (fun _=>Runs.build0 (by kernel_rfl)) ?_;refine aB ?_;refine bH 1 ?_;refine bH 2 ?_;refine bH 3 ?_;refine bH 4 ?_;refine eF 5 ?_;refine fG (v:=.agg jL.toArray) ha38 zDk fun w39 p39 => ?_;have h39:=p39.mv.at h38 (by intro e;exact hna e.symm);have x39:=eC y38 p39;refine aD ⟨aZ (aA h39),?_⟩;refine eF 6 ?_
    ((with_reducible refine cB ?_);(first | (refine jO ?_;refine fX ?_) | (refine nC ?_;refine pI ?_;(with_reducible refine cB ?_);refine jO ?_;refine fX ?_)))
    refine aD ⟨aQ rfl,?_⟩;refine nX ?_;refine_lift aL ?_;refine FD (cs:=jL) p39.this ?_;rw [if_neg ce];exact ⟨.slice none 0 0, .slice none 0 0, .slice none 0 0, .slice none 0 0,rfl,⟨Own.nil _ _ _ _,Own.nil _ _ _ _,Own.nil _ _ _ _,Own.nil _ _ _ _⟩,x39⟩
   ·have ce:E9.e=0:=by simpa using ‹(!decide (E9.e=0))=false›
    refine fG (v:=.agg (aX ⟨((id:Nat):Int),(aO fl 32768),(((fl / 2048 &&& 15:Nat)):Int),(aO fl 1024),(aO fl 512),(aO fl 256),(aO fl 128),((fl &&& 15:Nat):Int),l,A9.1,U9.1,X9.1,((X9.2.1:Nat):Int)⟩ qv va vu vx).toArray) ha37 (gP hmsg) fun w38 p38 => ?_;have x38:=eC x37 p38;have y0:=iM q0 p38 ha37;have y1:=iM q1 p38 ha37;have y2:=iM q2 p38 ha37;have y3:=iM q3 p38 ha37;refine_lift aL ?_;refine FD (cs:=aX ⟨((id:Nat):Int),(aO fl 32768),(((fl / 2048 &&& 15:Nat)):Int),(aO fl 1024),(aO fl 512),(aO fl 256),(aO fl 128),((fl &&& 15:Nat):Int),l,A9.1,U9.1,X9.1,((X9.2.1:Nat):Int)⟩ qv va vu vx) p38.this ?_;rw [if_pos ce];exact ⟨qv,va,vu,vx,rfl,⟨y0,y1.weaken hx.size,y2.weaken x31.size,y3.weaken x33.size⟩,x38⟩
   ·have ce:¬ E9.e=0:=by simpa using ‹(!decide (E9.e=0))=true›
    refine aV 6 (fun w'=>Pts w' (.pointer (some ⟨b,0,none⟩)) (vV s E9)) zDk ?_;intro w38 x38 _;have h38:=x38.at h37;have ha38:=x38.at ha37;have y38:=x37.trans x38;refine ⟨aA h38,?_⟩;refine FP (i:=0) (v:=.agg jL.toArray) rfl rfl (fun _=>Runs.build0 (by kernel_rfl)) ?_;refine aB ?_;refine bH 1 ?_;refine bH 2 ?_;refine bH 3 ?_;refine bH 4 ?_;refine eF 5 ?_;refine fG (v:=.agg jL.toArray) ha38 zDk fun w39 p39 => ?_;have h39:=p39.mv.at h38 (by intro e;exact hna e.symm);have x39:=eC y38 p39;refine aD ⟨aZ (aA h39),?_⟩;refine eF 6 ?_
    ((with_reducible refine cB ?_);(first | (refine jO ?_;refine fX ?_) | (refine nC ?_;refine pI ?_;(with_reducible refine cB ?_);refine jO ?_;refine fX ?_)))
    refine aD ⟨aQ rfl,?_⟩;refine nX ?_;refine_lift aL ?_;refine FD (cs:=jL) p39.this ?_;rw [if_neg ce];exact ⟨.slice none 0 0, .slice none 0 0, .slice none 0 0, .slice none 0 0,rfl,⟨Own.nil _ _ _ _,Own.nil _ _ _ _,Own.nil _ _ _ _,Own.nil _ _ _ _⟩,x39⟩
   ·have ce:E9.e=0:=by simpa using ‹(!decide (E9.e=0))=false›
    refine fG (v:=.agg (aX ⟨((id:Nat):Int),(aO fl 32768),(((fl / 2048 &&& 15:Nat)):Int),(aO fl 1024),(aO fl 512),(aO fl 256),(aO fl 128),((fl &&& 15:Nat):Int),l,A9.1,U9.1,X9.1,((X9.2.1:Nat):Int)⟩ qv va vu vx).toArray) ha37 (gP hmsg) fun w38 p38 => ?_;have x38:=eC x37 p38;have y0:=iM q0 p38 ha37;have y1:=iM q1 p38 ha37;have y2:=iM q2 p38 ha37;have y3:=iM q3 p38 ha37;refine_lift aL ?_;refine FD (cs:=aX ⟨((id:Nat):Int),(aO fl 32768),(((fl / 2048 &&& 15:Nat)):Int),(aO fl 1024),(aO fl 512),(aO fl 256),(aO fl 128),((fl &&& 15:Nat):Int),l,A9.1,U9.1,X9.1,((X9.2.1:Nat):Int)⟩ qv va vu vx) p38.this ?_;rw [if_pos ce];exact ⟨qv,va,vu,vx,rfl,⟨y0,y1.weaken hx.size,y2.weaken x31.size,y3.weaken x33.size⟩,x38⟩
theorem NQ (s:List UInt8) (hs:s.length≤1000000):Calls Tryz.prog 16 #[aE s] w (fun e w'=>NM s e w w') :=
 (mJ s hs).mono fun _ _ ⟨q,a,u,x,e,⟨h1,h2,h3,h4⟩,hx⟩=>⟨q,a,u,x,e,⟨h1.sl,h2.sl,h3.sl,h4.sl⟩,hx⟩
structure MsgW (B:Nat) (w:World) (m:MsgR) (q a u e:Value):Prop where
 oq:Own B 2 28 w q (cG m.qs)
 oa:Own B 4 61 w a (aF m.an)
 ou:Own B 4 61 w u (aF m.au)
 oe:Own B 4 61 w e (aF m.ex)
theorem MsgW.msg {m:MsgR} {q a e:Value} (h:MsgW B w m q a u e):MsgV w m q a u e:=⟨h.oq.sl,h.oa.sl,h.ou.sl,h.oe.sl⟩
theorem MsgW.ext {m:MsgR} {q a e:Value} (h:MsgW B w m q a u e) (x:Ext w w'):MsgW B w' m q a u e:=⟨h.oq.ext x,h.oa.ext x,h.ou.ext x,h.oe.ext x⟩
theorem MsgW.weaken {C:Nat} {m:MsgR} {q a e:Value} (h:MsgW B w m q a u e) (x:C≤B):MsgW C w m q a u e:=⟨h.oq.weaken x,h.oa.weaken x,h.ou.weaken x,h.oe.weaken x⟩
theorem MsgW.box {m:MsgR} {q a e:Value} (h:MsgW B w m q a u e) (hb:w.heap[b]? = some (.cells cs 25 fz)) (hm:Mv (some b) w w'):MsgW B w' m q a u e :=
 ⟨h.oq.mv hm (.inr (h.oq.neBlock hb aH)),h.oa.mv hm (.inr (h.oa.neBlock hb aH)),h.ou.mv hm (.inr (h.ou.neBlock hb aH)),h.oe.mv hm (.inr (h.oe.neBlock hb aH))⟩
section
variable {P:Program} {a:Act} {w:World} {d:Option Nat} {ty:TypeId} {ps:String} {af:Array Edge} {g:Option (Nat × Bool)}
theorem Runs.shlN {t u:TypeId} {x y:Operand} {m:Nat} (hx:a.eval x=.int .i64 (m:Nat)) (hy:a.eval y=.int .u64 11) (h:m * 2048 < 4611686018427387904) :
 Runs P (Oper.mk d (.binOp .shl t x y u) ty ps af g) a w (.int .i64 ((m * 2048:Nat):Int)):=by
 have:=Runs.shl (P:=P) (w:=w) (d:=d) (ty:=ty) (ps:=ps) (af:=af) (g:=g) (t:=t) (u:=u) hx hy aC aC (by simp;omega);have e:((m:Nat):Int) * 2 ^ (11:Int).toNat=((m * 2048:Nat):Int):=bE
 rwa [e] at this
end
theorem KM (is:Bool) (n:Nat):(if is=true then (n:Int) else 0)=((flagN is n:Nat):Int):=by unfold flagN;split <;> simp
theorem WrAt.grow {m:Nat} (h:WrAt w0 w b m l ps) (x:Ext w w'):WrAt w0 w' b m l ps:=by
 obtain ⟨h1,h2,h3,h4,⟨v,h5,h6⟩,h7⟩:=h;exact ⟨h1,h2,h3,h4.trans x,⟨v,x.at h5,h6.ext x⟩,h7.at (fun o h=>x.at h)⟩
theorem pO (is:Bool) (n:Nat) (w:World):Calls Tryz.prog 30 #[.bool is, .int .i64 ((n:Nat):Int)] w (bG w (.int .i64 ((flagN is n:Nat):Int))):=by
 rw [← KM];exact NJ is n w
theorem TL {a e:Value} {la lu le:List (List Value)} (h1:Sl 4 w a la) (h2:Sl 4 w u lu) (h3:Sl 4 w e le):Tryz.prog.built 89 [(0,a),(1,u),(2,e)]=some #[a,u,e]:=by
 obtain ⟨_,_,rfl,_⟩:=h1.out;obtain ⟨_,_,rfl,_⟩:=h2.out;obtain ⟨_,_,rfl,_⟩:=h3.out
 kernel_rfl
theorem CI {m:Nat} (h:WrAt w0 w b m l ps) (n:Int) (h0:0≤n) (hn:n≤100000000000000) (hl:l.length + 2≤100000000000000):Calls Tryz.prog 29 #[.pointer (some ⟨b,0,none⟩), .int .i64 n] w (uX w0 w b m (l ++ aK n.toNat) ps):=by
 have:=jM h n.toNat aC hl
 rwa [show ((n.toNat:Nat):Int)=n by omega] at this
theorem QA {m:Nat} (h:WrAt w0 w b m l ps) (n:Int) (h0:0≤n) (hn:n≤100000000000000) (hl:l.length + 4≤100000000000000):Calls Tryz.prog 32 #[.pointer (some ⟨b,0,none⟩), .int .i64 n] w (uX w0 w b m (l ++ fK n.toNat) ps):=by
 have:=ND h n.toNat aC hl
 rwa [show ((n.toNat:Nat):Int)=n by omega] at this
theorem kN {mm:MsgR} {q a e:Value} (hm:MsgV w mm q a u e):Calls Tryz.prog 11 #[.agg (aX mm q a u e).toArray] w (bG w (.tuple #[aE (aT mm).1, .int .i64 (aT mm).2])):=by
 go_enter Tryz.func11,Tryz.ntmps11
 refine_lift lQ fun _ _ => ?_;refine jS (vs:=aX mm q a u e) fun w1 x1 s1 hb1 => ?_;refine aB ?_;have hpM:=aA (cs:=aX mm q a u e) hb1;unfold aX at hpM;have hm1:=hm.ext x1;refine_lift jH fun _ _ _ _ => ?_;refine bX (EI mm q a u e _ hm1) fun w2 x2 => ?_;have hb2:=x2.at hb1;have x02:=x1.trans x2;have hm2:=hm1.ext x2;by_cases cc:bZ mm=0
 ·refine_lift OU (fun _ _ _ => ?_) (fun _ => ?_)
  all_goals first
   | (exfalso;simp_all;done)
   | skip
  refine oL (kt:=26) rfl ?_;intro w3 x3 s3 hM3;refine aB ?_;refine_lift aL ?_;refine aG (v:=.agg (CV (.slice none 0 0) w2.heap.size).toArray) (Runs.build rfl (by kernel_rfl)) ?_;refine aB ?_;refine jS (vs:=CV (.slice none 0 0) w2.heap.size) fun w4 x4 s4 hb4 => ?_;refine aB ?_;have x24:=x3.trans x4;have hW4:WrAt w2 w4 w3.heap.size w2.heap.size [] []:=⟨x3.size,Nat.le_refl _,by have:=x3.size;omega,x24,⟨.slice none 0 0,hb4,Own.nil _ _ _ _⟩,hM3.at (fun o h=>x4.at h)⟩;have hb4':=x24.at hb2;have hpM4:=aA (cs:=aX mm q a u e) hb4';unfold aX at hpM4;clear hpM;refine_lift bK fun _ _ => ?_;have hid:0≤mm.id∧mm.id≤65535∧0≤mm.op∧mm.op≤15∧0≤mm.rcode∧mm.rcode≤15:=by
   unfold bZ at cc;split at cc
   ·rename_i c;simp [fO] at c;omega
   ·cases cc
  have cw:=jM hW4 mm.id.toNat aC bE;refine cL (vs:=[.pointer (some ⟨w3.heap.size,0,none⟩), .int .i64 ((mm.id.toNat:Nat):Int)]) (enters_of Tryz.func29 rfl rfl) rfl (congrArg (fun z=>[Value.pointer (some ⟨w3.heap.size,0,none⟩),Value.int .i64 z]) (show mm.id=((mm.id.toNat:Nat):Int) by omega)) cw ?_;rintro _ w5 ⟨rfl,h5,g5⟩;refine ⟨_,rfl,?_⟩;refine aB ?_;have hb5:=g5 _ _ _ _ aH aH hb4';have hp5:=aA (cs:=aX mm q a u e) hb5;unfold aX at hp5;clear hpM4;refine_lift bK fun _ _ => ?_;refine aV 27 (Ext w5) zDk ?_;intro w6 x6 _;refine ⟨x6,?_⟩;refine bH 0 ?_;refine bH 1 ?_;refine bH 2 ?_;refine bH 4 ?_;refine bH 5 ?_;refine BG (i:=6) (v:=.int .i64 ((mm.op.toNat * 2048:Nat):Int)) rfl rfl (fun w' hF=>Runs.shlN (congrArg (Value.int .i64) (show mm.op=((mm.op.toNat:Nat):Int) by omega)) rfl aC) ?_;refine aB ?_;refine bH 8 ?_;refine bH 9 ?_;refine bH 12 ?_;refine bH 13 ?_;refine bH 16 ?_;refine bH 17 ?_;refine bH 20 ?_;refine bH 21 ?_;refine bH 24 ?_;refine bH 25 ?_;have z0:Ext w5 w6:=x6;refine eF 3 ?_;refine bX (pO mm.resp 32768 _) fun w7 x7 => ?_;have z7:Ext w5 w7:=z0.trans x7;refine aD ⟨aZ z7,?_⟩;have hf7:flagN mm.resp 32768 < 65536:=by have:=kM mm.resp 32768;omega
  have ha7:(flagN mm.resp 32768 ||| mm.op.toNat * 2048) < 65536:=KK hf7 aC;refine BG (i:=7) (v:=.int .i64 (((flagN mm.resp 32768 ||| mm.op.toNat * 2048):Nat):Int)) rfl rfl (fun w' hF=>Runs.orN (m:=flagN mm.resp 32768) (n:=mm.op.toNat * 2048) rfl rfl aC aC) ?_;refine aB ?_;refine eF 10 ?_;refine bX (pO mm.auth 1024 _) fun w8 x8 => ?_;have z8:Ext w5 w8:=z7.trans x8;refine aD ⟨aZ z8,?_⟩;have hf8:flagN mm.auth 1024 < 65536:=by have:=kM mm.auth 1024;omega
  have ha8:((flagN mm.resp 32768 ||| mm.op.toNat * 2048) ||| flagN mm.auth 1024) < 65536:=KK ha7 hf8;refine BG (i:=11) (v:=.int .i64 ((((flagN mm.resp 32768 ||| mm.op.toNat * 2048) ||| flagN mm.auth 1024):Nat):Int)) rfl rfl (fun w' hF=>Runs.orN (m:=(flagN mm.resp 32768 ||| mm.op.toNat * 2048)) (n:=flagN mm.auth 1024) rfl rfl aC aC) ?_;refine aB ?_;refine eF 14 ?_;refine bX (pO mm.trunc 512 _) fun w9 x9 => ?_;have z9:Ext w5 w9:=z8.trans x9;refine aD ⟨aZ z9,?_⟩;have hf9:flagN mm.trunc 512 < 65536:=by have:=kM mm.trunc 512;omega
  have ha9:(((flagN mm.resp 32768 ||| mm.op.toNat * 2048) ||| flagN mm.auth 1024) ||| flagN mm.trunc 512) < 65536:=KK ha8 hf9;refine BG (i:=15) (v:=.int .i64 (((((flagN mm.resp 32768 ||| mm.op.toNat * 2048) ||| flagN mm.auth 1024) ||| flagN mm.trunc 512):Nat):Int)) rfl rfl (fun w' hF=>Runs.orN (m:=((flagN mm.resp 32768 ||| mm.op.toNat * 2048) ||| flagN mm.auth 1024)) (n:=flagN mm.trunc 512) rfl rfl aC aC) ?_;refine aB ?_;refine eF 18 ?_;refine bX (pO mm.want 256 _) fun w10 x10 => ?_;have z10:Ext w5 w10:=z9.trans x10;refine aD ⟨aZ z10,?_⟩;have hf10:flagN mm.want 256 < 65536:=by have:=kM mm.want 256;omega
  have ha10:((((flagN mm.resp 32768 ||| mm.op.toNat * 2048) ||| flagN mm.auth 1024) ||| flagN mm.trunc 512) ||| flagN mm.want 256) < 65536:=KK ha9 hf10;refine BG (i:=19) (v:=.int .i64 ((((((flagN mm.resp 32768 ||| mm.op.toNat * 2048) ||| flagN mm.auth 1024) ||| flagN mm.trunc 512) ||| flagN mm.want 256):Nat):Int)) rfl rfl (fun w' hF=>Runs.orN (m:=(((flagN mm.resp 32768 ||| mm.op.toNat * 2048) ||| flagN mm.auth 1024) ||| flagN mm.trunc 512)) (n:=flagN mm.want 256) rfl rfl aC aC) ?_;refine aB ?_;refine eF 22 ?_;refine bX (pO mm.avail 128 _) fun w11 x11 => ?_;have z11:Ext w5 w11:=z10.trans x11;refine aD ⟨aZ z11,?_⟩;have hf11:flagN mm.avail 128 < 65536:=by have:=kM mm.avail 128;omega
  have ha11:(((((flagN mm.resp 32768 ||| mm.op.toNat * 2048) ||| flagN mm.auth 1024) ||| flagN mm.trunc 512) ||| flagN mm.want 256) ||| flagN mm.avail 128) < 65536:=KK ha10 hf11;refine BG (i:=23) (v:=.int .i64 (((((((flagN mm.resp 32768 ||| mm.op.toNat * 2048) ||| flagN mm.auth 1024) ||| flagN mm.trunc 512) ||| flagN mm.want 256) ||| flagN mm.avail 128):Nat):Int)) rfl rfl (fun w' hF=>Runs.orN (m:=((((flagN mm.resp 32768 ||| mm.op.toNat * 2048) ||| flagN mm.auth 1024) ||| flagN mm.trunc 512) ||| flagN mm.want 256)) (n:=flagN mm.avail 128) rfl rfl aC aC) ?_;refine aB ?_;have ha12:((((((flagN mm.resp 32768 ||| mm.op.toNat * 2048) ||| flagN mm.auth 1024) ||| flagN mm.trunc 512) ||| flagN mm.want 256) ||| flagN mm.avail 128) ||| mm.rcode.toNat) < 65536:=KK ha11 aC;refine BG (i:=26) (v:=.int .i64 ((((((((flagN mm.resp 32768 ||| mm.op.toNat * 2048) ||| flagN mm.auth 1024) ||| flagN mm.trunc 512) ||| flagN mm.want 256) ||| flagN mm.avail 128) ||| mm.rcode.toNat):Nat):Int)) rfl rfl (fun w' hF=>Runs.orN (m:=(((((flagN mm.resp 32768 ||| mm.op.toNat * 2048) ||| flagN mm.auth 1024) ||| flagN mm.trunc 512) ||| flagN mm.want 256) ||| flagN mm.avail 128)) (n:=mm.rcode.toNat) rfl (congrArg (Value.int .i64) (show mm.rcode=((mm.rcode.toNat:Nat):Int) by omega)) aC aC) ?_;refine aB ?_;refine eF 27 ?_;have cw2:=jM (h5.grow z11) (gG mm) (by unfold gG;omega) (by simp [aK]);refine dJ cw2 fun w12 h12 g12 => ?_;refine aD ⟨aQ rfl,?_⟩;refine nX ?_;have hb12:=g12 _ _ _ _ aH aH (z11.at hb5);have hp12:=aA (cs:=aX mm q a u e) hb12;unfold aX at hp12;clear hp5;refine_lift jH fun _ _ _ _ => ?_;have hl16:=aN mm.ex;have hx02:=x02;have hm12:MsgV w12 mm q a u e:=hm2.ext h12.ext;have hq12:=hm12.qs;have ha12:=hm12.an;have hu12:=hm12.au;have he12:=hm12.ex;refine aV 17 (Ext w12) zDk ?_;intro w13 x13 _;refine ⟨x13,?_⟩;refine eH 18 ?_;refine bH 0 ?_;refine bH 1 ?_;refine bH 2 ?_;refine bH 3 ?_;refine bH 4 ?_;refine bH 5 ?_;refine bH 6 ?_;refine bH 7 ?_;refine bH 8 ?_;refine bH 9 ?_;refine bH 10 ?_;refine bH 11 ?_;refine bH 12 ?_;refine bH 13 ?_;refine bH 14 ?_;rw [dR,aN,aN,aN];have hok:=iY cc;have hfl1:=kM (!decide (mm.size=0)) 1;have hql:=hok.ql;have hnl:=hok.nl;have hul:=hok.ul;have hel:=hok.el;refine eF 15 ?_;refine bX (pO (!decide (mm.size=0)) 1 _) fun w14 x14 => ?_;have z14:Ext w12 w14:=x13.trans x14;refine aD ⟨aZ z14,?_⟩;refine eF 16 ?_
  ((with_reducible refine cB ?_);(first | (refine jO ?_;refine fX ?_) | (refine nC ?_;refine pI ?_;(with_reducible refine cB ?_);refine jO ?_;refine fX ?_)))
  rw [show ((mm.ex.length:Nat):Int) + ((flagN (!decide (mm.size=0)) 1:Nat):Int)=((mm.ex.length + flagN (!decide (mm.size=0)) 1:Nat):Int) by omega];refine aD ⟨aZ z14,?_⟩;refine eF 17 ?_;refine aG (v:=.agg ((yI mm).map fun n=>Value.int .i64 (n:Nat)).toArray) (Runs.build rfl (by kernel_rfl)) ?_;refine aB ?_;refine aD ⟨aQ rfl,?_⟩;refine nX ?_;have h14:=h12.grow z14;have hcl:(yI mm).length=4:=rfl;have hcb:∀ x ∈ yI mm,x≤65535:=by
   intro x hx;simp only [yI,List.mem_cons,List.not_mem_nil,or_false] at hx;omega
  have hhd:[] ++ aK mm.id.toNat ++ aK (gG mm) ++ (yI mm).flatMap aK=fE mm:=by simp [fE,yI]
  have hb2':=hb2;generalize yI mm=cn at *;have hbl0:([] ++ aK mm.id.toNat ++ aK (gG mm)).length=4:=rfl;generalize ([] ++ aK mm.id.toNat ++ aK (gG mm):List UInt8)=bs at *;generalize hB:w3.heap.size=B at *;generalize hMp:w2.heap.size=M at *;clear hp12;have hpw:∀ wr,Ext w2 wr→Pts wr (.pointer (some ⟨w.heap.size,0,none⟩)) [.int .i64 mm.id, .bool mm.resp, .int .i64 mm.op, .bool mm.auth, .bool mm.trunc, .bool mm.want, .bool mm.avail, .int .i64 mm.rcode,q,a,u,e, .int .i64 mm.size]:=fun wr x=>aA (cs:=aX mm q a u e) (x.at hb2);refine_lift aL ?_;go_loopw [7,72] (fun _ iv wr=>∃ k:Nat,k≤4∧iv=.int .i64 k∧WrAt w2 wr B M (bs ++ (cn.take k).flatMap aK) []∧((cn.take k).flatMap aK).length=2 * k) (fun _ iv _=>4 - (intOf iv).toNat)
  case atStart=>exact ⟨0,aC,rfl,by simpa using h14,rfl⟩
  case round =>
   obtain ⟨k,hk,rfl,hW,hlk⟩:=hrel;by_cases c4:k < 4
   ·have hck:k < cn.length:=aC;have hgk:=List.getElem?_eq_getElem hck;have hmk:=hcb _ (List.getElem_mem hck);refine_lift rR ?_;intro _ _ _ _ _ _;refine aG (v:=.int .i64 (cn[k]:Nat)) (Runs.idxA (i:=k) (n:=4) rfl rfl (by simp [hgk]) aC zDk) ?_;refine aB ?_;refine_lift aL ?_;refine dJ (jM hW cn[k] aC (by rw [List.length_append];omega)) fun w15 h15 g15 => ?_;refine_lift aL ?_;have hT:(cn.take (k + 1)).flatMap aK=(cn.take k).flatMap aK ++ aK cn[k]:=by rw [List.take_succ_eq_append_getElem hck,List.flatMap_append];simp
    refine ⟨⟨k + 1,aC,by go_num,?_,?_⟩,by simp [intOf];omega⟩
    ·rw [hT,← List.append_assoc];exact h15
    ·rw [hT,List.length_append,hlk];simp [aK];omega
   ·have hk4:k=4:=aC;subst hk4;rw [List.take_of_length_le aC,hhd] at hW;have hlh:(fE mm).length=12:=by simp [fE,aK]
    have hlh':(((mm.qs.take 0).foldl qW (fE mm,[])).1).length=12:=hlh;have hqE:=hq12;have hp16:=hpw wr hW.ext;have hqs16:=hm2.qs.ext hW.ext;have hqc:=dR mm.qs;refine_lift mS fun _ _ _ => ?_;clear hp16;go_loopw [9,82] (fun _ iv wr=>∃ k:Nat,k≤mm.qs.length∧iv=.int .i64 k∧WrAt w2 wr B M ((mm.qs.take k).foldl qW (fE mm,[])).1 ((mm.qs.take k).foldl qW (fE mm,[])).2∧Keys ((mm.qs.take k).foldl qW (fE mm,[])).2∧((mm.qs.take k).foldl qW (fE mm,[])).1.length≤12 + 260 * k) (fun _ iv _=>mm.qs.length - (intOf iv).toNat)
    case atStart=>exact ⟨0,aC,rfl,hW,List.Pairwise.nil,by rw [hlh'];omega⟩
    case round =>
     obtain ⟨k,hk,rfl,hW,hK,hL⟩:=hrel;by_cases ck:k < mm.qs.length
     ·have hqk:=hok.qs _ (List.getElem_mem ck);have hT:(mm.qs.take (k + 1)).foldl qW (fE mm,[])=qW ((mm.qs.take k).foldl qW (fE mm,[])) mm.qs[k]:=by rw [List.take_succ_eq_append_getElem ck,List.foldl_append];rfl
      have hlk:=NG hqk ((mm.qs.take k).foldl qW (fE mm,[]));have hkk:=PW ((mm.qs.take k).foldl qW (fE mm,[])) mm.qs[k] hK;generalize (mm.qs.take k).foldl qW (fE mm,[])=X at *;obtain ⟨hn1,hn2,hn3⟩:=yJ hqk;obtain ⟨t9,ht1,ht2⟩:=sP hn1 X;have hq4:=hm2.qs.ext hW.ext;have h4:=hq4.elem (mF ck);refine_lift rR ?_;intro _ _ _ _ _ _;refine eX (z:=[aE [], .int .i64 0]) fun w3' x3' s3' h3' => ?_;refine aB ?_;refine fG (v:=.agg #[aE mm.qs[k].1, .int .i64 mm.qs[k].2]) h3' (NP rfl rfl) fun w4' p4' => ?_;have x4':=eC x3' p4';have hc4:w4'.heap[wr.heap.size]? = some (.cells [aE mm.qs[k].1, .int .i64 mm.qs[k].2].toArray 28 (0,0)):=p4'.this;have hpq:=aA (cs:=[aE mm.qs[k].1, .int .i64 mm.qs[k].2]) hc4;have hW4:=hW.grow x4';clear p4' h3' x3' h4;generalize wr.heap.size=c at *;refine_lift bK fun _ _ => ?_;refine dJ (sM hW4 hK mm.qs[k].1 hn1 aC) fun w16 h16 g16 => ?_;have hc16:=g16 _ _ _ _ aH aH hc4;clear hpq;have hpq:=aA (cs:=[aE mm.qs[k].1, .int .i64 mm.qs[k].2]) hc16;refine_lift bK fun _ _ => ?_;refine dJ (CI h16 mm.qs[k].2 aC aC (by rw [ht1,List.length_append];omega)) fun w17 h17 g17 => ?_;refine_lift aL ?_;refine dJ (jM h17 1 aC (by rw [ht1];simp [aK];omega)) fun w18 h18 g18 => ?_;refine_lift aL ?_;refine ⟨⟨k + 1,aC,by go_num,?_⟩,by simp [intOf];omega⟩;rw [hT];exact ⟨h18,hkk,aC⟩
     ·have hkq:k=mm.qs.length:=aC;subst hkq;rw [List.take_length] at hW hK hL;have hp16:=hpw wr hW.ext;refine_lift FV fun _ _ _ _ _ => ?_;have hVL:∀ i,i < 3→∃ v l,([a,u,e]:List Value)[i]? = some v∧[mm.an,mm.au,mm.ex][i]? = some l∧Sl 4 w2 v (aF l)∧l.length≤200∧∀ r ∈ l,aW r=0:=by
       intro i hi
       match i,hi with
       | 0,_=>exact ⟨_,_,rfl,rfl,hm2.an,hok.nl,hok.an⟩
       | 1,_=>exact ⟨_,_,rfl,rfl,hm2.au,hok.ul,hok.au⟩
       | 2,_=>exact ⟨_,_,rfl,rfl,hm2.ex,hok.el,hok.ex⟩
      have hfin:[mm.an,mm.au,mm.ex].foldl (fun x l=>l.foldl fC x) (mm.qs.foldl qW (fE mm,[]))=gY mm:=rfl;refine aG (v:=.agg ([a,u,e]:List Value).toArray) (Runs.build rfl (TL hm2.an hm2.au hm2.ex)) ?_;refine aB ?_;have hLl:[mm.an,mm.au,mm.ex].length=3:=rfl;generalize mm.qs.foldl qW (fE mm,[])=X0 at *;clear hp16 hqs16 hqE hlh';generalize hLL:[mm.an,mm.au,mm.ex]=LL at *;generalize hVV:([a,u,e]:List Value)=VV at *;refine_lift aL ?_;go_loopw [11,13,104] (fun _ _ iv wr=>∃ i:Nat,i≤3∧iv=.int .i64 i∧WrAt w2 wr B M ((LL.take i).foldl (fun x l=>l.foldl fC x) X0).1 ((LL.take i).foldl (fun x l=>l.foldl fC x) X0).2∧Keys ((LL.take i).foldl (fun x l=>l.foldl fC x) X0).2∧((LL.take i).foldl (fun x l=>l.foldl fC x) X0).1.length≤3000 + 1200000 * i) (fun _ _ iv _=>3 - (intOf iv).toNat)
      case atStart=>exact ⟨0,aC,rfl,hW,hK,by simp only [List.take_zero,List.foldl_nil];omega⟩
      case round =>
       obtain ⟨i,hi,rfl,hW,hK,hL⟩:=hrel;by_cases ci:i < 3
       ·obtain ⟨v,l,hv1,hl1,hsl,hll,hlr⟩:=hVL i ci;have hT:(LL.take (i + 1)).foldl (fun x l=>l.foldl fC x) X0=l.foldl fC ((LL.take i).foldl (fun x l=>l.foldl fC x) X0):=by
         rw [List.take_add_one,hl1,List.foldl_append];rfl
        generalize (LL.take i).foldl (fun x l=>l.foldl fC x) X0=X at *;refine_lift rR ?_;intro _ _ _ _ _ _;refine aG (v:=v) (Runs.idxA (i:=i) (n:=3) rfl rfl (by simp [hv1]) aC zDk) ?_;refine aB ?_;have hslr:=hsl.ext hW.ext;have hrl:=aN l;refine_lift aL ?_;go_loopw [13,109] (fun _ jv wr=>∃ k:Nat,k≤l.length∧jv=.int .i64 k∧WrAt w2 wr B M ((l.take k).foldl fC X).1 ((l.take k).foldl fC X).2∧Keys ((l.take k).foldl fC X).2∧((l.take k).foldl fC X).1.length≤3000 + 1200000 * i + 6000 * k) (fun _ jv _=>l.length - (intOf jv).toNat)
        case atStart=>exact ⟨0,aC,rfl,hW,hK,by simp only [List.take_zero,List.foldl_nil];omega⟩
        case round =>
         obtain ⟨k,hk,rfl,hW,hK,hL⟩:=hrel;by_cases ck:k < l.length
         ·have hRk:=tO (hlr _ (List.getElem_mem ck));have hT2:(l.take (k + 1)).foldl fC X=fC ((l.take k).foldl fC X) l[k]:=by rw [List.take_succ_eq_append_getElem ck,List.foldl_append];rfl
          generalize (l.take k).foldl fC X=Y at *;have hlk:=NH hRk Y;have hkk:=KJ Y l[k] hK;have hNk:=gS (cX l[k].name) Y.1 Y.2 hK;obtain ⟨t9,ht1,ht2⟩:=sP hRk.nm Y;have hsk:=hsl.ext hW.ext;have h4:=hsk.elem (fI ck);have hk0:=hRk.k0;have hk1:=hRk.k1;have ht0:=hRk.t0;have ht3:=hRk.t1;refine_lift rR ?_;intro _ _ _ _ _ _;refine eX (z:=gW) fun w3' x3' s3' h3' => ?_;refine aB ?_;refine fG (v:=ST l[k]) h3' (oH rfl rfl rfl rfl) fun w4' p4' => ?_;have x4':=eC x3' p4';have hc4:w4'.heap[wr.heap.size]? = some (.cells [aE l[k].name, .int .i64 l[k].kind, .int .i64 l[k].ttl,aE l[k].data].toArray 61 (0,0)):=p4'.this;have hpq:=aA (cs:=[aE l[k].name, .int .i64 l[k].kind, .int .i64 l[k].ttl,aE l[k].data]) hc4;have hW4:=hW.grow x4';clear p4' h3' x3' h4 hsk hslr;generalize wr.heap.size=c at *;refine_lift bK fun _ _ => ?_;refine dJ (sM hW4 hK l[k].name hRk.nm aC) fun w20 h20 g20 => ?_;have hc20:=g20 _ _ _ _ aH aH hc4;clear hpq;have hpq:=aA (cs:=[aE l[k].name, .int .i64 l[k].kind, .int .i64 l[k].ttl,aE l[k].data]) hc20;refine_lift bK fun _ _ => ?_;refine dJ (CI h20 l[k].kind aC aC (by rw [ht1,List.length_append];omega)) fun w21 h21 g21 => ?_;have hc21:=g21 _ _ _ _ aH aH hc20;clear hpq;have hpq:=aA (cs:=[aE l[k].name, .int .i64 l[k].kind, .int .i64 l[k].ttl,aE l[k].data]) hc21;refine_lift bK fun _ _ => ?_;refine dJ (jM h21 1 aC (by rw [ht1];simp [aK];omega)) fun w22 h22 g22 => ?_;have hc22:=g22 _ _ _ _ aH aH hc21;clear hpq;have hpq:=aA (cs:=[aE l[k].name, .int .i64 l[k].kind, .int .i64 l[k].ttl,aE l[k].data]) hc22;refine_lift bK fun _ _ => ?_;refine dJ (QA h22 l[k].ttl aC aC (by rw [ht1];simp [aK];omega)) fun w23 h23 g23 => ?_;have hc23:=g23 _ _ _ _ aH aH hc22;clear hpq;have hpq:=aA (cs:=[aE l[k].name, .int .i64 l[k].kind, .int .i64 l[k].ttl,aE l[k].data]) hc23;refine_lift aL ?_;refine dJ (PV h23 hNk l[k] hRk.d hRk.soa (by rw [ht1];simp [aK,fK];omega)) fun w24 h24 g24 => ?_;refine_lift aL ?_;refine ⟨⟨k + 1,aC,by go_num,?_⟩,by simp [intOf];omega⟩;rw [hT2];exact ⟨h24,hkk,aC⟩
         ·have hkl:k=l.length:=aC;subst hkl;rw [List.take_length] at hW hK hL;refine_lift lS fun _ => ?_;refine ⟨⟨i + 1,aC,by go_num,?_⟩,by simp [intOf];omega⟩;rw [hT];exact ⟨hW,hK,aC⟩
       ·have hi3:i=3:=aC;subst hi3;rw [List.take_of_length_le aC,hfin] at hW hL;have hp16:=hpw wr hW.ext;have hEb:iA mm=(gY mm).1 ++ sO mm:=rfl;have hK3:Keys (gY mm).2:=by
         rw [List.take_of_length_le aC,hfin] at hK;exact hK
        by_cases cz:mm.size=0
        ·have hZ:WrAt w2 wr B M (iA mm) (gY mm).2:=by
          rw [hEb,show sO mm=[] by unfold sO;rw [if_pos cz],List.append_nil];exact hW
         have hLz:(iA mm).length=(gY mm).1.length:=by rw [hEb,show sO mm=[] by unfold sO;rw [if_pos cz],List.append_nil]
         generalize gY mm=Y at *
         (repeat' first | ((with_reducible refine eN ?_);go_step) | ((with_reducible refine cB ?_);first | refine iF ?_ | (refine fA ?_ ?_ <;> intro hc)) | fail)
         all_goals first
          | (exfalso;simp_all;done)
          | skip
         obtain ⟨_,_,_,xz,⟨vz,hBz,hoz⟩,_⟩:=hZ;have hpz:=aA (cs:=CV vz M) hBz;have hslz:=hoz.sl;have hbz:(aJ (iA mm)).length=(iA mm).length:=by simp [aJ]
         have hzl:(iA mm).length≤4000000:=aC;have hEn:aT mm=if 65535 < (iA mm).length then ([],4) else (iA mm,0):=by unfold aT;rw [if_neg (by simpa using cc)]
         generalize iA mm=Z at *;by_cases cl:65535 < Z.length
         ·rw [if_pos cl] at hEn;refine_lift lS fun _ => ?_
          all_goals first
           | (exfalso;omega)
           | skip
          go_ret2;rw [hEn];exact ⟨by kernel_rfl,x02.trans xz⟩
         ·rw [if_neg cl] at hEn;refine_lift lS fun _ => ?_
          all_goals first
           | (exfalso;omega)
           | skip
          go_ret2;rw [hEn];exact ⟨by kernel_rfl,x02.trans xz⟩
        ·have hoE:sO mm=[0] ++ aK 41 ++ aK mm.size.toNat ++ fK 0 ++ aK 0:=by unfold sO;rw [if_neg cz]
         have hsz:0≤mm.size∧mm.size≤65535:=by have:=hok.sz;omega
         generalize gY mm=Y at *
         (repeat' first | ((with_reducible refine eN ?_);go_step) | ((with_reducible refine cB ?_);first | refine iF ?_ | (refine fA ?_ ?_ <;> intro hc)) | fail)
         all_goals first
          | (exfalso;simp_all;done)
          | skip
         refine dJ (IJ hW hK3 [] rfl (by simp [enc]) aC) fun w30 h30 g30 => ?_;refine_lift bK fun _ _ => ?_;refine dJ (jM h30 41 aC (by simp [aS];omega)) fun w31 h31 g31 => ?_;have hp31:=hpw w31 h31.ext;clear hp16;refine_lift bK fun _ _ => ?_;refine dJ (CI h31 mm.size aC aC (by simp [aS,aK];omega)) fun w32 h32 g32 => ?_;refine_lift bK fun _ _ => ?_;refine dJ (ND h32 0 aC (by simp [aS,aK];omega)) fun w33 h33 g33 => ?_;refine_lift aL ?_;refine dJ (jM h33 0 aC (by simp [aS,aK,fK];omega)) fun w34 h34 g34 => ?_;have hZ:WrAt w2 w34 B M (iA mm) (aS [] Y.1 Y.2).2:=by
          rw [hEb,hoE]
          simpa [aS] using h34
         have hLz:(iA mm).length≤Y.1.length + 20:=by
          rw [hEb,hoE];simp [aK,fK]
         refine_lift jH fun _ _ _ _ => ?_;obtain ⟨_,_,_,xz,⟨vz,hBz,hoz⟩,_⟩:=hZ;have hpz:=aA (cs:=CV vz M) hBz;have hslz:=hoz.sl;have hbz:(aJ (iA mm)).length=(iA mm).length:=by simp [aJ]
         have hzl:(iA mm).length≤4000000:=aC;have hEn:aT mm=if 65535 < (iA mm).length then ([],4) else (iA mm,0):=by unfold aT;rw [if_neg (by simpa using cc)]
         generalize iA mm=Z at *;by_cases cl:65535 < Z.length
         ·rw [if_pos cl] at hEn;refine_lift lS fun _ => ?_
          all_goals first
           | (exfalso;omega)
           | skip
          go_ret2;rw [hEn];exact ⟨by kernel_rfl,x02.trans xz⟩
         ·rw [if_neg cl] at hEn;refine_lift lS fun _ => ?_
          all_goals first
           | (exfalso;omega)
           | skip
          go_ret2;rw [hEn];exact ⟨by kernel_rfl,x02.trans xz⟩
 ·refine_lift OU (fun _ _ _ => ?_) (fun _ => ?_)
  all_goals first
   | (exfalso;simp_all;done)
   | skip
  go_ret2;have hE:aT mm=([],bZ mm):=by unfold aT;rw [if_pos cc]
  rw [hE];exact ⟨rfl,x02⟩
def mL (limit:Int) (x:MsgR):Bool:=decide ((aT x).2=0) && decide (((aT x).1.length:Int)≤limit)
def NR (m:MsgR):MsgR:={ m with trunc:=true,an:=[],au:=[],ex:=[] }
def fD (m:MsgR) (n:Nat):MsgR:={ m with ex:=m.ex.take n }
def rE (m:MsgR) (limit:Int):MsgR × List UInt8 × Int:=if mL limit (NR m)=true then (NR m,(aT (NR m)).1,0) else (zeroM,[],4)
def pE (m:MsgR) (limit:Int):Nat→MsgR × List UInt8 × Int
 | 0=>if mL limit (fD m 0)=true then (fD m 0,(aT (fD m 0)).1,0) else rE m limit
 | n + 1=>if mL limit (fD m (n + 1))=true then (fD m (n + 1),(aT (fD m (n + 1))).1,0) else pE m limit n
def vK (m:MsgR) (limit:Int):MsgR × List UInt8 × Int:=if bZ m≠0∨limit < 1∨65535 < limit then (zeroM,[],1) else pE m limit m.ex.length
def TM (w:World) (o:MsgR × List UInt8 × Int):Value→World→Prop:=fun r w'=>∃ q a u e,r=.tuple #[.agg (aX o.1 q a u e).toArray,aE o.2.1, .int .i64 o.2.2]∧MsgV w' o.1 q a u e
theorem KN {limit:Int} {x:MsgR} (h:mL limit x=true):(aT x).2=0∧((aT x).1.length:Int)≤limit:=by simpa [mL] using h
structure FitIn (w:World) (B b1 b2:Nat) (m:MsgR) (limit:Int) (RES:MsgR × List UInt8 × Int) (cut:Bool) (n:Nat) (mm:MsgR) (q a u e:Value) (wr:World):Prop where
 blk1:wr.heap[b1]? = some (.cells (aX mm q a u e).toArray 25 (0,0))
 blk2:wr.heap[b2]? = some (.cells jL.toArray 25 (0,0))
 ext:Ext w wr
 oq:Own B 2 28 wr q (cG mm.qs)
 oa:Own B 4 61 wr a (aF mm.an)
 ou:Own B 4 61 wr u (aF mm.au)
 oe:Own B 4 61 wr e (aF mm.ex)
 len:m.ex.length≤1000
 spec:(cut=false∧n≤m.ex.length∧mm=fD m n∧pE m limit n=RES)∨(cut=true∧mm=NR m∧rE m limit=RES)
theorem FitIn.msg {b1 b2:Nat} {m:MsgR} {limit:Int} {RES:MsgR × List UInt8 × Int} {cut:Bool} {n:Nat} {mm:MsgR} {q a e:Value} {wr:World} (h:FitIn w B b1 b2 m limit RES cut n mm q a u e wr):MsgV wr mm q a u e:=⟨h.oq.sl,h.oa.sl,h.ou.sl,h.oe.sl⟩
theorem FitIn.yes {b1 b2:Nat} {m:MsgR} {limit:Int} {RES:MsgR × List UInt8 × Int} {cut:Bool} {n:Nat} {mm:MsgR} {q a e:Value} {wr:World} (h:FitIn w B b1 b2 m limit RES cut n mm q a u e wr) (hf:mL limit mm=true):RES=(mm,(aT mm).1,0):=by
 rcases h.spec with ⟨-,-,h3,h4⟩ | ⟨-,h3,h4⟩
 ·rw [← h4];cases n with
  | zero=>unfold pE;rw [← h3,if_pos hf]
  | succ n=>unfold pE;rw [← h3,if_pos hf]
 ·rw [← h4];unfold rE;rw [← h3,if_pos hf]
theorem FitIn.end_ {b1 b2:Nat} {m:MsgR} {limit:Int} {RES:MsgR × List UInt8 × Int} {n:Nat} {mm:MsgR} {q a e:Value} {wr:World} (h:FitIn w B b1 b2 m limit RES true n mm q a u e wr) (hf:¬ mL limit mm=true):RES=(zeroM,[],4):=by
 rcases h.spec with ⟨h1,-⟩ | ⟨-,h3,h4⟩
 ·cases h1
 ·rw [← h4];unfold rE;rw [← h3,if_neg hf]
theorem FitIn.on {b1 b2:Nat} {m:MsgR} {limit:Int} {RES:MsgR × List UInt8 × Int} {n:Nat} {mm:MsgR} {q a e:Value} {wr:World} (h:FitIn w B b1 b2 m limit RES false n mm q a u e wr) (hf:¬ mL limit mm=true):mm=fD m n∧n≤m.ex.length∧(n=0→rE m limit=RES)∧(∀ k,n=k + 1→pE m limit k=RES):=by
 rcases h.spec with ⟨h1,h2,h3,h4⟩ | ⟨h1,-⟩
 ·refine ⟨h3,h2,?_,?_⟩
  ·rintro rfl;rw [← h4];show rE m limit=(if mL limit (fD m 0)=true then (fD m 0,(aT (fD m 0)).1,0) else rE m limit);rw [← h3,if_neg hf]
  ·rintro k rfl;rw [← h4];show pE m limit k=(if mL limit (fD m (k + 1))=true then (fD m (k + 1),(aT (fD m (k + 1))).1,0) else pE m limit k);rw [← h3,if_neg hf]
 ·cases h1
def IM (b1:Nat) (a:Act) (w:World):Nat:=match a.tmps.getD 7 undef with
 | .bool true=>0
 | _=>match w.heap[b1]? with
   | some (.cells cs _ _)=>1 + EH (cs[11]?.getD undef)
   | _=>0
theorem AW {b1:Nat} {a:Act} {cs:List Value} {ty:TypeId} {fr:Nat × Nat} (h7:a.tmps.getD 7 undef=.bool false) (h:w.heap[b1]? = some (.cells cs.toArray ty fr)) (hv:cs[11]?.getD undef=v):IM b1 a w=1 + EH v:=by
 unfold IM;rw [h7,h,← hv];simp
theorem ER {b1:Nat} {a:Act} {mm:MsgR} {q a2 e:Value} {ty:TypeId} {fr:Nat × Nat} (h7:a.tmps.getD 7 undef=.bool false) (h:w.heap[b1]? = some (.cells (aX mm q a2 u e).toArray ty fr)):IM b1 a w=1 + EH e:=AW h7 h rfl
theorem Own.cut0 (h:Own B k e w v es) {n:Nat} (hn:n≤es.length):Own B k e w (dL v k 0 n) (es.take n):=by
 rcases h.form with ⟨rfl,rfl⟩ | ⟨g,cap,rfl,_⟩
 ·have:n=0:=by simpa using hn
  subst this
  simpa [dL] using h
 ·have:=h.short hn
  simpa [dL,Addr.add] using this
section
variable {P:Program} {a:Act} {w:World} {d:Option Nat} {ty:TypeId} {ps:String} {af:Array Edge} {g:Option (Nat × Bool)}
theorem gC {P:Program} {fn:Func} {ts:List Value} {p q r:Tmp} {t:TypeId} (h:fn.results=#[.cell p t, .tmp q, .tmp r]) {cs:List Value} {ty0:TypeId} {fr:Nat × Nat} (hp:ts.getD p undef=.pointer (some ⟨b,0,none⟩)) (hb:w.heap[b]? = some (.cells cs.toArray ty0 fr)) (ht:dM P t cs.length=true) :
 (results fn ts.toArray).run P w=.ok (.tuple #[.agg cs.toArray,ts.getD q undef,ts.getD r undef]) w:=by
 obtain ⟨u,ie,hu,hn,hie,hz⟩:=iO ht;have hl:=run_loadCells_list (P:=P) w ⟨b,0,none⟩ cs (fun j v hv=>by rw [dB,Nat.zero_add,cell_of_row w b j _ _ _ hb];simpa using hv);have hp':ts[p]?.getD undef=.pointer (some ⟨b,0,none⟩):=by simpa using hp
 simp [results,h,hp',asAddr,loadVar,Sem.run_bind,iP hu hn,sizeOf,typeInfo,hie,hz,hl,Result.andThen]
end
theorem VI (m:MsgR) (q a u e:Value) (limit:Int) (w:World) (hm:MsgV w m q a u e):Calls Tryz.prog 94 #[.agg (aX m q a u e).toArray, .int .i64 limit] w (pX w (TM w (vK m limit))):=by
 have hF:bZ m=0∧1≤limit∧limit≤65535→pE m limit m.ex.length=vK m limit:=fun cc=>by unfold vK;rw [if_neg aC]
 have hF2:¬ (bZ m=0∧1≤limit∧limit≤65535)→vK m limit=(zeroM,[],1):=fun cc=>by unfold vK;rw [if_pos aC]
 generalize vK m limit=RES at *;go_enter Tryz.func94,Tryz.ntmps94
 refine_lift lQ fun _ _ => ?_;refine jS (vs:=aX m q a u e) fun w1 x1 s1 hb1 => ?_;refine aB ?_;refine eX (z:=jL) fun w2 x2 s2 hz2 => ?_;refine aB ?_;have x02:=x1.trans x2;have hb2:=x2.at hb1;have hpM:=aA (cs:=aX m q a u e) hb2;unfold aX at hpM;have hm2:=hm.ext x02;have hbb:w.heap.size≠w1.heap.size:=aC;have hw1:w.heap.size≤w1.heap.size:=aC;have hB1:w.heap.size < w2.heap.size:=aC;have hB2:w1.heap.size < w2.heap.size:=aC;have hBw:∀ k,w2.heap.size≤k→w.heap.size≤k:=fun k h=>by omega
 refine_lift aL ?_;generalize hb1e:w.heap.size=b1 at *;generalize hb2e:w1.heap.size=b2 at *;generalize hBe:w2.heap.size=B at *;refine yX 0 (fun a' wr=>∃ (cut:Bool) (n:Nat) (mm:MsgR) (q' a2 u2 e2 u8 u9 u10 u11 u12 u13 u14 u15 u16 u17 u18 u19 u20 u21 u22 u23 u24 u25 u26 u27 u28 u29 u30 u31 u32 u33 u34 u35 u36 u37 u38 u39 u40 u41 u42 u43 u44 u45 u46 u47 u48 u49 u50 u51 u52 u53 u54 u55 u56 u57 u58 u59 u60 u61 u62 u63 u64 u65 u66 u67 u68 u69 u70 u71 u72 u73:Value),a'=Act.mk [.agg (aX m q a u e).toArray, .int .i64 limit, .pointer (some ⟨b1,0,none⟩),undef, .pointer (some ⟨b2,0,none⟩),aE [], .int .i64 0, .bool cut,u8,u9,u10,u11,u12,u13,u14,u15,u16,u17,u18,u19,u20,u21,u22,u23,u24,u25,u26,u27,u28,u29,u30,u31,u32,u33,u34,u35,u36,u37,u38,u39,u40,u41,u42,u43,u44,u45,u46,u47,u48,u49,u50,u51,u52,u53,u54,u55,u56,u57,u58,u59,u60,u61,u62,u63,u64,u65,u66,u67,u68,u69,u70,u71,u72,u73].toArray []∧FitIn w B b1 b2 m limit RES cut n mm q' a2 u2 e2 wr) (IM b1) rfl ?_ ?_
 ·rintro a' wr ⟨cut,n,mm,q',a2,u2,e2,u8,u9,u10,u11,u12,u13,u14,u15,u16,u17,u18,u19,u20,u21,u22,u23,u24,u25,u26,u27,u28,u29,u30,u31,u32,u33,u34,u35,u36,u37,u38,u39,u40,u41,u42,u43,u44,u45,u46,u47,u48,u49,u50,u51,u52,u53,u54,u55,u56,u57,u58,u59,u60,u61,u62,u63,u64,u65,u66,u67,u68,u69,u70,u71,u72,u73,rfl,hI⟩;have hmr:=hI.msg;have hp1:=aA (cs:=aX mm q' a2 u2 e2) hI.blk1;unfold aX at hp1;refine_lift mS ?_;intro _ _ _;refine bX (kN hmr) fun w5 x5 => ?_;have hyes:=hI.yes;have hfe:=KN (limit:=limit) (x:=mm);have hfd:mL limit mm=(decide ((aT mm).2=0) && decide (((aT mm).1.length:Int)≤limit)):=rfl;have hz5:=x5.at hI.blk2;have hb5:=x5.at hI.blk1;have x05:=hI.ext.trans x5;have oq5:=hI.oq.ext x5;have oa5:=hI.oa.ext x5;have ou5:=hI.ou.ext x5;have oe5:=hI.oe.ext x5;generalize aT mm=E at *;obtain ⟨eb,ee⟩:=E;dsimp only at *;have hp1:=hp1.ext x5;by_cases hfit:mL limit mm=true
  ·obtain ⟨f1,f2⟩:=hfe hfit;subst f1;have hR:=hyes hfit;refine_lift FV fun _ _ _ _ _ => ?_
   all_goals first
    | (have hh:False:=aC
       exact hh.elim)
    | skip
   have hm5:=hmr.ext x5;refine fG (v:=.agg (aX mm q' a2 u2 e2).toArray) hz5 (gP hm5) fun w6 p6 => ?_;have x6:=eC x05 p6;refine_lift aL ?_
   (try simp only [Exit.inBlock,Exit.then,Exit.jump])
   refine bodyPost_ret (gC (cs:=aX mm q' a2 u2 e2) rfl rfl p6.this (zDk:dM Tryz.prog 25 13=true)) rfl ⟨_,rfl,x6,?_⟩;rw [hR];exact ⟨q',a2,u2,e2,rfl,(iM oq5 p6 hz5).sl,(iM oa5 p6 hz5).sl,(iM ou5 p6 hz5).sl,(iM oe5 p6 hz5).sl⟩
  ·cases cut with
   | true =>
    have hE:=hI.end_ hfit;have hnf:¬ (ee=0∧(eb.length:Int)≤limit):=by rintro ⟨h1,h2⟩;exact hfit (by rw [hfd];simp [h1,h2])
    refine_lift WO (fun _ _ hc _ _ => ?_) (fun _ _ hc _ _ _ => ?_)
    all_goals first
     | (have hh:False:=aC
        exact hh.elim)
     | skip
    all_goals refine aG (v:=.agg jL.toArray) (Runs.build0 (by kernel_rfl)) ?_
    all_goals refine aB ?_
    all_goals refine fG (v:=.agg jL.toArray) hz5 zDk ?_
    all_goals intro w6 p6
    all_goals have x6:=eC x05 p6
    all_goals refine_lift aL ?_
    all_goals (try simp only [Exit.inBlock,Exit.then,Exit.jump])
    all_goals refine bodyPost_ret (gC (cs:=jL) rfl rfl p6.this zDk) rfl ⟨_,rfl,x6,?_⟩
    all_goals rw [hE]
    all_goals exact ⟨_,_,_,_,rfl,MsgV.zero _⟩
   | false =>
    obtain ⟨hmm,hnl,hn0,hn1⟩:=hI.on hfit;have hnf:¬ (ee=0∧(eb.length:Int)≤limit):=by rintro ⟨h1,h2⟩;exact hfit (by rw [hfd];simp [h1,h2])
    have hrl:=aN mm.ex;have hel:mm.ex.length=n:=by rw [hmm];show (m.ex.take n).length=n;rw [List.length_take];omega
    have hse:=oe5.sl;by_cases hn:n=0
    ·have hEn:=hn0 hn
     (repeat' first | ((with_reducible refine eN ?_);go_step) | ((with_reducible refine cB ?_);first | refine iF ?_ | (refine fA ?_ ?_ <;> intro hc)) | fail)
     all_goals first
      | (have hh:False:=aC
         exact hh.elim)
      | skip
     all_goals (
      refine fZ 4 (.bool true) hb5 rfl fun w6 p6 => ?_;have hb6:w6.heap[b1]? = some (.cells [.int .i64 mm.id, .bool mm.resp, .int .i64 mm.op, .bool mm.auth, .bool true, .bool mm.want, .bool mm.avail, .int .i64 mm.rcode,q',a2,u2,e2, .int .i64 mm.size].toArray 25 (0,0)):=p6.this;refine_lift aL ?_;refine fZ 9 cI hb6 rfl fun w7 p7 => ?_;have hb7:w7.heap[b1]? = some (.cells [.int .i64 mm.id, .bool mm.resp, .int .i64 mm.op, .bool mm.auth, .bool true, .bool mm.want, .bool mm.avail, .int .i64 mm.rcode,q',cI,u2,e2, .int .i64 mm.size].toArray 25 (0,0)):=p7.this;refine_lift aL ?_;refine fZ 10 cI hb7 rfl fun w8 p8 => ?_;have hb8:w8.heap[b1]? = some (.cells [.int .i64 mm.id, .bool mm.resp, .int .i64 mm.op, .bool mm.auth, .bool true, .bool mm.want, .bool mm.avail, .int .i64 mm.rcode,q',cI,cI,e2, .int .i64 mm.size].toArray 25 (0,0)):=p8.this;refine_lift aL ?_;refine fZ 11 cI hb8 rfl fun w9 p9 => ?_;have hb9:w9.heap[b1]? = some (.cells [.int .i64 mm.id, .bool mm.resp, .int .i64 mm.op, .bool mm.auth, .bool true, .bool mm.want, .bool mm.avail, .int .i64 mm.rcode,q',cI,cI,cI, .int .i64 mm.size].toArray 25 (0,0)):=p9.this;have m69:Mv (some b1) w5 w9:=((p6.mv.trans p7.mv).trans p8.mv).trans p9.mv;have oq9:=oq5.mv m69 (.inr (oq5.neBlock hb5 aH));have hz9:=m69.at hz5 (by intro e9;exact hbb (Option.some.inj e9).symm);have x9:Ext w w9:=x05.move m69 (by rintro k ⟨⟩;omega);refine_lift aL ?_
      go_step3
      (try simp only [Exit.inBlock,Exit.then,Exit.jump])
      refine ⟨rfl,⟨true,0,NR m,q',cI,cI,cI,_,_,_,_,_,_,_,_,_,_,_,_,_,_,_,_,_,_,_,_,_,_,_,_,_,_,_,_,_,_,_,_,_,_,_,_,_,_,_,_,_,_,_,_,_,_,_,_,_,_,_,_,_,_,_,_,_,_,_,_,_,_,_,_,_,_,rfl,⟨?_,hz9,x9,?_,Own.nil _ _ _ _,Own.nil _ _ _ _,Own.nil _ _ _ _,hI.len, .inr ⟨rfl,rfl,hEn⟩⟩⟩,?_⟩
      ·rw [hb9,hmm];rfl
      ·rw [hmm] at oq9;exact oq9
      ·rw [ER rfl hI.blk1];show 0 < _;omega)
    ·obtain ⟨k,rfl⟩:∃ k,n=k + 1:=⟨n - 1,aC⟩;have hEn:=hn1 k rfl;have hlen:=hI.len
     (repeat' first | ((with_reducible refine eN ?_);go_step) | ((with_reducible refine cB ?_);first | refine iF ?_ | (refine fA ?_ ?_ <;> intro hc)) | fail)
     all_goals first
      | (have hh:False:=aC
         exact hh.elim)
      | skip
     all_goals (
      rw [show (((aF mm.ex).length:Int) - 1).toNat=k by omega];have oc5:=oe5.cut0 (n:=k) aC;refine fZ 11 (dL e2 4 0 k) hb5 oc5.one fun w6 p6 => ?_;have hb6:w6.heap[b1]? = some (.cells [.int .i64 mm.id, .bool mm.resp, .int .i64 mm.op, .bool mm.auth, .bool mm.trunc, .bool mm.want, .bool mm.avail, .int .i64 mm.rcode,q',a2,u2,dL e2 4 0 k, .int .i64 mm.size].toArray 25 (0,0)):=p6.this;have m69:=p6.mv;have oq9:=oq5.mv m69 (.inr (oq5.neBlock hb5 aH));have oa9:=oa5.mv m69 (.inr (oa5.neBlock hb5 aH));have ou9:=ou5.mv m69 (.inr (ou5.neBlock hb5 aH));have oe9:=oc5.mv m69 (.inr (oc5.neBlock hb5 aH));have hz9:=m69.at hz5 (by intro e9;exact hbb (Option.some.inj e9).symm);have x9:Ext w w6:=x05.move m69 (by rintro k ⟨⟩;omega);have hex:(aF mm.ex).take k=aF (fD m k).ex:=by
       rw [hmm];simp only [fD,aF,← List.map_take,List.take_take];rw [show min k (k + 1)=k by omega]
      rw [hex] at oe9;refine_lift aL ?_
      go_step3
      (try simp only [Exit.inBlock,Exit.then,Exit.jump])
      refine ⟨rfl,⟨false,k,fD m k,q',a2,u2,dL e2 4 0 k,_,_,_,_,_,_,_,_,_,_,_,_,_,_,_,_,_,_,_,_,_,_,_,_,_,_,_,_,_,_,_,_,_,_,_,_,_,_,_,_,_,_,_,_,_,_,_,_,_,_,_,_,_,_,_,_,_,_,_,_,_,_,_,_,_,_,rfl,⟨?_,hz9,x9,?_,?_,?_,oe9,hI.len, .inl ⟨rfl,aC,rfl,hEn⟩⟩⟩,?_⟩
      ·rw [hb6,hmm];rfl
      ·rw [hmm] at oq9;exact oq9
      ·rw [hmm] at oa9;exact oa9
      ·rw [hmm] at ou9;exact ou9
      ·rw [ER rfl hI.blk1,AW rfl hb6 rfl];show 1 + EH (dL e2 4 0 k) < _;rw [hse.slLen,oe9.sl.slLen,aN,aN];have:(fD m k).ex.length=k:=by show (m.ex.take k).length=k;rw [List.length_take];omega
       omega)
 ·intro hp;refine_lift FV ?_;intro _ _ _ _ _;refine bX (EI m q a u e _ hm2) fun w3 x3 => ?_;have x03:=x02.trans x3;have hz3:=x3.at hz2;have hb3:=x3.at hb2;have hpM:=hpM.ext x3;have hm3:=hm2.ext x3;by_cases cc:bZ m=0∧1≤limit∧limit≤65535
  ·have hok:=iY cc.1;have hRE:=hF cc;obtain ⟨c1,c2,c3⟩:=cc;have hql:=hok.ql;have hnl:=hok.nl;have hul:=hok.ul;have hel:=hok.el
   (repeat' first | ((with_reducible refine eN ?_);go_step) | ((with_reducible refine cB ?_);first | refine iF ?_ | (refine fA ?_ ?_ <;> intro hc)) | fail)
   all_goals first
    | (have hh:False:=aC
       exact hh.elim)
    | (have hh:False:=by
        have h9:=‹(!decide (bZ m=0))=true›;rw [decide_eq_true c1] at h9;cases h9
       exact hh.elim)
    | skip
   refine aV 5 (Ext w3) zDk ?_;intro w21 x21 _;refine ⟨x21,?_⟩;refine bH 0 ?_;refine bH 1 ?_;refine bH 3 ?_;refine bH 4 ?_;refine eF 2 ?_;refine uD (NI q m.qs _ (hm3.qs.ext x21) aC) fun qv w22 x22 oqv => ?_;refine aD ⟨aZ (x21.trans x22),?_⟩;refine eH 6 ?_;refine eF 5 ?_;refine uD (oW a m.an _ (hm3.an.ext (x21.trans x22)) aC) fun av w23 x23 oav => ?_;have y21:=(x21.trans x22).trans x23;have hB21:=y21.at hb3;refine aD ⟨aQ rfl,?_⟩;refine eF 7 ?_;refine fZ 8 qv hB21 oqv.one fun w24 p24 => ?_;have hB24:w24.heap[b1]? = some (.cells [.int .i64 m.id, .bool m.resp, .int .i64 m.op, .bool m.auth, .bool m.trunc, .bool m.want, .bool m.avail, .int .i64 m.rcode,qv,a,u,e, .int .i64 m.size].toArray 25 (0,0)):=p24.this;refine aD ⟨aQ rfl,?_⟩;refine eH 8 ?_;refine eF 9 ?_;refine fZ 9 av hB24 oav.one fun w25 p25 => ?_;have hB25:w25.heap[b1]? = some (.cells [.int .i64 m.id, .bool m.resp, .int .i64 m.op, .bool m.auth, .bool m.trunc, .bool m.want, .bool m.avail, .int .i64 m.rcode,qv,av,u,e, .int .i64 m.size].toArray 25 (0,0)):=p25.this;refine aD ⟨aQ rfl,?_⟩;refine nX ?_;have mv21:=p24.mv.trans p25.mv;have x025:Ext w w25:=(x03.trans y21).move mv21 (by rintro k ⟨⟩;omega);have oq25:=(oqv.ext x23).mv mv21 (.inr ((oqv.ext x23).neBlock hB21 aH));have oa25:=oav.mv mv21 (.inr (oav.neBlock hB21 aH));have hp25:=aA (cs:=[.int .i64 m.id, .bool m.resp, .int .i64 m.op, .bool m.auth, .bool m.trunc, .bool m.want, .bool m.avail, .int .i64 m.rcode,qv,av,u,e, .int .i64 m.size]) hB25;have hz25:=mv21.at (y21.at hz3) (by intro e9;exact hbb (Option.some.inj e9).symm);have hmu:=hm.au.ext x025;have hme:=hm.ex.ext x025;clear hpM;refine_lift bK fun _ _ => ?_;refine aV 5 (Ext w25) zDk ?_;intro w31 x31 _;refine ⟨x31,?_⟩;refine bH 0 ?_;refine bH 1 ?_;refine bH 3 ?_;refine bH 4 ?_;refine eF 2 ?_;refine uD (oW u m.au _ (hmu.ext x31) aC) fun uv w32 x32 ouv => ?_;refine aD ⟨aZ (x31.trans x32),?_⟩;refine eH 6 ?_;refine eF 5 ?_;refine uD (oW e m.ex _ (hme.ext (x31.trans x32)) aC) fun ev w33 x33 oev => ?_;have y31:=(x31.trans x32).trans x33;have hB31:=y31.at hB25;refine aD ⟨aQ rfl,?_⟩;refine eF 7 ?_;refine fZ 10 uv hB31 ouv.one fun w34 p34 => ?_;have hB34:w34.heap[b1]? = some (.cells [.int .i64 m.id, .bool m.resp, .int .i64 m.op, .bool m.auth, .bool m.trunc, .bool m.want, .bool m.avail, .int .i64 m.rcode,qv,av,uv,e, .int .i64 m.size].toArray 25 (0,0)):=p34.this;refine aD ⟨aQ rfl,?_⟩;refine eH 8 ?_;refine eF 9 ?_;refine fZ 11 ev hB34 oev.one fun w35 p35 => ?_;have hB35:w35.heap[b1]? = some (.cells [.int .i64 m.id, .bool m.resp, .int .i64 m.op, .bool m.auth, .bool m.trunc, .bool m.want, .bool m.avail, .int .i64 m.rcode,qv,av,uv,ev, .int .i64 m.size].toArray 25 (0,0)):=p35.this;refine aD ⟨aQ rfl,?_⟩;refine nX ?_;have mv31:=p34.mv.trans p35.mv;have x035:Ext w w35:=(x025.trans y31).move mv31 (by rintro k ⟨⟩;omega);have oq35:=(oq25.ext y31).mv mv31 (.inr ((oq25.ext y31).neBlock hB31 aH));have oa35:=(oa25.ext y31).mv mv31 (.inr ((oa25.ext y31).neBlock hB31 aH));have ou35:=(ouv.ext x33).mv mv31 (.inr ((ouv.ext x33).neBlock hB31 aH));have oe35:=oev.mv mv31 (.inr (oev.neBlock hB31 aH));have hz35:=mv31.at (y31.at hz25) (by intro e9;exact hbb (Option.some.inj e9).symm);have hk3:B≤w3.heap.size:=by have:=x3.size;omega
   have hk21:B≤w21.heap.size:=by have:=x21.size;omega
   have hk22:B≤w22.heap.size:=by have:=x22.size;omega
   have hk25:B≤w25.heap.size:=by have:=x23.size;have:=mv21.size;omega
   have hk31:B≤w31.heap.size:=by have:=x31.size;omega
   have hk32:B≤w32.heap.size:=by have:=x32.size;omega
   have hwm:fD m m.ex.length=m:=by unfold fD;rw [List.take_length]
   refine_lift bK fun _ _ => ?_
   go_step3
   (first | ((with_reducible refine eN ?_);go_step) | fail)
   (first | ((with_reducible refine eN ?_);go_step) | fail)
   refine hp _ _ ?_;refine ⟨false,m.ex.length,m,qv,av,uv,ev,_,_,_,_,_,_,_,_,_,_,_,_,_,_,_,_,_,_,_,_,_,_,_,_,_,_,_,_,_,_,_,_,_,_,_,_,_,_,_,_,_,_,_,_,_,_,_,_,_,_,_,_,_,_,_,_,_,_,_,_,_,_,_,_,_,_,rfl,hB35,hz35,x035,oq35.weaken hk21,oa35.weaken hk22,ou35.weaken hk31,oe35.weaken hk32,aC, .inl ⟨rfl,Nat.le_refl _,hwm.symm,hRE⟩⟩
  ·have hRE:=hF2 cc
   (repeat' first | ((with_reducible refine eN ?_);go_step) | ((with_reducible refine cB ?_);first | refine iF ?_ | (refine fA ?_ ?_ <;> intro hc)) | fail)
   all_goals first
    | (have hh:False:=aC
       exact hh.elim)
    | (have hh:False:=by
        have h9:=‹(!decide (bZ m=0))=false›;simp only [Bool.not_eq_false',decide_eq_true_eq] at h9;omega
       exact hh.elim)
    | skip
   all_goals (
    refine aG (v:=.agg jL.toArray) (Runs.build0 (by kernel_rfl)) ?_;refine aB ?_;refine fG (v:=.agg jL.toArray) hz3 zDk fun w6 p6 => ?_;have x6:=eC x03 p6;refine_lift aL ?_
    (try simp only [Exit.inBlock,Exit.then,Exit.jump])
    refine bodyPost_ret (gC (cs:=jL) rfl rfl p6.this zDk) rfl ⟨_,rfl,x6,?_⟩;rw [hRE];exact ⟨_,_,_,_,rfl,MsgV.zero _⟩)
theorem AX (n a b:Int) (w:World):Calls Tryz.prog 46 #[.int .i64 n, .int .i64 a, .int .i64 b] w (bG w (.bool (decide (a≤n) && decide (n≤b)))):=by
 go_enter Tryz.func46,Tryz.ntmps46
 refine_lift iU (fun hc => ?_) (fun hc => ?_)
 all_goals
  go_ret;refine ⟨?_,Ext.refl _⟩;simp;omega
structure EntR where
 s:RSet
 rank:Int
 till:Int
 used:Int
structure CacheR where
 room:Int
 most:Int
 calls:Int
 l:List EntR
def mM (n:List UInt8) (k:Int) (e:EntR):Bool:=decide (e.s.name=n) && decide (e.s.kind=k)
structure EntM where
 e:EntR
 b:Nat
 v:Value
def nS (n:List UInt8) (k:Int):Value:=.agg #[aE n, .int .i64 k]
def EntM.key (g:EntM):Value × Value:=(nS g.e.s.name g.e.s.kind, .pointer (some ⟨g.b,0,none⟩))
def ES (e:EntR) (v:Value):List Value:=[aE e.s.name, .int .i64 e.s.kind, .int .i64 e.s.ttl,v, .int .i64 e.rank, .int .i64 e.till, .int .i64 e.used]
theorem VJ:Tryz.prog.keyTypeAt 2 186=true:=by kernel_rfl
theorem TN:Tryz.prog.tiled 2 186=true:=by kernel_rfl
theorem HA (n:List UInt8) (k:Int) (hn:n.length≤1000000) (hk:-9223372036854775808≤k∧k≤9223372036854775807):∃ l,keyOf Tryz.prog 186 (nS n k)=some l:=by
 unfold keyOf nS;rw [Tryz.underlying186];have kt2:Tryz.prog.keyType 186=true:=by kernel_rfl
 simp only [kt2];rw [show Tryz.prog.types.size=336 from by kernel_rfl];have c48:Tryz.prog.cellsOf 186=2:=by kernel_rfl
 have c30:Tryz.prog.cellsOf 26=1:=by kernel_rfl
 have c3:Tryz.prog.cellsOf 3=1:=by kernel_rfl
 have f:Value.formed Tryz.prog 186 (Value.agg #[aE n,Value.int IntKind.i64 k])=true:=by simp [Value.formed,Tryz.underlying186,c48]
 have hs:(ByteArray.mk n.toArray).size≤maxLen:=by rw [eU];unfold maxLen;omega
 have hw:(Lit.int .i64 k).wf=true:=by simp [Lit.wf,IntKind.min,IntKind.max,IntKind.bits,IntKind.signed];omega
 have l30:Tryz.prog.keyLits 336 26 [aE n]=some [.string n]:=by simp [Program.keyLits,Tryz.underlying26,aE,-ByteArray.size_data,hs]
 have l3:Tryz.prog.keyLits 336 3 [Value.int .i64 k]=some [.int .i64 k]:=by simp [Program.keyLits,Tryz.underlying3,hw]
 rw [f];simp only [Bool.and_self,if_true];unfold Program.keyLits;simp [Tryz.underlying186,c48,c30,c3,Value.cells,l30,l3]
def NS (v:Value):Prop:=∃ l,keyOf Tryz.prog 186 v=some l
theorem tS:KL Tryz.prog 186 NS:=KL.wide (deep_law (m:=2) aC VJ TN (by kernel_rfl))
theorem mN {n':List UInt8} {k k':Int}:nS n k=nS n' k'↔n=n'∧k=k':=by
 unfold nS aE;constructor
 ·intro h;simp only [Value.agg.injEq,Array.mk.injEq,List.cons.injEq,Value.string.injEq,ByteArray.mk.injEq,Value.int.injEq] at h;exact ⟨by simpa using h.1,h.2.1.2⟩
 ·rintro ⟨rfl,rfl⟩;rfl
structure EntM.At (B:Nat) (w:World) (g:EntM):Prop where
 ge:B≤g.b
 blk:w.heap[g.b]? = some (.cells (ES g.e g.v).toArray 190 (0,0))
 row:Own B 1 9 w g.v (aI g.e.s.data)
 len:g.e.s.data.length≤1000000
 ok:NS (nS g.e.s.name g.e.s.kind)
structure CacheV (B:Nat) (w:World) (cb em:Nat) (C:CacheR) (gs:List EntM):Prop where
 ge:B≤cb∧B≤em
 eq:C.l=gs.map (·.e)
 blk:w.heap[cb]? = some (.cells #[.int .i64 C.room, .int .i64 C.most, .map (some em), .int .i64 C.calls] 115 (0,0))
 map:MapS NS w em (gs.map EntM.key)
 ents:∀ g ∈ gs,g.At B w
 apart:(gs.map (·.b)).Nodup
 keys:(gs.map fun g=>(g.e.s.name,g.e.s.kind)).Nodup
def CacheAt (B:Nat) (w:World) (cb em:Nat) (C:CacheR):Prop:=∃ gs,CacheV B w cb em C gs
abbrev cT:List TypeId:=[115,190]
theorem EntM.At.keep {g:EntM} {T:List TypeId} {M:List Nat} (h:g.At B w) (hk:Kf T M w w') (h1:190 ∉ T) (h2:9 ∉ T):g.At B w' :=
 ⟨h.ge,hk.cells _ _ _ _ h.blk h1,h.row.keep hk.keep h2,h.len,h.ok⟩
theorem CacheAt.keep {cb em:Nat} {C:CacheR} {T:List TypeId} {M:List Nat} (h:CacheAt B w cb em C) (hk:Kf T M w w') (h0:em ∉ M) (h1:115 ∉ T) (h2:190 ∉ T) (h3:9 ∉ T):CacheAt B w' cb em C:=by
 obtain ⟨gs,a⟩:=h;exact ⟨gs,a.ge,a.eq,hk.cells _ _ _ _ a.blk h1,a.map.keep hk h0,fun g hg=>(a.ents g hg).keep hk h2 h3,a.apart,a.keys⟩
theorem TO (room most:Int) (w:World) (h1:1≤room) (h2:room≤200) (h3:1≤most) (h4:most≤2147483647):Calls Tryz.prog 25 #[.int .i64 room, .int .i64 most] w (pX w fun r w'=>∃ cb em,r=.tuple #[.pointer (some ⟨cb,0,none⟩), .int .i64 0]∧cb≠em∧CacheAt w.heap.size w' cb em ⟨room,most,0,[]⟩):=by
 have e1:(decide (1≤room) && decide (room≤200))=true:=by simp;omega
 have e2:(decide (1≤most) && decide (most≤2147483647))=true:=by simp;omega
 go_enter Tryz.func25,Tryz.ntmps25
 refine_lift FV ?_;intro _ _ _ _ _;refine bX (AX room 1 200 _) fun w1 x1 => ?_;rw [e1];refine_lift aL ?_;refine bX (AX most 1 2147483647 _) fun w2 x2 => ?_;rw [e2];refine_lift bK fun _ _ => ?_;refine nO (ok:=NS) rfl ?_;intro w3 x3 s3 m3;refine aB ?_;refine aG (v:=.agg #[.int .i64 room, .int .i64 most, .map (some w2.heap.size), .int .i64 0]) (Runs.build (vals:=[(0, .int .i64 room),(1, .int .i64 most),(2, .map (some w2.heap.size))]) rfl (by kernel_rfl)) ?_;refine aB ?_;refine jS (vs:=[.int .i64 room, .int .i64 most, .map (some w2.heap.size), .int .i64 0]) fun w4 x4 s4 b4 => ?_;refine aB ?_;refine_lift aL ?_;go_ret2;have hx:=x1.trans (x2.trans (x3.trans x4));refine ⟨_,rfl,hx,w3.heap.size,w2.heap.size,rfl,aC,[],⟨by have:=x1.size;have:=x2.size;omega,by have:=x1.size;have:=x2.size;omega⟩,rfl,b4,m3.ext x4,bE, .nil, .nil⟩
def CacheR.hit (C:CacheR) (n:List UInt8) (k now:Int):Option (Nat × EntR):=match C.l.findIdx? (mM n k) with
 | none=>none
 | some i=>match C.l[i]? with
   | none=>none
   | some e=>if e.till≤now then none else some (i,e)
def CacheR.use (C:CacheR) (i:Nat) (e:EntR):CacheR:={ C with calls:=C.calls + 1,l:=C.l.set i { e with used:=C.calls + 1 } }
theorem CacheV.uniq {cb em:Nat} {C:CacheR} {gs:List EntM} (h:CacheV B w cb em C gs):(gs.map EntM.key).Pairwise (fun a b=>a.1≠b.1):=by
 rw [List.pairwise_map];refine (List.pairwise_map.1 h.keys).imp fun hne hh=>hne ?_;simp only [EntM.key,mN] at hh;rw [hh.1,hh.2]
theorem CacheV.look {cb em:Nat} {C:CacheR} {gs:List EntM} (h:CacheV B w cb em C gs) {k:Int} (hi:C.l.findIdx? (mM n k)=some i):∃ g,gs[i]? = some g∧(gs.map EntM.key)[i]? = some (nS n k, .pointer (some ⟨g.b,0,none⟩))∧g.At B w∧C.l[i]? = some g.e:=by
 rw [List.findIdx?_eq_some_iff_getElem] at hi;obtain ⟨h1,h2,-⟩:=hi;have hl:i < gs.length:=by rw [h.eq] at h1;simpa using h1
 have he:C.l[i]=gs[i].e:=by simp [h.eq]
 rw [he] at h2;simp only [mM,Bool.and_eq_true,decide_eq_true_eq] at h2;refine ⟨gs[i],List.getElem?_eq_getElem hl,?_,h.ents _ (List.getElem_mem hl),?_⟩
 ·rw [List.getElem?_map,List.getElem?_eq_getElem hl];simp [EntM.key,h2]
 ·rw [List.getElem?_eq_getElem h1,he]
theorem CacheV.miss {cb em:Nat} {C:CacheR} {gs:List EntM} (h:CacheV B w cb em C gs) {k:Int} (hn:C.l.findIdx? (mM n k)=none):∀ e ∈ gs.map EntM.key,e.1≠nS n k:=by
 intro e he;obtain ⟨g,hg,rfl⟩:=List.mem_map.1 he;rw [List.findIdx?_eq_none_iff] at hn;have:=hn g.e (by rw [h.eq];exact List.mem_map.2 ⟨g,hg,rfl⟩);simp only [EntM.key,ne_eq,mN];simp only [mM,Bool.and_eq_false_iff,decide_eq_false_iff_not] at this;rintro ⟨h1,h2⟩;rcases this with h | h
 ·exact h h1
 ·exact h h2
theorem nU {α β:Type} {f:α→β} {l:List α} {a b:α} (hi:l[i]? = some a) (h:f b=f a):(l.set i b).map f=l.map f:=by
 apply List.ext_getElem?;intro j;rw [List.getElem?_map,List.getElem?_map,List.getElem?_set];split
 ·rename_i e;subst e;rw [hi];split
  ·simp [h]
  ·rename_i hn;exact absurd (List.getElem?_eq_some_iff.1 hi).1 hn
 ·rfl
theorem EntM.At.same {g:EntM} (h:g.At B w) (h1:w'.heap[g.b]? = w.heap[g.b]?) (h2:∀ r,g.v.ownBlock=some r→w'.heap[r]? = w.heap[r]?):g.At B w' :=
 ⟨h.ge,h1.trans h.blk,h.row.same h2,h.len,h.ok⟩
theorem CacheV.used {cb em:Nat} {C:CacheR} {gs:List EntM} {g:EntM} (h:CacheV B w cb em C gs) (hg:gs[i]? = some g)
 (h1:w'.heap[cb]? = some (.cells #[.int .i64 C.room, .int .i64 C.most, .map (some em), .int .i64 (C.calls + 1)] 115 (0,0)))
 (h2:w'.heap[g.b]? = some (.cells (ES { g.e with used:=C.calls + 1 } g.v).toArray 190 (0,0)))
 (h3:∀ c,c < w.heap.size→c≠cb→c≠g.b→w'.heap[c]? = w.heap[c]?):CacheV B w' cb em (C.use i g.e) (gs.set i { g with e:={ g.e with used:=C.calls + 1 } }):=by
 have hgA:=h.ents g (List.mem_of_getElem? hg);have hrow:∀ x ∈ gs,∀ r,x.v.ownBlock=some r→w'.heap[r]? = w.heap[r]? := fun x hx r hr=>by
  have hxA:=h.ents x hx;refine h3 r (hxA.row.block r hr).2 ?_ ?_
  ·rintro rfl;exact hxA.row.neBlock h.blk aH hr
  ·rintro rfl;exact hxA.row.neBlock hgA.blk aH hr
 refine ⟨h.ge,?_,h1,?_,?_,?_,?_⟩
 ·rw [List.map_set,← h.eq];rfl
 ·rw [nU hg (show EntM.key { g with e:={ g.e with used:=C.calls + 1 } }=EntM.key g from rfl)];exact h.map.at fun es c x=>by rw [h3 em h.map.lt (h.map.neCells h.blk) (h.map.neCells hgA.blk)];exact x
 ·intro x hx;obtain ⟨j,hj,rfl⟩:=List.mem_iff_getElem.1 hx;rw [List.getElem_set];have hjl:j < gs.length:=by simpa using hj
  split
  ·exact ⟨hgA.ge,h2,hgA.row.same (hrow g (List.mem_of_getElem? hg)),hgA.len,hgA.ok⟩
  ·rename_i hne;have hxA:=h.ents gs[j] (List.getElem_mem hjl);refine hxA.same (h3 _ (Array.getElem?_eq_some_iff.1 hxA.blk).1 (kE hxA.blk h.blk aH) ?_) (hrow _ (List.getElem_mem hjl));intro e;obtain ⟨hil,hig⟩:=List.getElem?_eq_some_iff.1 hg;exact hne ((List.getElem_inj (h₀:=by simpa using hil) (h₁:=by simpa using hjl) h.apart).1 (by simp [hig,e]))
 ·rw [nU hg (show (fun x:EntM=>x.b) { g with e:={ g.e with used:=C.calls + 1 } }=(fun x:EntM=>x.b) g from rfl)];exact h.apart
 ·rw [nU hg (show (fun x:EntM=>(x.e.s.name,x.e.s.kind)) { g with e:={ g.e with used:=C.calls + 1 } }=(fun x:EntM=>(x.e.s.name,x.e.s.kind)) g from rfl)];exact h.keys
theorem IN {cb em:Nat} {C:CacheR} (h:CacheAt B w cb em C) (n:List UInt8) (hn:n.length≤100000) (k now:Int) (h0:0≤now) (h1:now≤1099511627776) (hk:-9223372036854775808≤k∧k≤9223372036854775807) (hfi:C.l.findIdx? (mM (fold n) k)=none) :
 Calls Tryz.prog 96 #[.pointer (some ⟨cb,0,none⟩),aE n, .int .i64 k, .int .i64 now] w (bG w (.tuple #[.agg oR.toArray, .int .i64 0, .bool false])):=by
 obtain ⟨gs,hC⟩:=h;have hb:=hC.blk;have hp:=aA (cs:=[.int .i64 C.room, .int .i64 C.most, .map (some em), .int .i64 C.calls]) hb;have e1:(decide (0≤now) && decide (now≤1099511627776))=true:=by simp;omega
 have hmiss:=hC.miss hfi;have hf:(fold n).length≤1000000:=by
  cases hl:aM n with
  | none=>unfold fold;rw [hl];show n.length≤_;omega
  | some ls=>exact Nat.le_trans (lZ n (by rw [hl];rfl)) aC
 have hok:NS (nS (fold n) k):=HA _ _ hf hk;have hzv:∀ w,(zeroValue 187).run Tryz.prog w=.ok (.pointer none) w:=fun w=>by kernel_rfl
 have htm:dZ Tryz.prog 113 186 187=true:=zDk;go_enter Tryz.func96,Tryz.ntmps96
 refine_lift bK fun _ _ => ?_;refine eX (z:=oR) fun w1 x1 s1 b1 => ?_;refine aB ?_;refine_lift jH fun _ _ _ _ => ?_;refine bX (AX now 0 1099511627776 _) fun w2 x2 => ?_;rw [e1];have hx2:=x1.trans x2;have hp2:=hp.ext hx2;have hm2:=hC.map.ext hx2;refine_lift bK fun _ _ => ?_;refine eB zDk zDk ?_;refine_lift vF ?_;refine vZ (enters_of Tryz.func98 rfl rfl) rfl rfl (fun w' x'=>zS n w') ?_;refine aB ?_;refine_lift vF ?_;refine fH (v:=nS (fold n) k) (fun w' x'=>Runs.build (vals:=[(0,aE (fold n)),(1, .int .i64 k)]) rfl (by kernel_rfl)) ?_;refine aB ?_;refine fH (v:=.tuple #[.pointer none, .bool false]) (fun w' x'=>Runs.lookup rfl rfl (oD tS htm hzv (hm2.ext x') hok hmiss true)) ?_;refine aB ?_;refine_lift vF ?_;intro w3 x3;refine_lift jH fun _ _ _ _ => ?_;refine aG (v:=.agg oR.toArray) (Runs.build0 (by kernel_rfl)) ?_;refine aB ?_;have b3:=(x2.trans x3).at b1;refine fG (v:=.agg oR.toArray) b3 zDk fun w4 p4 => ?_;refine_lift aL ?_;refine bodyPost_ret (gC (cs:=oR) rfl rfl p4.this zDk) rfl ⟨rfl,(hx2.trans x3).move p4.mv (by rintro k ⟨⟩;exact Nat.le_refl _)⟩
theorem IP {cb em:Nat} {C:CacheR} (h:CacheAt B w cb em C) (n:List UInt8) (hn:n.length≤100000) (k now:Int) (h0:0≤now) (h1:now≤1099511627776) (hk:-9223372036854775808≤k∧k≤9223372036854775807) (hc:0≤C.calls∧C.calls≤1000000000) {x:EntR} (hfi:C.l.findIdx? (mM (fold n) k)=some i) (hix:C.l[i]? = some x) (hnx:now < x.till) (hxt:x.till≤1000000000000000000) :
 Calls Tryz.prog 96 #[.pointer (some ⟨cb,0,none⟩),aE n, .int .i64 k, .int .i64 now] w (fun e w'=>∃ v,e=.returned (.tuple #[.agg #[aE x.s.name, .int .i64 x.s.kind, .int .i64 (x.till - now),v], .int .i64 x.rank, .bool true])∧Own w.heap.size 1 9 w' v (aI x.s.data)∧CacheAt B w' cb em (C.use i x)∧Kf cT [] w w'∧Lo B w w'):=by
 obtain ⟨gs,hC⟩:=h;have hb:=hC.blk;have hp:=aA (cs:=[.int .i64 C.room, .int .i64 C.most, .map (some em), .int .i64 C.calls]) hb;have e1:(decide (0≤now) && decide (now≤1099511627776))=true:=by simp;omega
 obtain ⟨g,hg,hgk,hgA,hgl⟩:=hC.look hfi;rw [hix] at hgl;cases hgl
 have hf:(fold n).length≤1000000:=by
  cases hl:aM n with
  | none=>unfold fold;rw [hl];show n.length≤_;omega
  | some ls=>exact Nat.le_trans (lZ n (by rw [hl];rfl)) aC
 have hok:NS (nS (fold n) k):=HA _ _ hf hk;have hzv:∀ w,(zeroValue 187).run Tryz.prog w=.ok (.pointer none) w:=fun w=>by kernel_rfl
 have htm:dZ Tryz.prog 113 186 187=true:=zDk;go_enter Tryz.func96,Tryz.ntmps96
 refine_lift mS ?_;intro _ _ _;refine eX (z:=oR) fun w1 x1 s1 b1 => ?_;refine aB ?_;refine_lift jH fun _ _ _ _ => ?_;refine bX (AX now 0 1099511627776 _) fun w2 x2 => ?_;rw [e1];have hx2:=x1.trans x2;have hp2:=hp.ext hx2;have hm2:=hC.map.ext hx2;refine_lift bK fun _ _ => ?_;refine eB zDk zDk ?_;refine_lift vF ?_;refine vZ (enters_of Tryz.func98 rfl rfl) rfl rfl (fun w' x'=>zS n w') ?_;refine aB ?_;refine_lift vF ?_;refine fH (v:=nS (fold n) k) (fun w' x'=>Runs.build (vals:=[(0,aE (fold n)),(1, .int .i64 k)]) rfl (by kernel_rfl)) ?_;refine aB ?_;refine fH (v:=.tuple #[.pointer (some ⟨g.b,0,none⟩), .bool true]) (fun w' x'=>Runs.lookup rfl rfl (eO tS htm hzv (hm2.ext x') hok hgk hC.uniq true)) ?_;refine aB ?_;refine_lift vF ?_;intro w3 x3;have hx3:=hx2.trans x3;have hpg:=aA (cs:=ES g.e g.v) (hx3.at hgA.blk);have hpc:=hp.ext hx3;refine_lift mS fun _ _ _ => ?_;have hb3:=hx3.at hb;have hg3:=hx3.at hgA.blk;have hne:g.b≠cb:=kE hgA.blk hb aH;refine fZ 3 (.int .i64 (C.calls + 1)) hb3 rfl fun w4 p4 => ?_;have hg4:=p4.mv.at hg3 (by intro e;exact hne (Option.some.inj e));have hb4:=p4.this;have hpc4:=aA (cs:=[.int .i64 C.room, .int .i64 C.most, .map (some em), .int .i64 (C.calls + 1)]) hb4;clear hpg hpc;refine_lift bK fun _ _ => ?_;refine fZ 6 (.int .i64 (C.calls + 1)) hg4 rfl fun w5 p5 => ?_;have hb5:=p5.mv.at hb4 (by intro e;exact hne (Option.some.inj e).symm);have hg5:=p5.this;have hpg5:=aA (cs:=ES { g.e with used:=C.calls + 1 } g.v) hg5;have hps5:Pts w5 (aP (.pointer (some ⟨g.b,0,none⟩)) 0) [aE g.e.s.name, .int .i64 g.e.s.kind, .int .i64 g.e.s.ttl,g.v]:=(hpg5.part 0).front 4;refine_lift bK fun _ _ => ?_;refine eX (z:=oR) fun w6 x6 s6 b6 => ?_;refine aB ?_;have hr0:g.v.oneCell'=true:=hgA.row.one;refine fG (v:=.agg #[aE g.e.s.name, .int .i64 g.e.s.kind, .int .i64 g.e.s.ttl,g.v]) b6 (oH rfl rfl rfl hr0) fun w7 p7 => ?_;have x57:=eC x6 p7;have hpS:=aA (cs:=[aE g.e.s.name, .int .i64 g.e.s.kind, .int .i64 g.e.s.ttl,g.v]) p7.this;have hpg7:=hpg5.ext x57;have row7:Own B 1 9 w7 g.v (aI g.e.s.data):=((iM (iM (hgA.row.ext hx3) p4 hb3) p5 hg4).ext x57);refine_lift lQ fun _ _ => ?_;refine aV 10 (Ext w7) zDk ?_;intro w8 x8 _;refine ⟨x8,?_⟩;refine bH 0 ?_;refine bH 1 ?_;refine bH 2 ?_;refine bH 3 ?_;refine bH 4 ?_;refine bH 5 ?_;refine bH 6 ?_;refine bH 7 ?_;refine eH 9 ?_;refine eF 8 ?_;refine pZ (XM g.v g.e.s.data _ (row7.sl.ext x8) (by have:=hgA.len;omega)) fun v9 w9 x9 o9 => ?_;refine aB ?_;have x79:=x8.trans x9;refine aD ⟨aZ x79,?_⟩;refine eF 10 ?_;refine fZ 2 (.int .i64 (g.e.till - now)) (x79.at p7.this) rfl fun w10 p10 => ?_;refine aD ⟨aQ rfl,?_⟩;refine eH 11 ?_;refine eF 12 ?_;refine fZ 3 v9 p10.this o9.one fun w11 p11 => ?_;refine aD ⟨aQ rfl,?_⟩;refine nX ?_;have b11:=p11.this;have x511:=eC (eC (x57.trans x79) p10) p11;refine_lift lQ fun _ _ => ?_;have lc:cb < w.heap.size:=(Array.getElem?_eq_some_iff.1 hb).1;have lg:g.b < w.heap.size:=(Array.getElem?_eq_some_iff.1 hgA.blk).1;have bR:w11.heap[w.heap.size]? = some (.cells oR.toArray 137 (0,0)):=x511.at ((p5.other _ aC).trans ((p4.other _ aC).trans ((x2.trans x3).at b1)));have hpg11:=hpg5.ext x511;have hpS11:=aA (cs:=[aE g.e.s.name, .int .i64 g.e.s.kind, .int .i64 (g.e.till - now),v9]) b11;have o11:Own w.heap.size 1 9 w11 v9 (aI g.e.s.data):=(iM (iM o9 p10 (x79.at p7.this)) p11 p10.this).weaken (by have:=hx3.size;have:=p4.size;have:=p5.size;have:=x57.size;have:=x8.size;omega);clear hpS hpg7 hpg5 hpc4 hps5 hp2 hp;refine aV 6 (fun w'=>Pts w' (.pointer (some ⟨g.b,0,none⟩)) (ES { g.e with used:=C.calls + 1 } g.v)∧Pts w' (.pointer (some ⟨w5.heap.size,0,none⟩)) [aE g.e.s.name, .int .i64 g.e.s.kind, .int .i64 (g.e.till - now),v9]) zDk ?_;intro w12 x12 _;refine ⟨⟨hpg11.ext x12,hpS11.ext x12⟩,?_⟩;refine BG (i:=0) (v:=.agg #[aE g.e.s.name, .int .i64 g.e.s.kind, .int .i64 (g.e.till - now),v9]) rfl rfl (fun w' hF=>by obtain ⟨_,hF⟩:=hF;exact DF) ?_;refine aB ?_;refine eH 1 ?_;refine eH 2 ?_;refine eH 3 ?_;refine BG (i:=4) (v:=.int .i64 g.e.rank) rfl rfl (fun w' hF=>by obtain ⟨hF,_⟩:=hF;exact DF) ?_;refine aB ?_;refine eF 5 ?_;refine fG (v:=.agg #[aE g.e.s.name, .int .i64 g.e.s.kind, .int .i64 (g.e.till - now),v9]) (x12.at bR) (oH rfl rfl rfl o11.one) fun w13 p13 => ?_;have h13:w.heap.size < w3.heap.size:=by have:=x2.size;have:=x3.size;omega
 have b13a:=p13.mv.at (x12.at (x511.at hg5)) (by intro e;have:=Option.some.inj e;omega);have b13b:=p13.mv.at (x12.at b11) (by intro e;have:=Option.some.inj e;have:=p4.size;have:=p5.size;omega);refine aD ⟨aZ ⟨aA b13a,aA b13b⟩,?_⟩;refine eF 6 ?_
 ((with_reducible refine cB ?_);(first | (refine jO ?_;refine fX ?_) | (refine nC ?_;refine pI ?_;(with_reducible refine cB ?_);refine jO ?_;refine fX ?_)))
 refine aD ⟨aQ rfl,?_⟩;refine eH 7 ?_;refine nX ?_;refine_lift aL ?_;have m13:=p13.mv.at (x12.at (x511.at hb5)) (by intro e;have:=Option.some.inj e;omega);refine bodyPost_ret (gC (cs:=[aE g.e.s.name, .int .i64 g.e.s.kind, .int .i64 (g.e.till - now),v9]) rfl rfl p13.this (by kernel_rfl)) rfl ⟨v9,rfl,iM (o11.ext x12) p13 (x12.at bR),?_,?_,(Lo.of hx3).trans ((Lo.put p4 hC.ge.1).trans ((Lo.put p5 hgA.ge).trans ((Lo.of (x511.trans x12)).trans (Lo.put p13 (by have:=hC.ge;omega)))))⟩
 ·refine ⟨_,hC.used hg m13 b13a fun c hc h1 h2 => ?_⟩;rw [p13.other c aC,x12.block c (by have:=x511.size;have:=p4.size;have:=p5.size;omega),x511.block c (by have:=p4.size;have:=p5.size;omega),p5.other c h2,p4.other c h1,hx3.block c hc]
 ·have k1:Kf cT [] w w3:=Kf.of hx3;have k2:Kf cT [] w3 w4:=Kf.put p4 hb3 aH;have k3:Kf cT [] w4 w5:=Kf.put p5 hg4 aH;have k4:Kf cT [] w5 w12:=Kf.of (x511.trans x12);refine ⟨fun c cs t fz hc ht => ?_,fun c es q hc _ => ?_⟩
  ·have hlt:=(Array.getElem?_eq_some_iff.1 hc).1;rw [p13.other c aC];exact (((k1.trans k2).trans k3).trans k4).cells c cs t fz hc ht
  ·have hlt:=(Array.getElem?_eq_some_iff.1 hc).1;rw [p13.other c aC];exact (((k1.trans k2).trans k3).trans k4).maps c es q hc bE
end Go.Proofs.X
