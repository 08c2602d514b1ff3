/- Laws and walks that the proof of the statement is made of (part 11). -/
import Derived.Test.YtfkckeaadnoeiaaGreatP10
set_option linter.unusedSimpArgs false
set_option linter.unusedVariables false
set_option maxRecDepth 100000
set_option maxHeartbeats 20000000
namespace Go.Proofs.X
open Go.RowKit
variable {cs:Array Value} {held:Bool} {qt:Int} {ps rs:List (List UInt8×Nat)} {ls:List (List UInt8)} {css css0 es:List (List Value)} {d l m n o qn s t x y z:List UInt8} {B a b base c e fuel i j k p q:Nat} {fz:Nat×Nat} {row:Option Nat} {r u v:Value} {w w' w0 w1 w2:World}
theorem uY {fn:Func} {t u v x:Tmp} (h:fn.results=#[.tmp t, .tmp u, .tmp v, .tmp x]) (ts:Array Value) (P:Program) (w:World):(results fn ts).run P w=.ok (.tuple #[ts.getD t undef,ts.getD u undef,ts.getD v undef,ts.getD x undef]) w:=by simp [results,h]
def aW (f k:Nat):Bool := !decide (((f &&& k:Nat):Int)=0)
def SN:RdS:=⟨0,0⟩
def sD (s:List UInt8):Nat×RdS:=SN.number s 2
def lW (s:List UInt8):Nat×RdS:=(sD s).2.number s 2
def GD (s:List UInt8) (e:Ending) (w w':World):Prop :=
 e=.returned (.tuple (if s.length<12 then #[.int .i64 0, .int .i64 0, .bool false, .int .i64 3]else #[.int .i64 ((sD s).1:Nat), .int .i64 (((lW s).1 / 2048 &&& 15:Nat):Int), .bool (aW (lW s).1 32768), .int .i64 0]))∧Ext w w'
theorem SP (s:List UInt8) (hs:s.length≤100000000):SN.Ok s:=by
 constructor
 all_goals (simp [SN];try omega)
theorem Ag (s:List UInt8) (hs:s.length≤1000000):Calls Tryz.prog 89 #[aE s] w (fun e w'=>GD s e w w'):=by
 have hs8:s.length≤100000000:=aC;have h0:=SP s hs8;unfold GD lW sD;go_enter Tryz.func89,Tryz.ntmps89
 have h1:=cE (n:=2) h0 hs8 aC;have l1:=dS s SN 2 aC;have c1:=fun w' b (h':dF w' b s SN)=>eJ h' h0 hs8 2 aC aC;generalize SN.number s 2=R1 at *;obtain ⟨id,r1⟩:=R1;dsimp only at *;have l2:=dS s r1 2 aC;have c2:=fun w' b (h':dF w' b s r1)=>eJ h' h1 hs8 2 aC aC;generalize r1.number s 2=R2 at *;obtain ⟨fl,r2⟩:=R2;dsimp only at *;by_cases cl:s.length<12
 ·rw [if_pos cl]
  (repeat' first|((with_reducible refine aZ ?_);go_step)|((with_reducible refine aS ?_);first|refine dN ?_|(refine bG ?_ ?_<;>intro hc))|fail)
  all_goals first
   | (exfalso;omega)
   | skip
  refine bodyPost_ret (uY rfl _ _ _) rfl ?_;exact ⟨rfl,Ext.refl _⟩
 ·rw [if_neg cl]
  (repeat' first|((with_reducible refine aZ ?_);go_step)|((with_reducible refine aS ?_);first|refine dN ?_|(refine bG ?_ ?_<;>intro hc))|fail)
  all_goals first
   | (exfalso;omega)
   | skip
  refine aG (v:=.agg #[aE s, .int .i64 0, .int .i64 0]) (Runs.build rfl (by kernel_rfl)) ?_;refine aB ?_;refine jO (vs:=[aE s, .int .i64 0, .int .i64 0]) fun w1 x1 s1 hb1=>?_;refine aB ?_;have hR1:dF w1 w.heap.size s SN:=hb1
  (repeat' first|((with_reducible refine aZ ?_);go_step)|((with_reducible refine aS ?_);first|refine dN ?_|(refine bG ?_ ?_<;>intro hc))|fail)
  refine bF (vs:=[.pointer (some ⟨w.heap.size,0,none⟩), .int .i64 2]) (enters_of Tryz.func84 rfl rfl) rfl rfl (c1 _ _ hR1) ?_;rintro _ w2 ⟨rfl,h2,m2⟩;refine ⟨_,rfl,?_⟩;refine aB ?_
  (repeat' first|((with_reducible refine aZ ?_);go_step)|((with_reducible refine aS ?_);first|refine dN ?_|(refine bG ?_ ?_<;>intro hc))|fail)
  refine bF (vs:=[.pointer (some ⟨w.heap.size,0,none⟩), .int .i64 2]) (enters_of Tryz.func84 rfl rfl) rfl rfl (c2 _ _ h2) ?_;rintro _ w3 ⟨rfl,h3,m3⟩;refine ⟨_,rfl,?_⟩;refine aB ?_
  (repeat' first|((with_reducible refine aZ ?_);go_step)|((with_reducible refine aS ?_);first|refine dN ?_|(refine bG ?_ ?_<;>intro hc))|fail)
  have l2':fl<65536:=by simpa using l2
  refine aG (Runs.andN (m:=fl / 2048) (n:=15) (by show Value.int .i64 _=_;simp) rfl aC aK) ?_;refine aB ?_
  (repeat' first|((with_reducible refine aZ ?_);go_step)|((with_reducible refine aS ?_);first|refine dN ?_|(refine bG ?_ ?_<;>intro hc))|fail)
  refine aG (Runs.andN (m:=fl) (n:=32768) rfl rfl aC aK) ?_;refine aB ?_
  (repeat' first|((with_reducible refine aZ ?_);go_step)|((with_reducible refine aS ?_);first|refine dN ?_|(refine bG ?_ ?_<;>intro hc))|fail)
  refine bodyPost_ret (uY rfl _ _ _) rfl ?_;exact ⟨rfl,x1.move (m2.trans m3) (by rintro k ⟨⟩;exact Nat.le_refl _)⟩
def SQ (x:RecW):RdS:=x.r3.want (decide (((x.cls:Nat):Int)=1)&&AT (x.name,((x.kind:Nat):Int))) 2
def OY (s:List UInt8):Nat→List mU→RdS→List mU×RdS
 | 0,l,r=>(l,r)
 | f+1,l,r=>if r.e≠0 then (l,r)else OY s f (l ++ [((iI s r).name,(((iI s r).kind:Nat):Int))]) (SQ (iI s r))
def YE (s:List UInt8):RdS:=(lW s).2.want (decide ((((lW s).1 &&& 112:Nat):Int)=0)) 2
def sE (s:List UInt8):Nat×RdS:=(YE s).number s 2
def yG (s:List UInt8):Nat×RdS:=(sE s).2.number s 2
def yH (s:List UInt8):Nat×RdS:=(yG s).2.number s 2
def BL (s:List UInt8):Nat×RdS:=(yH s).2.number s 2
def Ah (s:List UInt8):RdS:=(BL s).2.want (decide (((sE s).1:Int)≤10)) 2
def WG (s:List UInt8):List mU×RdS:=OY s (sE s).1 [] (Ah s)
def Ai (s:List UInt8):List Rec×Nat×RdS:=jM s (WG s).2 (yG s).1 false
def Aj (s:List UInt8):List Rec×Nat×RdS:=jM s (Ai s).2.2 (yH s).1 false
def WH (s:List UInt8):List Rec×Nat×RdS:=jM s (Aj s).2.2 (BL s).1 true
def Bv (s:List UInt8):RdS:=(WH s).2.2.want (decide ((WH s).2.2.at_=(s.length:Int))) 2
def Ew:MsgR:=⟨0,false,0,false,false,false,false,0,[],[],[],[],0⟩
def cP (s:List UInt8):MsgR×Int :=
 if (Bv s).e=0 then (⟨((sD s).1:Nat),aW (lW s).1 32768,(((lW s).1 / 2048 &&& 15:Nat):Int),aW (lW s).1 1024,aW (lW s).1 512,aW (lW s).1 256,aW (lW s).1 128,(((lW s).1 &&& 15:Nat):Int),(WG s).1,(Ai s).1,(Aj s).1,(WH s).1,((WH s).2.1:Nat)⟩,0)
 else (Ew,(Bv s).e)
def yT (s:List UInt8) (e:Ending) (w w':World):Prop:=∃ q a u x,e=.returned (.tuple #[.agg (aP (cP s).1 q a u x).toArray, .int .i64 (cP s).2])∧(Own w.heap.size 2 25 w' q (cV (cP s).1.qs)∧Own w.heap.size 4 37 w' a (aF (cP s).1.an)∧Own w.heap.size 4 37 w' u (aF (cP s).1.au)∧Own w.heap.size 4 37 w' x (aF (cP s).1.ex))∧Ext w w'
def SS (s:List UInt8) (e:Ending) (w w':World):Prop:=∃ q a u x,e=.returned (.tuple #[.agg (aP (cP s).1 q a u x).toArray, .int .i64 (cP s).2])∧MsgV w' (cP s).1 q a u x∧Ext w w'
theorem ST {x:RecW} (hr:x.r3.Ok s):(SQ x).Ok s:=hr.want _ aK
theorem Ak (hs:s.length≤100000000):∀ (f:Nat) (l:List mU) (r:RdS),r.Ok s→(OY s f l r).2.Ok s:=by
 intro f;induction f with
 | zero=>intro l r h;exact h
 | succ f ih =>
  intro l r h;unfold OY;split
  ·exact h
  ·exact ih _ _ (ST (pR h hs))
theorem SU (hs:s.length≤100000000) (last:Bool) (n:Nat):∀ (f i:Nat) (l:List Rec) (r:RdS),r.Ok s→(sJ s last n f i l r).2.2.Ok s:=by
 intro f;induction f with
 | zero=>intro i l r h;exact h
 | succ f ih =>
  intro i l r h;unfold sJ;have hX:=pR h hs;split
  ·exact h
  ·split
   ·exact RdS.Ok.want (cE (cE hX hs aC) hs aC) _ aK
   ·exact ih _ _ _ (LD hX hs _)
theorem xX (hs:s.length≤100000000) {r:RdS} (h:r.Ok s) (n:Nat) (last:Bool):(jM s r n last).2.2.Ok s:=SU hs _ _ _ _ _ _ (h.want _ aK)
theorem OZ {a b:Value} (h1:a.oneCell'=true) (h2:b.oneCell'=true):(Value.agg #[a,b]).cells.all (·.oneCell')=true:=by simp [Value.cells,h1,h2]
theorem wJ (s:List UInt8) (hs:s.length≤1000000):Calls Tryz.prog 41 #[aE s] w (fun e w'=>yT s e w w'):=by
 have hs8:s.length≤100000000:=aC;have o0:=SP s hs8;have o1:(sD s).2.Ok s:=cE o0 hs8 aC;have o2:(lW s).2.Ok s:=cE o1 hs8 aC;have o3:(YE s).Ok s:=o2.want _ aK;have o4:(sE s).2.Ok s:=cE o3 hs8 aC;have o5:(yG s).2.Ok s:=cE o4 hs8 aC;have o6:(yH s).2.Ok s:=cE o5 hs8 aC;have o7:(BL s).2.Ok s:=cE o6 hs8 aC;have o8:(Ah s).Ok s:=o7.want _ aK;have o9:(WG s).2.Ok s:=Ak hs8 _ _ _ o8;have o10:(Ai s).2.2.Ok s:=xX hs8 o9 _ _;have o11:(Aj s).2.2.Ok s:=xX hs8 o10 _ _;have l1:(sD s).1<65536:=by have:=dS s SN 2 aC;simpa [sD]using this
 have l2:(lW s).1<65536:=by have:=dS s (sD s).2 2 aC;simpa [lW]using this
 have n1:(sE s).1<65536:=by have:=dS s (YE s) 2 aC;simpa [sE]using this
 have n2:(yG s).1<65536:=by have:=dS s (sE s).2 2 aC;simpa [yG]using this
 have n3:(yH s).1<65536:=by have:=dS s (yG s).2 2 aC;simpa [yH]using this
 have n4:(BL s).1<65536:=by have:=dS s (yH s).2 2 aC;simpa [BL]using this
 have c1:=fun w' b (h':dF w' b s SN)=>eJ h' o0 hs8 2 aC aC;have c2:=fun w' b (h':dF w' b s (sD s).2)=>eJ h' o1 hs8 2 aC aC;have c3:=fun w' b (h':dF w' b s (lW s).2)=>gP h' (decide ((((lW s).1 &&& 112:Nat):Int)=0)) 2;have c4:=fun w' b (h':dF w' b s (YE s))=>eJ h' o3 hs8 2 aC aC;have c5:=fun w' b (h':dF w' b s (sE s).2)=>eJ h' o4 hs8 2 aC aC;have c6:=fun w' b (h':dF w' b s (yG s).2)=>eJ h' o5 hs8 2 aC aC;have c7:=fun w' b (h':dF w' b s (yH s).2)=>eJ h' o6 hs8 2 aC aC;have c8:=fun w' b (h':dF w' b s (BL s).2)=>gP h' (decide (((sE s).1:Int)≤10)) 2;have c10:=fun w' b (h':dF w' b s (WG s).2)=>wI h' o9 hs (yG s).1 aC false;have c11:=fun w' b (h':dF w' b s (Ai s).2.2)=>wI h' o10 hs (yH s).1 aC false;have c12:=fun w' b (h':dF w' b s (Aj s).2.2)=>wI h' o11 hs (BL s).1 aC true;have c13:=fun w' b (h':dF w' b s (WH s).2.2)=>gP h' (decide ((WH s).2.2.at_=(s.length:Int))) 2;have hQ:OY s (sE s).1 [] (Ah s)=WG s:=rfl;change ∀ w' b,dF w' b s SN→Calls _ _ _ _ (mR w' b s (.int .i64 ((sD s).1:Nat)) (sD s).2)at c1;change ∀ w' b,dF w' b s (sD s).2→Calls _ _ _ _ (mR w' b s (.int .i64 ((lW s).1:Nat)) (lW s).2)at c2;change ∀ w' b,dF w' b s (lW s).2→Calls _ _ _ _ (mR w' b s (.bool (decide ((YE s).e=0))) (YE s))at c3;change ∀ w' b,dF w' b s (YE s)→Calls _ _ _ _ (mR w' b s (.int .i64 ((sE s).1:Nat)) (sE s).2)at c4;change ∀ w' b,dF w' b s (sE s).2→Calls _ _ _ _ (mR w' b s (.int .i64 ((yG s).1:Nat)) (yG s).2)at c5;change ∀ w' b,dF w' b s (yG s).2→Calls _ _ _ _ (mR w' b s (.int .i64 ((yH s).1:Nat)) (yH s).2)at c6;change ∀ w' b,dF w' b s (yH s).2→Calls _ _ _ _ (mR w' b s (.int .i64 ((BL s).1:Nat)) (BL s).2)at c7;change ∀ w' b,dF w' b s (BL s).2→Calls _ _ _ _ (mR w' b s (.bool (decide ((Ah s).e=0))) (Ah s))at c8;change ∀ w' b,dF w' b s (WG s).2→Calls _ _ _ _ (GB w' b s (Ai s))at c10;change ∀ w' b,dF w' b s (Ai s).2.2→Calls _ _ _ _ (GB w' b s (Aj s))at c11;change ∀ w' b,dF w' b s (Aj s).2.2→Calls _ _ _ _ (GB w' b s (WH s))at c12;change ∀ w' b,dF w' b s (WH s).2.2→Calls _ _ _ _ (mR w' b s (.bool (decide ((Bv s).e=0))) (Bv s))at c13;unfold yT cP;generalize sD s=H1 at *;generalize lW s=H2 at *;generalize YE s=W1 at *;generalize sE s=N1 at *;generalize yG s=N2 at *;generalize yH s=N3 at *;generalize BL s=N4 at *;generalize Ah s=V1 at *;generalize WG s=Q9 at *;generalize Ai s=A9 at *;generalize Aj s=U9 at *;generalize WH s=X9 at *;generalize Bv s=E9 at *;obtain ⟨id,r1⟩:=H1;obtain ⟨fl,r2⟩:=H2;obtain ⟨k1,r4⟩:=N1;obtain ⟨k2,r5⟩:=N2;obtain ⟨k3,r6⟩:=N3;obtain ⟨k4,r7⟩:=N4;dsimp only at *;go_enter Tryz.func41,Tryz.ntmps41
 (repeat' first|((with_reducible refine aZ ?_);go_step)|((with_reducible refine aS ?_);first|refine dN ?_|(refine bG ?_ ?_<;>intro hc))|fail)
 refine dX (z:=iW) fun wa xa sa ha=>?_;refine aB ?_
 (repeat' first|((with_reducible refine aZ ?_);go_step)|((with_reducible refine aS ?_);first|refine dN ?_|(refine bG ?_ ?_<;>intro hc))|fail)
 refine aG (v:=.agg #[aE s, .int .i64 0, .int .i64 0]) (Runs.build rfl (by kernel_rfl)) ?_;refine aB ?_;refine jO (vs:=[aE s, .int .i64 0, .int .i64 0]) fun wb xb sb hb=>?_;refine aB ?_;have hR1:dF wb wa.heap.size s SN:=hb;have xab:=xa.trans xb;have hab:=xa.size;have hbl:wa.heap.size<wb.heap.size:=aC;have hal:w.heap.size<wa.heap.size:=aC;have ha1:=xb.at ha;generalize hb9:wa.heap.size=b at *;clear ha hb
 (repeat' first|((with_reducible refine aZ ?_);go_step)|((with_reducible refine aS ?_);first|refine dN ?_|(refine bG ?_ ?_<;>intro hc))|fail)
 refine bF (vs:=[.pointer (some ⟨b,0,none⟩), .int .i64 2]) (enters_of Tryz.func84 rfl rfl) rfl rfl (c1 _ _ hR1) ?_;rintro _ w1 ⟨rfl,h1,m1⟩;refine ⟨_,rfl,?_⟩;refine aB ?_
 (repeat' first|((with_reducible refine aZ ?_);go_step)|((with_reducible refine aS ?_);first|refine dN ?_|(refine bG ?_ ?_<;>intro hc))|fail)
 refine aG (v:=.agg (aP ⟨(id:Nat),false,0,false,false,false,false,0,[],[],[],[],0⟩ (.slice none 0 0) (.slice none 0 0) (.slice none 0 0) (.slice none 0 0)).toArray) (Runs.build rfl (by kernel_rfl)) ?_;refine aB ?_;refine dX (z:=iW) fun w2 x2 s2 hz2=>?_;refine aB ?_;refine dL (v:=.agg (aP ⟨(id:Nat),false,0,false,false,false,false,0,[],[],[],[],0⟩ (.slice none 0 0) (.slice none 0 0) (.slice none 0 0) (.slice none 0 0)).toArray) hz2 (dR (w:=w2) (m:=⟨(id:Nat),false,0,false,false,false,false,0,[],[],[],[],0⟩) ⟨Sl.nil _ _,Sl.nil _ _,Sl.nil _ _,Sl.nil _ _⟩) fun w3 p3=>?_;have hM3:w3.heap[w1.heap.size]? = some (.cells (aP ⟨(id:Nat),false,0,false,false,false,false,0,[],[],[],[],0⟩ (.slice none 0 0) (.slice none 0 0) (.slice none 0 0) (.slice none 0 0)).toArray 54 (0,0)):=p3.this;have x13:=cJ x2 p3;have h3:dF w3 b s r1:=x13.at h1;have hsz:=m1.size;have hne:some w1.heap.size≠some b:=by intro e;have:=Option.some.inj e;omega
 have hcw:w.heap.size≤w1.heap.size:=aC;have hbw:w.heap.size≤b:=aC;have hb1:b<w1.heap.size:=aC;have ha1':wb.heap[w.heap.size]? = _:=ha1;have ha2:=m1.at ha1 (by intro e;have:=Option.some.inj e;omega);have ha3:=x13.at ha2;have x3:Ext w w3:=(xab.move m1 (by rintro k ⟨⟩;omega)).trans x13;clear ha1 ha1' ha2 hz2 p3 x2 hR1;have hac:w.heap.size<w1.heap.size:=aC;generalize hc9:w1.heap.size=c at *
 (repeat' first|((with_reducible refine aZ ?_);go_step)|((with_reducible refine aS ?_);first|refine dN ?_|(refine bG ?_ ?_<;>intro hc))|fail)
 have hna:some w.heap.size≠some b:=by intro e;have:=Option.some.inj e;omega
 have hnc:some w.heap.size≠some c:=by intro e;have:=Option.some.inj e;omega
 (repeat' first|((with_reducible refine aZ ?_);go_step)|((with_reducible refine aS ?_);first|refine dN ?_|(refine bG ?_ ?_<;>intro hc))|fail)
 refine bF (vs:=[.pointer (some ⟨b,0,none⟩), .int .i64 2]) (enters_of Tryz.func84 rfl rfl) rfl rfl (c2 _ _ h3) ?_;rintro _ w4 ⟨rfl,h4,m4⟩;refine ⟨_,rfl,?_⟩;refine aB ?_;have hM4:=m4.at hM3 hne;have ha4:=m4.at ha3 hna;have x4:Ext w w4:=x3.move m4 (by rintro k ⟨⟩;exact hbw);clear h3 hM3 ha3 x3 m4
 (repeat' first|((with_reducible refine aZ ?_);go_step)|((with_reducible refine aS ?_);first|refine dN ?_|(refine bG ?_ ?_<;>intro hc))|fail)
 refine aG (Runs.andN (m:=fl) (n:=112) rfl rfl aC aK) ?_;refine aB ?_
 (repeat' first|((with_reducible refine aZ ?_);go_step)|((with_reducible refine aS ?_);first|refine dN ?_|(refine bG ?_ ?_<;>intro hc))|fail)
 refine bF (vs:=[.pointer (some ⟨b,0,none⟩), .bool (decide (((fl &&& 112:Nat):Int)=0)), .int .i64 2]) (enters_of Tryz.func85 rfl rfl) rfl rfl (c3 _ _ h4) ?_;rintro _ w5 ⟨rfl,h5,m5⟩;refine ⟨_,rfl,?_⟩;refine aB ?_;have hM5:=m5.at hM4 hne;have ha5:=m5.at ha4 hna;have x5:Ext w w5:=x4.move m5 (by rintro k ⟨⟩;exact hbw);clear h4 hM4 ha4 x4 m5
 (repeat' first|((with_reducible refine aZ ?_);go_step)|((with_reducible refine aS ?_);first|refine dN ?_|(refine bG ?_ ?_<;>intro hc))|fail)
 refine aG (Runs.andN (m:=fl) (n:=32768) rfl rfl aC aK) ?_;refine aB ?_
 (repeat' first|((with_reducible refine aZ ?_);go_step)|((with_reducible refine aS ?_);first|refine dN ?_|(refine bG ?_ ?_<;>intro hc))|fail)
 refine aG (Runs.andN (m:=fl) (n:=1024) rfl rfl aC aK) ?_;refine aB ?_
 (repeat' first|((with_reducible refine aZ ?_);go_step)|((with_reducible refine aS ?_);first|refine dN ?_|(refine bG ?_ ?_<;>intro hc))|fail)
 refine aG (Runs.andN (m:=fl) (n:=512) rfl rfl aC aK) ?_;refine aB ?_
 (repeat' first|((with_reducible refine aZ ?_);go_step)|((with_reducible refine aS ?_);first|refine dN ?_|(refine bG ?_ ?_<;>intro hc))|fail)
 refine aG (Runs.andN (m:=fl) (n:=256) rfl rfl aC aK) ?_;refine aB ?_
 (repeat' first|((with_reducible refine aZ ?_);go_step)|((with_reducible refine aS ?_);first|refine dN ?_|(refine bG ?_ ?_<;>intro hc))|fail)
 refine aG (Runs.andN (m:=fl) (n:=128) rfl rfl aC aK) ?_;refine aB ?_
 (repeat' first|((with_reducible refine aZ ?_);go_step)|((with_reducible refine aS ?_);first|refine dN ?_|(refine bG ?_ ?_<;>intro hc))|fail)
 refine fA 1 (.bool (aW fl 32768)) hM5 rfl fun w6 p6=>?_;have hM6:w6.heap[c]? = some (.cells (aP ⟨((id:Nat):Int),(aW fl 32768),0,false,false,false,false,0,[],[],[],[],0⟩ (.slice none 0 0) (.slice none 0 0) (.slice none 0 0) (.slice none 0 0)).toArray 54 (0,0)):=p6.this;have h6:=p6.mv.at h5 (by intro e;exact hne e.symm);have ha6:=p6.mv.at ha5 hnc;have x6:=cJ x5 p6;clear h5 hM5 ha5 x5 p6
 (repeat' first|((with_reducible refine aZ ?_);go_step)|((with_reducible refine aS ?_);first|refine dN ?_|(refine bG ?_ ?_<;>intro hc))|fail)
 refine fA 3 (.bool (aW fl 1024)) hM6 rfl fun w7 p7=>?_;have hM7:w7.heap[c]? = some (.cells (aP ⟨((id:Nat):Int),(aW fl 32768),0,(aW fl 1024),false,false,false,0,[],[],[],[],0⟩ (.slice none 0 0) (.slice none 0 0) (.slice none 0 0) (.slice none 0 0)).toArray 54 (0,0)):=p7.this;have h7:=p7.mv.at h6 (by intro e;exact hne e.symm);have ha7:=p7.mv.at ha6 hnc;have x7:=cJ x6 p7;clear h6 hM6 ha6 x6 p7
 (repeat' first|((with_reducible refine aZ ?_);go_step)|((with_reducible refine aS ?_);first|refine dN ?_|(refine bG ?_ ?_<;>intro hc))|fail)
 refine fA 4 (.bool (aW fl 512)) hM7 rfl fun w8 p8=>?_;have hM8:w8.heap[c]? = some (.cells (aP ⟨((id:Nat):Int),(aW fl 32768),0,(aW fl 1024),(aW fl 512),false,false,0,[],[],[],[],0⟩ (.slice none 0 0) (.slice none 0 0) (.slice none 0 0) (.slice none 0 0)).toArray 54 (0,0)):=p8.this;have h8:=p8.mv.at h7 (by intro e;exact hne e.symm);have ha8:=p8.mv.at ha7 hnc;have x8:=cJ x7 p8;clear h7 hM7 ha7 x7 p8
 (repeat' first|((with_reducible refine aZ ?_);go_step)|((with_reducible refine aS ?_);first|refine dN ?_|(refine bG ?_ ?_<;>intro hc))|fail)
 refine fA 5 (.bool (aW fl 256)) hM8 rfl fun w9 p9=>?_;have hM9:w9.heap[c]? = some (.cells (aP ⟨((id:Nat):Int),(aW fl 32768),0,(aW fl 1024),(aW fl 512),(aW fl 256),false,0,[],[],[],[],0⟩ (.slice none 0 0) (.slice none 0 0) (.slice none 0 0) (.slice none 0 0)).toArray 54 (0,0)):=p9.this;have h9:=p9.mv.at h8 (by intro e;exact hne e.symm);have ha9:=p9.mv.at ha8 hnc;have x9:=cJ x8 p9;clear h8 hM8 ha8 x8 p9
 (repeat' first|((with_reducible refine aZ ?_);go_step)|((with_reducible refine aS ?_);first|refine dN ?_|(refine bG ?_ ?_<;>intro hc))|fail)
 refine fA 6 (.bool (aW fl 128)) hM9 rfl fun w10 p10=>?_;have hM10:w10.heap[c]? = some (.cells (aP ⟨((id:Nat):Int),(aW fl 32768),0,(aW fl 1024),(aW fl 512),(aW fl 256),(aW fl 128),0,[],[],[],[],0⟩ (.slice none 0 0) (.slice none 0 0) (.slice none 0 0) (.slice none 0 0)).toArray 54 (0,0)):=p10.this;have h10:=p10.mv.at h9 (by intro e;exact hne e.symm);have ha10:=p10.mv.at ha9 hnc;have x10:=cJ x9 p10;clear h9 hM9 ha9 x9 p10
 (repeat' first|((with_reducible refine aZ ?_);go_step)|((with_reducible refine aS ?_);first|refine dN ?_|(refine bG ?_ ?_<;>intro hc))|fail)
 refine aG (Runs.andN (m:=fl / 2048) (n:=15) (by show Value.int .i64 _=_;simp) rfl aC aK) ?_;refine aB ?_
 (repeat' first|((with_reducible refine aZ ?_);go_step)|((with_reducible refine aS ?_);first|refine dN ?_|(refine bG ?_ ?_<;>intro hc))|fail)
 refine aG (Runs.andN (m:=fl) (n:=15) rfl rfl aC aK) ?_;refine aB ?_
 (repeat' first|((with_reducible refine aZ ?_);go_step)|((with_reducible refine aS ?_);first|refine dN ?_|(refine bG ?_ ?_<;>intro hc))|fail)
 refine fA 2 (.int .i64 ((fl / 2048 &&& 15:Nat):Int)) hM10 rfl fun w11 p11=>?_;have hM11:w11.heap[c]? = some (.cells (aP ⟨((id:Nat):Int),(aW fl 32768),(((fl / 2048 &&& 15:Nat)):Int),(aW fl 1024),(aW fl 512),(aW fl 256),(aW fl 128),0,[],[],[],[],0⟩ (.slice none 0 0) (.slice none 0 0) (.slice none 0 0) (.slice none 0 0)).toArray 54 (0,0)):=p11.this;have h11:=p11.mv.at h10 (by intro e;exact hne e.symm);have ha11:=p11.mv.at ha10 hnc;have x11:=cJ x10 p11;clear h10 hM10 ha10 x10 p11
 (repeat' first|((with_reducible refine aZ ?_);go_step)|((with_reducible refine aS ?_);first|refine dN ?_|(refine bG ?_ ?_<;>intro hc))|fail)
 refine fA 7 (.int .i64 ((fl &&& 15:Nat):Int)) hM11 rfl fun w12 p12=>?_;have hM12:w12.heap[c]? = some (.cells (aP ⟨((id:Nat):Int),(aW fl 32768),(((fl / 2048 &&& 15:Nat)):Int),(aW fl 1024),(aW fl 512),(aW fl 256),(aW fl 128),((fl &&& 15:Nat):Int),[],[],[],[],0⟩ (.slice none 0 0) (.slice none 0 0) (.slice none 0 0) (.slice none 0 0)).toArray 54 (0,0)):=p12.this;have h12:=p12.mv.at h11 (by intro e;exact hne e.symm);have ha12:=p12.mv.at ha11 hnc;have x12:=cJ x11 p12;clear h11 hM11 ha11 x11 p12
 (repeat' first|((with_reducible refine aZ ?_);go_step)|((with_reducible refine aS ?_);first|refine dN ?_|(refine bG ?_ ?_<;>intro hc))|fail)
 refine bF (vs:=[.pointer (some ⟨b,0,none⟩), .int .i64 2]) (enters_of Tryz.func84 rfl rfl) rfl rfl (c4 _ _ h12) ?_;rintro _ w13 ⟨rfl,h13,m13⟩;refine ⟨_,rfl,?_⟩;refine aB ?_;have hM13:=m13.at hM12 hne;have ha13:=m13.at ha12 hna;have x13:Ext w w13:=x12.move m13 (by rintro k ⟨⟩;exact hbw);clear h12 hM12 ha12 x12 m13
 (repeat' first|((with_reducible refine aZ ?_);go_step)|((with_reducible refine aS ?_);first|refine dN ?_|(refine bG ?_ ?_<;>intro hc))|fail)
 refine bF (vs:=[.pointer (some ⟨b,0,none⟩), .int .i64 2]) (enters_of Tryz.func84 rfl rfl) rfl rfl (c5 _ _ h13) ?_;rintro _ w14 ⟨rfl,h14,m14⟩;refine ⟨_,rfl,?_⟩;refine aB ?_;have hM14:=m14.at hM13 hne;have ha14:=m14.at ha13 hna;have x14:Ext w w14:=x13.move m14 (by rintro k ⟨⟩;exact hbw);clear h13 hM13 ha13 x13 m14
 (repeat' first|((with_reducible refine aZ ?_);go_step)|((with_reducible refine aS ?_);first|refine dN ?_|(refine bG ?_ ?_<;>intro hc))|fail)
 refine bF (vs:=[.pointer (some ⟨b,0,none⟩), .int .i64 2]) (enters_of Tryz.func84 rfl rfl) rfl rfl (c6 _ _ h14) ?_;rintro _ w15 ⟨rfl,h15,m15⟩;refine ⟨_,rfl,?_⟩;refine aB ?_;have hM15:=m15.at hM14 hne;have ha15:=m15.at ha14 hna;have x15:Ext w w15:=x14.move m15 (by rintro k ⟨⟩;exact hbw);clear h14 hM14 ha14 x14 m15
 (repeat' first|((with_reducible refine aZ ?_);go_step)|((with_reducible refine aS ?_);first|refine dN ?_|(refine bG ?_ ?_<;>intro hc))|fail)
 refine bF (vs:=[.pointer (some ⟨b,0,none⟩), .int .i64 2]) (enters_of Tryz.func84 rfl rfl) rfl rfl (c7 _ _ h15) ?_;rintro _ w16 ⟨rfl,h16,m16⟩;refine ⟨_,rfl,?_⟩;refine aB ?_;have hM16:=m16.at hM15 hne;have ha16:=m16.at ha15 hna;have x16:Ext w w16:=x15.move m16 (by rintro k ⟨⟩;exact hbw);clear h15 hM15 ha15 x15 m16
 (repeat' first|((with_reducible refine aZ ?_);go_step)|((with_reducible refine aS ?_);first|refine dN ?_|(refine bG ?_ ?_<;>intro hc))|fail)
 refine bF (vs:=[.pointer (some ⟨b,0,none⟩), .bool (decide ((k1:Int)≤10)), .int .i64 2]) (enters_of Tryz.func85 rfl rfl) rfl rfl (c8 _ _ h16) ?_;rintro _ w17 ⟨rfl,h17,m17⟩;refine ⟨_,rfl,?_⟩;refine aB ?_;have hM17:=m17.at hM16 hne;have ha17:=m17.at ha16 hna;have x17:Ext w w17:=x16.move m17 (by rintro k ⟨⟩;exact hbw);clear h16 hM16 ha16 x16 m17
 (repeat' first|((with_reducible refine aZ ?_);go_step)|((with_reducible refine aS ?_);first|refine dN ?_|(refine bG ?_ ?_<;>intro hc))|fail)
 go_loopw [11,12,13] (fun iv _ _ wr=>∃ (i:Nat) (l:List mU) (r':RdS) (qv:Value),i≤k1∧iv=.int .i64 i∧l.length=i∧dF wr b s r'∧r'.Ok s∧Ext w wr∧wr.heap[w.heap.size]? = some (.cells iW.toArray 54 (0,0))∧wr.heap[c]? = some (.cells (aP ⟨((id:Nat):Int),(aW fl 32768),(((fl / 2048 &&& 15:Nat)):Int),(aW fl 1024),(aW fl 512),(aW fl 256),(aW fl 128),((fl &&& 15:Nat):Int),l,[],[],[],0⟩ qv (.slice none 0 0) (.slice none 0 0) (.slice none 0 0)).toArray 54 (0,0))∧Own w.heap.size 2 25 wr qv (cV l)∧OY s (k1 - i) l r'=Q9) (fun iv _ _ _=>k1 - (intOf iv).toNat)
 case atStart=>exact ⟨0,[],V1,(.slice none 0 0),Nat.zero_le _,rfl,rfl,h17,o8,x17,ha17,hM17,Own.nil _ _ _ _,hQ⟩
 case round =>
  obtain ⟨i,l,r',qv,hi,rfl,hli,hR,hok,hx,ha,hM,hq,hg⟩:=hrel;have hpr:=aA (cs:=yR s r') hR;by_cases c0:i<k1∧r'.e=0
  ·obtain ⟨c1',c2'⟩:=c0;obtain ⟨f',hf'⟩:∃ f',k1 - i=f'+1:=⟨k1 - i - 1,aC⟩;rw [hf']at hg
   all_goals skip
   unfold OY at hg;rw [if_neg (by simpa using c2')]at hg;have hX:=pR hok hs8;have hXe:iI s r'=⟨(gJ s r').1,((gJ s r').2.number s 2).1,(((gJ s r').2.number s 2).2.number s 2).1,(((gJ s r').2.number s 2).2.number s 2).2⟩:=rfl;obtain ⟨hn1',hn2'⟩:=rE hok hs8;have hcn:=LB hR hok hs8;generalize hN:gJ s r'=N at *;obtain ⟨nm,q1⟩:=N;dsimp only at *;have hq2:=cE (n:=2) hn2' hs8 aC;have hk1:=dS s q1 2 aC;have hc1:=fun w' (h':dF w' b s q1)=>eJ h' hn2' hs8 2 aC aC;generalize q1.number s 2=K at *;obtain ⟨kind,q2⟩:=K;dsimp only at *;have hq3:=cE (n:=2) hq2 hs8 aC;have hk2:=dS s q2 2 aC;have hc2:=fun w' (h':dF w' b s q2)=>eJ h' hq2 hs8 2 aC aC;generalize q2.number s 2=C at *;obtain ⟨cls,q3⟩:=C;dsimp only at *;rw [hXe]at hg;have hQn:SQ ⟨nm,kind,cls,q3⟩=q3.want (decide ((cls:Int)=1)&&AT (nm,((kind:Nat):Int))) 2:=rfl;rw [hQn]at hg;clear hQn;have hy5:=hq3.want (decide ((cls:Int)=1)&&AT (nm,((kind:Nat):Int))) (er:=2) aK;have hcq:=fun w' (h':dF w' b s q3)=>gP h' (decide ((cls:Int)=1)&&AT (nm,((kind:Nat):Int))) 2;generalize q3.want (decide ((cls:Int)=1)&&AT (nm,((kind:Nat):Int))) 2=y5 at *;have hk1':kind<65536:=by simpa using hk1
   have hk2':cls<65536:=by simpa using hk2
   (repeat' first|((with_reducible refine aZ ?_);go_step)|((with_reducible refine aS ?_);first|refine dN ?_|(refine bG ?_ ?_<;>intro hc))|fail)
   all_goals first
    | (exfalso;omega)
    | skip
   refine bF (vs:=[.pointer (some ⟨b,0,none⟩)]) (enters_of Tryz.func86 rfl rfl) rfl rfl hcn ?_;rintro _ w18 ⟨rfl,h18,m18⟩;refine ⟨_,rfl,?_⟩;refine aB ?_;have hM18:=m18.at hM hne;have ha18:=m18.at ha hna;have x18:Ext w w18:=hx.move m18 (by rintro k ⟨⟩;exact hbw);have hq18:=hq.mv m18 (.inr (hq.neBlock hR aK))
   (repeat' first|((with_reducible refine aZ ?_);go_step)|((with_reducible refine aS ?_);first|refine dN ?_|(refine bG ?_ ?_<;>intro hc))|fail)
   refine aG (v:=.agg #[aE nm, .int .i64 0]) (Runs.build rfl (by kernel_rfl)) ?_;refine aB ?_;refine dX (z:=[aE [], .int .i64 0]) fun w19 x19 s19 hz19=>?_;refine aB ?_;refine dL (v:=.agg #[aE nm, .int .i64 0]) hz19 (OZ rfl rfl) fun w20 p20=>?_;have hD20:w20.heap[w18.heap.size]? = some (.cells [aE nm, .int .i64 0].toArray 25 (0,0)):=p20.this;have x1820:=cJ x19 p20;have h20:dF w20 b s q1:=x1820.at h18;have hM20:=x1820.at hM18;have ha20:=x1820.at ha18;have x20:=x18.trans x1820;have hq20:=hq18.ext x1820;have hv20:=KY hq18 w18.heap.size (Nat.le_refl _);have hdw:w.heap.size≤w18.heap.size:=x18.size;have hbd:b<w18.heap.size:=(Array.getElem?_eq_some_iff.1 h18).1;have hcd:c<w18.heap.size:=(Array.getElem?_eq_some_iff.1 hM18).1;have had:w.heap.size<w18.heap.size:=(Array.getElem?_eq_some_iff.1 ha18).1;have hneD:some w18.heap.size≠some b:=by intro e;have:=Option.some.inj e;omega
   have hncD:some c≠some w18.heap.size:=by intro e;have:=Option.some.inj e;omega
   have hnaD:some w.heap.size≠some w18.heap.size:=by intro e;have:=Option.some.inj e;omega
   clear hz19 p20 x19 hpr hcn h18 hM18 ha18 hq18 x18 hR hM ha hx hq m18;generalize w18.heap.size=d at *
   (repeat' first|((with_reducible refine aZ ?_);go_step)|((with_reducible refine aS ?_);first|refine dN ?_|(refine bG ?_ ?_<;>intro hc))|fail)
   refine bF (vs:=[.pointer (some ⟨b,0,none⟩), .int .i64 2]) (enters_of Tryz.func84 rfl rfl) rfl rfl (hc1 _ h20) ?_;rintro _ w21 ⟨rfl,h21,m21⟩;refine ⟨_,rfl,?_⟩;refine aB ?_;have hM21:=m21.at hM20 hne;have ha21:=m21.at ha20 hna;have hD21:=m21.at hD20 hneD;have x21:Ext w w21:=x20.move m21 (by rintro k ⟨⟩;exact hbw);have hq21:=hq20.mv m21 (.inr (hq20.neBlock h20 aK))
   (repeat' first|((with_reducible refine aZ ?_);go_step)|((with_reducible refine aS ?_);first|refine dN ?_|(refine bG ?_ ?_<;>intro hc))|fail)
   refine fA 1 (.int .i64 (kind:Nat)) hD21 rfl fun w22 p22=>?_;have hD22:w22.heap[d]? = some (.cells [aE nm, .int .i64 (kind:Nat)].toArray 25 (0,0)):=p22.this;have h22:dF w22 b s q2:=p22.mv.at h21 (by intro e;exact hneD e.symm);have hM22:=p22.mv.at hM21 hncD;have ha22:=p22.mv.at ha21 hnaD;have x22:=cJ x21 p22;have hq22:=hq21.mv p22.mv hv20;clear p22
   (repeat' first|((with_reducible refine aZ ?_);go_step)|((with_reducible refine aS ?_);first|refine dN ?_|(refine bG ?_ ?_<;>intro hc))|fail)
   refine bF (vs:=[.pointer (some ⟨b,0,none⟩), .int .i64 2]) (enters_of Tryz.func84 rfl rfl) rfl rfl (hc2 _ h22) ?_;rintro _ w23 ⟨rfl,h23,m23⟩;refine ⟨_,rfl,?_⟩;refine aB ?_;have hM23:=m23.at hM22 hne;have ha23:=m23.at ha22 hna;have hD23:=m23.at hD22 hneD;have hpD:=aA hD23;have x23:Ext w w23:=x22.move m23 (by rintro k ⟨⟩;exact hbw);have hq23:=hq22.mv m23 (.inr (hq22.neBlock h22 aK))
   (repeat' first|((with_reducible refine aZ ?_);go_step)|((with_reducible refine aS ?_);first|refine dN ?_|(refine bG ?_ ?_<;>intro hc))|fail)
   all_goals first
    | (refine bK (enters_of Tryz.func87 rfl rfl) rfl rfl (BA (nm,((kind:Nat):Int)) _) ?_;intro w24 x24;refine aB ?_
       have h24:=x24.at h23;have hM24:=x24.at hM23;have ha24:=x24.at ha23;have hD24:=x24.at hD23;have y24:=x23.trans x24;have hq24:=hq23.ext x24
       (repeat' first|((with_reducible refine aZ ?_);go_step)|((with_reducible refine aS ?_);first|refine dN ?_|(refine bG ?_ ?_<;>intro hc))|fail))
    | (have h24:=h23
       have hM24:=hM23;have ha24:=ha23;have hD24:=hD23;have y24:=x23;have hq24:=hq23)
   all_goals clear hpD
   all_goals refine bF (vs:=[.pointer (some ⟨b,0,none⟩), .bool (decide ((cls:Int)=1)&&AT (nm,((kind:Nat):Int))), .int .i64 2]) (enters_of Tryz.func85 rfl rfl) rfl ?_ (hcq _ h24) ?_
   all_goals first
    | (refine congrArg (fun z=>[Value.pointer (some ⟨b,0,none⟩),Value.bool z, .int .i64 2]) ?_;simp [*];done)
    | skip
   all_goals rintro _ w25 ⟨rfl,h25,m25⟩
   all_goals refine ⟨_,rfl,?_⟩
   all_goals refine aB ?_
   all_goals have hM25:=m25.at hM24 hne
   all_goals have ha25:=m25.at ha24 hna
   all_goals have hD25:=m25.at hD24 hneD
   all_goals have hpD:=aA hD25
   all_goals have hpM:=aA (cs:=aP ⟨((id:Nat):Int),(aW fl 32768),(((fl / 2048 &&& 15:Nat)):Int),(aW fl 1024),(aW fl 512),(aW fl 256),(aW fl 128),((fl &&& 15:Nat):Int),l,[],[],[],0⟩ qv (.slice none 0 0) (.slice none 0 0) (.slice none 0 0)) hM25
   all_goals have x25:Ext w w25:=y24.move m25 (by rintro k ⟨⟩;exact hbw)
   all_goals have hq25:=hq24.mv m25 (.inr (hq24.neBlock h24 aK))
   all_goals (repeat' first|((with_reducible refine aZ ?_);go_step)|((with_reducible refine aS ?_);first|refine dN ?_|(refine bG ?_ ?_<;>intro hc))|fail)
   all_goals refine oD (e:=25) (k:=2) (bytes:=24) (xs:=[.agg #[aE nm, .int .i64 (kind:Nat)]]) (by simp [Value.cells]) ?_
   all_goals intro u26 w26 x26 _ sl26 o26
   all_goals refine aB ?_
   all_goals have h26:=x26.at h25
   all_goals have hM26:=x26.at hM25
   all_goals have ha26:=x26.at ha25
   all_goals have hq26:=hq25.ext x26
   all_goals have y26:=x25.trans x26
   all_goals refine bV (v0:=qv) (es:=cV l) (fs:=[[aE nm, .int .i64 (kind:Nat)]]) rfl hq26 rfl sl26 (by simp [aE,Value.oneCell']) y26.size (by simp [cV];omega) ?_
   all_goals intro v27 w27 o27 m27 _
   all_goals refine aB ?_
   all_goals have h27:=m27.at h26 (fun e=>(hq26.neBlock h26 aK) e.symm)
   all_goals have hM27:=m27.at hM26 (fun e=>(hq26.neBlock hM26 aK) e.symm)
   all_goals have ha27:=m27.at ha26 (fun e=>(hq26.neBlock ha26 aK) e.symm)
   all_goals have y27:Ext w w27:=y26.move m27 (fun k e=>(hq26.block k e).1)
   all_goals clear hpD hpM
   all_goals (repeat' first|((with_reducible refine aZ ?_);go_step)|((with_reducible refine aS ?_);first|refine dN ?_|(refine bG ?_ ?_<;>intro hc))|fail)
   all_goals refine fA 8 v27 hM27 o27.one ?_
   all_goals intro w28 p28
   all_goals have hM28:w28.heap[c]? = some (.cells (aP ⟨((id:Nat):Int),(aW fl 32768),(((fl / 2048 &&& 15:Nat)):Int),(aW fl 1024),(aW fl 512),(aW fl 256),(aW fl 128),((fl &&& 15:Nat):Int),(l ++ [(nm,((kind:Nat):Int))]),[],[],[],0⟩ v27 (.slice none 0 0) (.slice none 0 0) (.slice none 0 0)).toArray 54 (0,0)):=p28.this
   all_goals have h28:=p28.mv.at h27 (by intro e;exact hne e.symm)
   all_goals have ha28:=p28.mv.at ha27 hnc
   all_goals have y28:=cJ y27 p28
   all_goals have o28:=eM o27 p28 hM27
   all_goals (repeat' first|((with_reducible refine aZ ?_);go_step)|((with_reducible refine aS ?_);first|refine dN ?_|(refine bG ?_ ?_<;>intro hc))|fail)
   all_goals refine ⟨⟨i+1,l ++ [(nm,((kind:Nat):Int))],y5,v27,aC,by go_num,by simp [hli],h28,hy5,y28,ha28,hM28,by simpa [cV]using o28,?_⟩,by simp [intOf];omega⟩
   all_goals rw [show k1 - (i+1)=f' by omega]
   all_goals exact hg
  ·have hQ9:Q9=(l,r'):=by
    rw [← hg];by_cases c1':i<k1
    ·obtain ⟨f',hf'⟩:∃ f',k1 - i=f'+1:=⟨k1 - i - 1,aC⟩;rw [hf'];unfold OY;rw [if_pos (fun h=>c0 ⟨c1',h⟩)]
    ·rw [show k1 - i=0 by omega];rfl
   subst hQ9;dsimp only at *
   (repeat' first|((with_reducible refine aZ ?_);go_step)|((with_reducible refine aS ?_);first|refine dN ?_|(refine bG ?_ ?_<;>intro hc))|fail)
   all_goals first
    | (exfalso;omega)
    | skip
   all_goals refine bF (vs:=[.pointer (some ⟨b,0,none⟩), .int .i64 (k2:Nat), .bool false]) (enters_of Tryz.func88 rfl rfl) rfl rfl (c10 _ _ hR) ?_
   all_goals rintro _ w30 ⟨va,rfl,o30,h30,m30⟩
   all_goals refine ⟨_,rfl,?_⟩
   all_goals refine aB ?_
   all_goals have hM30:=m30.at hM hne
   all_goals have ha30:=m30.at ha hna
   all_goals have x30:Ext w w30:=hx.move m30 (by rintro k ⟨⟩;exact hbw)
   all_goals have oo30_0:=hq.mv m30 (.inr (hq.neBlock hR aK))
   all_goals (repeat' first|((with_reducible refine aZ ?_);go_step)|((with_reducible refine aS ?_);first|refine dN ?_|(refine bG ?_ ?_<;>intro hc))|fail)
   all_goals refine fA 9 va hM30 o30.one ?_
   all_goals intro w31 p31
   all_goals have hM31:w31.heap[c]? = some (.cells (aP ⟨((id:Nat):Int),(aW fl 32768),(((fl / 2048 &&& 15:Nat)):Int),(aW fl 1024),(aW fl 512),(aW fl 256),(aW fl 128),((fl &&& 15:Nat):Int),l,A9.1,[],[],0⟩ qv va (.slice none 0 0) (.slice none 0 0)).toArray 54 (0,0)):=p31.this
   all_goals have h31:=p31.mv.at h30 (by intro e;exact hne e.symm)
   all_goals have ha31:=p31.mv.at ha30 hnc
   all_goals have x31:=cJ x30 p31
   all_goals have oo31_0:=eM oo30_0 p31 hM30
   all_goals have oo31_1:=eM o30 p31 hM30
   all_goals (repeat' first|((with_reducible refine aZ ?_);go_step)|((with_reducible refine aS ?_);first|refine dN ?_|(refine bG ?_ ?_<;>intro hc))|fail)
   all_goals refine bF (vs:=[.pointer (some ⟨b,0,none⟩), .int .i64 (k3:Nat), .bool false]) (enters_of Tryz.func88 rfl rfl) rfl rfl (c11 _ _ h31) ?_
   all_goals rintro _ w32 ⟨vu,rfl,o32,h32,m32⟩
   all_goals refine ⟨_,rfl,?_⟩
   all_goals refine aB ?_
   all_goals have hM32:=m32.at hM31 hne
   all_goals have ha32:=m32.at ha31 hna
   all_goals have x32:Ext w w32:=x31.move m32 (by rintro k ⟨⟩;exact hbw)
   all_goals have oo32_0:=oo31_0.mv m32 (.inr (oo31_0.neBlock h31 aK))
   all_goals have oo32_1:=oo31_1.mv m32 (.inr (oo31_1.neBlock h31 aK))
   all_goals (repeat' first|((with_reducible refine aZ ?_);go_step)|((with_reducible refine aS ?_);first|refine dN ?_|(refine bG ?_ ?_<;>intro hc))|fail)
   all_goals refine fA 10 vu hM32 o32.one ?_
   all_goals intro w33 p33
   all_goals have hM33:w33.heap[c]? = some (.cells (aP ⟨((id:Nat):Int),(aW fl 32768),(((fl / 2048 &&& 15:Nat)):Int),(aW fl 1024),(aW fl 512),(aW fl 256),(aW fl 128),((fl &&& 15:Nat):Int),l,A9.1,U9.1,[],0⟩ qv va vu (.slice none 0 0)).toArray 54 (0,0)):=p33.this
   all_goals have h33:=p33.mv.at h32 (by intro e;exact hne e.symm)
   all_goals have ha33:=p33.mv.at ha32 hnc
   all_goals have x33:=cJ x32 p33
   all_goals have oo33_0:=eM oo32_0 p33 hM32
   all_goals have oo33_1:=eM oo32_1 p33 hM32
   all_goals have oo33_2:=eM o32 p33 hM32
   all_goals (repeat' first|((with_reducible refine aZ ?_);go_step)|((with_reducible refine aS ?_);first|refine dN ?_|(refine bG ?_ ?_<;>intro hc))|fail)
   all_goals refine bF (vs:=[.pointer (some ⟨b,0,none⟩), .int .i64 (k4:Nat), .bool true]) (enters_of Tryz.func88 rfl rfl) rfl rfl (c12 _ _ h33) ?_
   all_goals rintro _ w34 ⟨vx,rfl,o34,h34,m34⟩
   all_goals refine ⟨_,rfl,?_⟩
   all_goals refine aB ?_
   all_goals have hM34:=m34.at hM33 hne
   all_goals have ha34:=m34.at ha33 hna
   all_goals have x34:Ext w w34:=x33.move m34 (by rintro k ⟨⟩;exact hbw)
   all_goals have oo34_0:=oo33_0.mv m34 (.inr (oo33_0.neBlock h33 aK))
   all_goals have oo34_1:=oo33_1.mv m34 (.inr (oo33_1.neBlock h33 aK))
   all_goals have oo34_2:=oo33_2.mv m34 (.inr (oo33_2.neBlock h33 aK))
   all_goals (repeat' first|((with_reducible refine aZ ?_);go_step)|((with_reducible refine aS ?_);first|refine dN ?_|(refine bG ?_ ?_<;>intro hc))|fail)
   all_goals refine fA 11 vx hM34 o34.one ?_
   all_goals intro w35 p35
   all_goals have hM35:w35.heap[c]? = some (.cells (aP ⟨((id:Nat):Int),(aW fl 32768),(((fl / 2048 &&& 15:Nat)):Int),(aW fl 1024),(aW fl 512),(aW fl 256),(aW fl 128),((fl &&& 15:Nat):Int),l,A9.1,U9.1,X9.1,0⟩ qv va vu vx).toArray 54 (0,0)):=p35.this
   all_goals have h35:=p35.mv.at h34 (by intro e;exact hne e.symm)
   all_goals have ha35:=p35.mv.at ha34 hnc
   all_goals have x35:=cJ x34 p35
   all_goals have oo35_0:=eM oo34_0 p35 hM34
   all_goals have oo35_1:=eM oo34_1 p35 hM34
   all_goals have oo35_2:=eM oo34_2 p35 hM34
   all_goals have oo35_3:=eM o34 p35 hM34
   all_goals (repeat' first|((with_reducible refine aZ ?_);go_step)|((with_reducible refine aS ?_);first|refine dN ?_|(refine bG ?_ ?_<;>intro hc))|fail)
   all_goals refine fA 12 (.int .i64 (X9.2.1:Nat)) hM35 rfl ?_
   all_goals intro w36 p36
   all_goals have hM36:w36.heap[c]? = some (.cells (aP ⟨((id:Nat):Int),(aW fl 32768),(((fl / 2048 &&& 15:Nat)):Int),(aW fl 1024),(aW fl 512),(aW fl 256),(aW fl 128),((fl &&& 15:Nat):Int),l,A9.1,U9.1,X9.1,((X9.2.1:Nat):Int)⟩ qv va vu vx).toArray 54 (0,0)):=p36.this
   all_goals have h36:=p36.mv.at h35 (by intro e;exact hne e.symm)
   all_goals have ha36:=p36.mv.at ha35 hnc
   all_goals have x36:=cJ x35 p36
   all_goals have oo36_0:=eM oo35_0 p36 hM35
   all_goals have oo36_1:=eM oo35_1 p36 hM35
   all_goals have oo36_2:=eM oo35_2 p36 hM35
   all_goals have oo36_3:=eM oo35_3 p36 hM35
   all_goals (repeat' first|((with_reducible refine aZ ?_);go_step)|((with_reducible refine aS ?_);first|refine dN ?_|(refine bG ?_ ?_<;>intro hc))|fail)
   all_goals have hp36:=aA (cs:=yR s X9.2.2) h36
   all_goals (repeat' first|((with_reducible refine aZ ?_);go_step)|((with_reducible refine aS ?_);first|refine dN ?_|(refine bG ?_ ?_<;>intro hc))|fail)
   all_goals refine bF (vs:=[.pointer (some ⟨b,0,none⟩), .bool (decide (X9.2.2.at_=(s.length:Int))), .int .i64 2]) (enters_of Tryz.func85 rfl rfl) rfl rfl (c13 _ _ h36) ?_
   all_goals rintro _ w37 ⟨rfl,h37,m37⟩
   all_goals refine ⟨_,rfl,?_⟩
   all_goals refine aB ?_
   all_goals have hM37:=m37.at hM36 hne
   all_goals have ha37:=m37.at ha36 hna
   all_goals have x37:Ext w w37:=x36.move m37 (by rintro k ⟨⟩;exact hbw)
   all_goals have q0:=oo36_0.mv m37 (.inr (oo36_0.neBlock h36 aK))
   all_goals have q1:=oo36_1.mv m37 (.inr (oo36_1.neBlock h36 aK))
   all_goals have q2:=oo36_2.mv m37 (.inr (oo36_2.neBlock h36 aK))
   all_goals have q3:=oo36_3.mv m37 (.inr (oo36_3.neBlock h36 aK))
   all_goals have hmsg:MsgV w37 ⟨((id:Nat):Int),(aW fl 32768),(((fl / 2048 &&& 15:Nat)):Int),(aW fl 1024),(aW fl 512),(aW fl 256),(aW fl 128),((fl &&& 15:Nat):Int),l,A9.1,U9.1,X9.1,((X9.2.1:Nat):Int)⟩ qv va vu vx:=⟨q0.sl,q1.sl,q2.sl,q3.sl⟩
   all_goals clear hp36
   all_goals have hp37:=aA (cs:=yR s E9) h37
   all_goals have hpM:=aA (cs:=aP ⟨((id:Nat):Int),(aW fl 32768),(((fl / 2048 &&& 15:Nat)):Int),(aW fl 1024),(aW fl 512),(aW fl 256),(aW fl 128),((fl &&& 15:Nat):Int),l,A9.1,U9.1,X9.1,((X9.2.1:Nat):Int)⟩ qv va vu vx) hM37
   all_goals unfold aP at hpM
   all_goals (repeat' first|((with_reducible refine aZ ?_);go_step)|((with_reducible refine aS ?_);first|refine dN ?_|(refine bG ?_ ?_<;>intro hc))|fail)
   ·have ce:¬ E9.e=0:=by simpa using ‹(!decide (E9.e=0))=true›
    refine aO 6 (fun w'=>Pts w' (.pointer (some ⟨b,0,none⟩)) (yR s E9)) zDk ?_;intro w38 x38 _;have h38:=x38.at h37;have ha38:=x38.at ha37;have y38:=x37.trans x38;refine ⟨aA h38,?_⟩;refine yB (i:=0) (v:=.agg iW.toArray) rfl rfl (fun _=>Runs.build0 (by kernel_rfl)) ?_;refine aB ?_;refine bE 1 ?_;refine bE 2 ?_;refine bE 3 ?_;refine bE 4 ?_;refine dH 5 ?_;refine dL (v:=.agg iW.toArray) ha38 zDk fun w39 p39=>?_;have h39:=p39.mv.at h38 (by intro e;exact hna e.symm);have x39:=cJ y38 p39;refine aD ⟨aR (aA h39),?_⟩;refine dH 6 ?_
    ((with_reducible refine aS ?_);(first|(refine gV ?_;refine eS ?_)|(refine lY ?_;refine nR ?_;(with_reducible refine aS ?_);refine gV ?_;refine eS ?_)))
    refine aD ⟨aN rfl,?_⟩;refine jP ?_
    (repeat' first|((with_reducible refine aZ ?_);go_step)|((with_reducible refine aS ?_);first|refine dN ?_|(refine bG ?_ ?_<;>intro hc))|fail)
    refine uC (cs:=iW) p39.this ?_;rw [if_neg ce];exact ⟨.slice none 0 0, .slice none 0 0, .slice none 0 0, .slice none 0 0,rfl,⟨Own.nil _ _ _ _,Own.nil _ _ _ _,Own.nil _ _ _ _,Own.nil _ _ _ _⟩,x39⟩
   ·have ce:E9.e=0:=by simpa using ‹(!decide (E9.e=0))=false›
    refine dL (v:=.agg (aP ⟨((id:Nat):Int),(aW fl 32768),(((fl / 2048 &&& 15:Nat)):Int),(aW fl 1024),(aW fl 512),(aW fl 256),(aW fl 128),((fl &&& 15:Nat):Int),l,A9.1,U9.1,X9.1,((X9.2.1:Nat):Int)⟩ qv va vu vx).toArray) ha37 (dR hmsg) fun w38 p38=>?_;have x38:=cJ x37 p38;have y0:=eM q0 p38 ha37;have y1:=eM q1 p38 ha37;have y2:=eM q2 p38 ha37;have y3:=eM q3 p38 ha37
    (repeat' first|((with_reducible refine aZ ?_);go_step)|((with_reducible refine aS ?_);first|refine dN ?_|(refine bG ?_ ?_<;>intro hc))|fail)
    refine uC (cs:=aP ⟨((id:Nat):Int),(aW fl 32768),(((fl / 2048 &&& 15:Nat)):Int),(aW fl 1024),(aW fl 512),(aW fl 256),(aW fl 128),((fl &&& 15:Nat):Int),l,A9.1,U9.1,X9.1,((X9.2.1:Nat):Int)⟩ qv va vu vx) p38.this ?_;rw [if_pos ce];exact ⟨qv,va,vu,vx,rfl,⟨y0,y1.weaken hx.size,y2.weaken x31.size,y3.weaken x33.size⟩,x38⟩
   ·have ce:¬ E9.e=0:=by simpa using ‹(!decide (E9.e=0))=true›
    refine aO 6 (fun w'=>Pts w' (.pointer (some ⟨b,0,none⟩)) (yR s E9)) zDk ?_;intro w38 x38 _;have h38:=x38.at h37;have ha38:=x38.at ha37;have y38:=x37.trans x38;refine ⟨aA h38,?_⟩;refine yB (i:=0) (v:=.agg iW.toArray) rfl rfl (fun _=>Runs.build0 (by kernel_rfl)) ?_;refine aB ?_;refine bE 1 ?_;refine bE 2 ?_;refine bE 3 ?_;refine bE 4 ?_;refine dH 5 ?_;refine dL (v:=.agg iW.toArray) ha38 zDk fun w39 p39=>?_;have h39:=p39.mv.at h38 (by intro e;exact hna e.symm);have x39:=cJ y38 p39;refine aD ⟨aR (aA h39),?_⟩;refine dH 6 ?_
    ((with_reducible refine aS ?_);(first|(refine gV ?_;refine eS ?_)|(refine lY ?_;refine nR ?_;(with_reducible refine aS ?_);refine gV ?_;refine eS ?_)))
    refine aD ⟨aN rfl,?_⟩;refine jP ?_
    (repeat' first|((with_reducible refine aZ ?_);go_step)|((with_reducible refine aS ?_);first|refine dN ?_|(refine bG ?_ ?_<;>intro hc))|fail)
    refine uC (cs:=iW) p39.this ?_;rw [if_neg ce];exact ⟨.slice none 0 0, .slice none 0 0, .slice none 0 0, .slice none 0 0,rfl,⟨Own.nil _ _ _ _,Own.nil _ _ _ _,Own.nil _ _ _ _,Own.nil _ _ _ _⟩,x39⟩
   ·have ce:E9.e=0:=by simpa using ‹(!decide (E9.e=0))=false›
    refine dL (v:=.agg (aP ⟨((id:Nat):Int),(aW fl 32768),(((fl / 2048 &&& 15:Nat)):Int),(aW fl 1024),(aW fl 512),(aW fl 256),(aW fl 128),((fl &&& 15:Nat):Int),l,A9.1,U9.1,X9.1,((X9.2.1:Nat):Int)⟩ qv va vu vx).toArray) ha37 (dR hmsg) fun w38 p38=>?_;have x38:=cJ x37 p38;have y0:=eM q0 p38 ha37;have y1:=eM q1 p38 ha37;have y2:=eM q2 p38 ha37;have y3:=eM q3 p38 ha37
    (repeat' first|((with_reducible refine aZ ?_);go_step)|((with_reducible refine aS ?_);first|refine dN ?_|(refine bG ?_ ?_<;>intro hc))|fail)
    refine uC (cs:=aP ⟨((id:Nat):Int),(aW fl 32768),(((fl / 2048 &&& 15:Nat)):Int),(aW fl 1024),(aW fl 512),(aW fl 256),(aW fl 128),((fl &&& 15:Nat):Int),l,A9.1,U9.1,X9.1,((X9.2.1:Nat):Int)⟩ qv va vu vx) p38.this ?_;rw [if_pos ce];exact ⟨qv,va,vu,vx,rfl,⟨y0,y1.weaken hx.size,y2.weaken x31.size,y3.weaken x33.size⟩,x38⟩
theorem SV (s:List UInt8) (hs:s.length≤1000000):Calls Tryz.prog 41 #[aE s] w (fun e w'=>SS s e w w') :=
 (wJ s hs).mono fun _ _ ⟨q,a,u,x,e,⟨h1,h2,h3,h4⟩,hx⟩=>⟨q,a,u,x,e,⟨h1.sl,h2.sl,h3.sl,h4.sl⟩,hx⟩
def PA:MsgR:={ zeroM with resp:=true,rcode:=1 }
def qC (m:MsgR) (a:AnsR):MsgR:={ bareR m 0 with rcode:=if a.kind=2 then 3 else 0,auth := !decide (a.kind=3),an:=a.ans,au:=a.auth,ex:=a.extra }
def YF (m:MsgR) (h:HldR) (x:mU):MsgR:=if h.up=false∨nV h.o h.l x.1≠0∨h.o≠fold h.org then bareR m 2 else qC m (gW h.o h.l x.1 x.2)
def gF (hs:List HldR) (m:MsgR):MsgR :=
 if dY m≠0 then PA else if m.resp=true then bareR m 1 else if m.op≠0 then bareR m 4 else if m.qs.length≠1 then bareR m 1
 else if m.qs.head!.2=252∨m.qs.head!.2=251 then bareR m 4
 else match Bu hs m.qs.head!.1 with
  | none=>bareR m 5
  | some i=>YF m hs[i]! m.qs.head!
theorem GE (n:List UInt8):∀ (l:List HldR) (k:Nat) (b:Option Nat) (most:Int) (i:Nat),FZ n l k b most=some i→b=some i∨(k≤i∧i<k+l.length)
 | [],k,b,most,i,h=>.inl h
 | x::l,k,b,most,i,h=>by
   unfold FZ at h;split at h
   ·rcases GE n l (k+1) _ _ i h with e|e
    ·cases e
     exact .inr ⟨aC,aX⟩
    ·exact .inr ⟨aC,by simp;omega⟩
   ·rcases GE n l (k+1) _ _ i h with e|e
    ·exact .inl e
    ·exact .inr ⟨aC,by simp;omega⟩
theorem Al {hs:List HldR} (h:Bu hs n=some i):i<hs.length:=by
 rcases GE n hs 0 none (-1) i h with e|e
 ·cases e
 ·omega
structure MsgW (B:Nat) (w:World) (m:MsgR) (q a u e:Value):Prop where
 oq:Own B 2 25 w q (cV m.qs)
 oa:Own B 4 37 w a (aF m.an)
 ou:Own B 4 37 w u (aF m.au)
 oe:Own B 4 37 w e (aF m.ex)
theorem MsgW.msg {m:MsgR} {q a e:Value} (h:MsgW B w m q a u e):MsgV w m q a u e:=⟨h.oq.sl,h.oa.sl,h.ou.sl,h.oe.sl⟩
theorem MsgW.ext {m:MsgR} {q a e:Value} (h:MsgW B w m q a u e) (x:Ext w w'):MsgW B w' m q a u e:=⟨h.oq.ext x,h.oa.ext x,h.ou.ext x,h.oe.ext x⟩
theorem MsgW.weaken {C:Nat} {m:MsgR} {q a e:Value} (h:MsgW B w m q a u e) (x:C≤B):MsgW C w m q a u e:=⟨h.oq.weaken x,h.oa.weaken x,h.ou.weaken x,h.oe.weaken x⟩
theorem MsgW.box {m:MsgR} {q a e:Value} (h:MsgW B w m q a u e) (hb:w.heap[b]? = some (.cells cs 54 fz)) (hm:Mv (some b) w w'):MsgW B w' m q a u e :=
 ⟨h.oq.mv hm (.inr (h.oq.neBlock hb aK)),h.oa.mv hm (.inr (h.oa.neBlock hb aK)),h.ou.mv hm (.inr (h.ou.neBlock hb aK)),h.oe.mv hm (.inr (h.oe.neBlock hb aK))⟩
def Da (w:World) (M:MsgR):Value→World→Prop:=fun r w'=>∃ q a u e,r=.agg (aP M q a u e).toArray∧MsgW w.heap.size w' M q a u e
theorem WI (v:Value) (hs:List HldR) (m:MsgR) (q a u e:Value) (w:World) (hv:HldsAt w v hs) (hm:MsgV w m q a u e) (hl:hs.length≤1000) (hb:∀ h∈hs,∀ s∈h.l,s.data.length≤1000000):Calls Tryz.prog 91 #[v, .agg (aP m q a u e).toArray] w (kZ w (Da w (gF hs m))):=by
 obtain ⟨css,hsl,hcl⟩:=hv.sl;go_enter Tryz.func91,Tryz.ntmps91
 refine_lift mT fun _ _=>?_;refine jO (vs:=aP m q a u e) fun w1 x1 s1 hb1=>?_;refine aB ?_;refine dX (z:=iW) fun w2 x2 s2 hz2=>?_;refine aB ?_;have x02:=x1.trans x2;have hpM:=aA (cs:=aP m q a u e) (x2.at hb1);unfold aP at hpM;have hm2:=hm.ext x02;refine_lift mH fun _ _ _ _=>?_;refine cB (BC m q a u e _ hm2) fun w3 x3=>?_;have x03:=x02.trans x3;have hz3:=x3.at hz2;have hm3:=hm2.ext x3;have hpM:=hpM.ext x3;by_cases cc:dY m=0
 ·have hok:=wG cc;have hlq:m.qs.length≤1000:=by have:=hok.ql;omega
  have hql:=eR m.qs;cases cr:m.resp with
  | true =>
   have hR:gF hs m=bareR m 1:=by unfold gF;rw [if_neg (by simpa using cc),if_pos cr]
   rw [cr]at hpM;refine_lift BX (fun _ _ _=>?_) (fun _ _ _=>?_)
   all_goals first
    | (exfalso;omega)
    | (exfalso;rename_i hz9;simp at hz9;omega)
    | (exfalso;simp_all;done)
    | skip
   rw [← cr];refine gY (nX m q a u e 1 _ (hm3) hlq) ?_;intro _ wb xb ⟨qb,er,ob⟩;subst er;refine aB ?_;have hmb:MsgV wb (bareR m 1) qb aI aI aI:=⟨ob.sl,Sl.nil _ _,Sl.nil _ _,Sl.nil _ _⟩;have hzb:=xb.at hz3;refine dL (v:=.agg (aP (bareR m 1) qb aI aI aI).toArray) hzb (dR hmb) fun wc pc=>?_;have xc:=cJ ((x03).trans xb) pc;refine_lift aT ?_;refine JR (cs:=aP (bareR m 1) qb aI aI aI) pc.this ⟨_,rfl,xc,qb,aI,aI,aI,by rw [hR],?_⟩;rw [hR];exact ⟨(eM ob pc hzb).weaken (x03).size,Own.nil _ _ _ _,Own.nil _ _ _ _,Own.nil _ _ _ _⟩
  | false =>
   have hR0:gF hs m=_:=rfl
   conv at hR0=>rhs;unfold gF;rw [if_neg (by simpa using cc),if_neg (by rw [cr];decide)]
   rw [cr]at hpM;by_cases co:m.op=0
   ·rw [if_neg (by simpa using co)]at hR0;have hq3:=hm3.qs;by_cases c1:m.qs.length=1
    ·rw [if_neg (by simpa using c1)]at hR0;obtain ⟨⟨xn,xk⟩,hx1⟩:∃ x,m.qs=[x]:=List.length_eq_one_iff.1 c1;have hxh:m.qs.head! = (xn,xk):=by rw [hx1];rfl
     rw [hxh]at hR0;dsimp only at hR0;have hqe:=hq3.elem (i:=0) (e:=[aE xn, .int .i64 xk]) (by rw [hx1];rfl);refine_lift KC (fun _ _ _ _=>?_) (fun _ _ _ _ _=>?_) (fun _ _ _ _ _=>?_) (fun _ _ _=>?_)
     all_goals first
      | (exfalso;omega)
      | (exfalso;rename_i hz9;simp at hz9;omega)
      | (exfalso;simp_all;done)
      | skip
     refine dX (z:=[aE [], .int .i64 0]) fun w4 x4 s4 h4=>?_;refine aB ?_;refine dL (v:=.agg #[aE xn, .int .i64 xk]) h4 (OZ rfl rfl) fun w5 p5=>?_;have x5:=cJ x4 p5;have hpx:=aA (cs:=[aE xn, .int .i64 xk]) p5.this;have hpM:=hpM.ext x5;have hm5:=hm3.ext x5;have hz5:=x5.at hz3;have x05:=x03.trans x5;clear p5 h4 x4 hqe;generalize w3.heap.size=c at *;by_cases ct:xk=252∨xk=251
     ·have hR:gF hs m=bareR m 4:=by rw [hR0,if_pos ct]
      refine_lift Cc (fun _ _ hc _ _=>?_) (fun _ _ hc _ _ _=>?_)
      all_goals first
       | (exfalso;omega)
       | skip
      all_goals rw [← cr]
      all_goals refine gY (nX m q a u e 4 _ (hm5) hlq) ?_
      all_goals intro _ wb xb ⟨qb,er,ob⟩
      all_goals subst er
      all_goals refine aB ?_
      all_goals have hmb:MsgV wb (bareR m 4) qb aI aI aI:=⟨ob.sl,Sl.nil _ _,Sl.nil _ _,Sl.nil _ _⟩
      all_goals have hzb:=xb.at hz5
      all_goals refine dL (v:=.agg (aP (bareR m 4) qb aI aI aI).toArray) hzb (dR hmb) ?_
      all_goals intro wc pc
      all_goals have xc:=cJ ((x05).trans xb) pc
      all_goals refine_lift aT ?_
      all_goals refine JR (cs:=aP (bareR m 4) qb aI aI aI) pc.this ⟨_,rfl,xc,qb,aI,aI,aI,by rw [hR],?_⟩
      all_goals rw [hR]
      all_goals exact ⟨(eM ob pc hzb).weaken (x05).size,Own.nil _ _ _ _,Own.nil _ _ _ _,Own.nil _ _ _ _⟩
     ·rw [if_neg ct]at hR0
      (repeat' first|((with_reducible refine aZ ?_);go_step)|((with_reducible refine aS ?_);first|refine dN ?_|(refine bG ?_ ?_<;>intro hc))|fail)
      all_goals first
       | (exfalso;omega)
       | skip
      refine cB (Ev v hs xn _ (hv.ext x05) hl) fun w6 x6=>?_;have hpM:=hpM.ext x6;have hpx:=hpx.ext x6;have hm6:=hm5.ext x6;have hz6:=x6.at hz5;have x06:=x05.trans x6;cases hof:Bu hs xn with
      | none =>
       rw [hof]at hR0;have hR:gF hs m=bareR m 5:=hR0;refine_lift mH fun _ _ _ _=>?_;rw [← cr];refine gY (nX m q a u e 5 _ (hm6) hlq) ?_;intro _ wb xb ⟨qb,er,ob⟩;subst er;refine aB ?_;have hmb:MsgV wb (bareR m 5) qb aI aI aI:=⟨ob.sl,Sl.nil _ _,Sl.nil _ _,Sl.nil _ _⟩;have hzb:=xb.at hz6;refine dL (v:=.agg (aP (bareR m 5) qb aI aI aI).toArray) hzb (dR hmb) fun wc pc=>?_;have xc:=cJ ((x06).trans xb) pc;refine_lift aT ?_;refine JR (cs:=aP (bareR m 5) qb aI aI aI) pc.this ⟨_,rfl,xc,qb,aI,aI,aI,by rw [hR],?_⟩;rw [hR];exact ⟨(eM ob pc hzb).weaken (x06).size,Own.nil _ _ _ _,Own.nil _ _ _ _,Own.nil _ _ _ _⟩
      | some i =>
       rw [hof]at hR0;dsimp only at hR0;have hil:=Al hof;have hbang:hs[i]! = hs[i]:=getElem!_pos hs i hil;rw [hbang]at hR0;obtain ⟨y,hel,hsy⟩:=(hv.ext x06).elem (List.getElem?_eq_getElem hil);have hbi:=hb _ (List.getElem_mem hil);generalize hs[i]=H at *;obtain ⟨ep,hep⟩:∃ ep,Et v (some i)=ep:=⟨_,rfl⟩;have hep2:cC v (i*4)=ep:=hep;rw [hep];rw [hep2]at hel;obtain ⟨pb,po,hpe⟩:∃ pb po,ep=.pointer (some ⟨pb,po,none⟩):=by obtain ⟨b,o,h,_⟩:=hel.out;exact ⟨b,o,h⟩
       subst hpe;refine_lift bU fun _ _=>?_;have hH:YF m H (xn,xk)=if H.up=false∨nV H.o H.l xn≠0∨H.o≠fold H.org then bareR m 2 else qC m (gW H.o H.l xn xk):=rfl
       rw [hH]at hR0;have hcA:∀ w',Ext w6 w'→Calls Tryz.prog 26 #[.agg #[aE H.o,y], .agg #[aE xn, .int .i64 xk]] w' (kZ w' fun r w3=>∃ z,r=.tuple #[z, .int .i64 (nV H.o H.l xn)]∧AnsO w'.heap.size (gW H.o H.l xn xk) z w3):=fun w' x'=>XU H.o y H.l xn xk w' (hsy.ext x') hbi;generalize nV H.o H.l xn=E at *;generalize gW H.o H.l xn xk=A at *;have hel0:Pts w6 (aV (.pointer (some ⟨pb,po,none⟩)) 0) [aE H.o,y]:=(hel.front 2).part 0;refine cQ (S:=fun w'=>Ext w6 w') zDk ?_;intro w21 x21 hh21;refine dM 0 ?_;refine aB ?_;refine dM 1 ?_;refine aB ?_;refine dM 2 ?_;refine aB ?_;refine dM 3 ?_;refine aB ?_;refine dM 4 ?_;refine aB ?_;refine UR 5 6 7 8 9 10 61 55 62 63 7 (fun b1 b2 b3 b4 b5 b6=>(!b2||b1)&&(!b3||b2)&&(!b4||b2)&&(!b6||b1)&&(!b6||b3)&&(!b6||b5)) (fun b1 b2 b3 b4 b5 b6 => !b2 && !b6) (fun b1 b2 b3 b4 b5 b6=>b1 && !b3 && !b4) (fun b1 b2 b3 b4 b5 b6=>b2 && !b6) (fun b1 b2 b3 b4 b5 b6=>b2) (fun b1 b2 b3 b4 b5 b6 => !b6) (fun b1 b2 b3 b4 b5 b6=>b1&&b3&&b5) (fun b1 b2 b3 b4 b5 b6 v1 v2 v3 v4 v5 w'=>∃ u1 u2 u3 zk,Ext w6 w'∧(b1=true→v1=.tuple #[.agg #[.int .i64 A.kind,u1,u2,u3], .int .i64 E]∧Own w6.heap.size 4 37 w' u1 (aF A.ans)∧Own w6.heap.size 4 37 w' u2 (aF A.auth)∧Own w6.heap.size 4 37 w' u3 (aF A.extra))∧(b2=true→v2=.tuple #[.agg #[.int .i64 A.kind,u1,u2,u3], .int .i64 E])∧(b3=true→v3=.agg #[.int .i64 A.kind,u1,u2,u3])∧(b4=true→v4=.int .i64 E)∧(b5=true→v5=.pointer (some ⟨zk,0,none⟩)∧w6.heap.size≤zk∧w'.heap[zk]? = some (.cells (bif b6 then [.int .i64 A.kind,u1,u2,u3]else yD).toArray 74 (0,0)))) ?_ ?_ ?_ ?_ ?_ ?_ ?_ ?_
       ·exact ⟨undef,undef,undef,0,x21,aX,aX,aX,aX,aX⟩
       ·rintro b1 b2 b3 b4 b5 b6 v1 v2 v3 v4 v5 w2 hq ⟨u1,u2,u3,zk,x2,f1,f2,f3,f4,f5⟩;have hb2:b2=false:=by revert hq;cases b2<;>simp
        have hb6:b6=false:=by revert hq;cases b6<;>simp
        have hb3:b3=false:=by revert hq;subst hb2;cases b3<;>simp
        have hb4:b4=false:=by revert hq;subst hb2;cases b4<;>simp
        subst hb2 hb3 hb4 hb6;refine aB ?_;refine gY (hcA _ x2) ?_;rintro _ w3 x3 ⟨z,rfl,u1',u2',u3',rfl,o1,o2,o3⟩;refine aB ?_;refine aD ⟨x2.trans x3,_,rfl,u1',u2',u3',zk,x2.trans x3,fun _=>⟨rfl,o1.weaken x2.size,o2.weaken x2.size,o3.weaken x2.size⟩,aX,aX,aX,fun e=>?_⟩;obtain ⟨g1,g2,g3⟩:=f5 e;exact ⟨g1,g2,x3.at g3⟩
       ·rintro b1 b2 b3 b4 b5 b6 v1 v2 v3 v4 v5 w2 hq ⟨u1,u2,u3,zk,x2,f1,f2,f3,f4,f5⟩;have hb1:b1=true:=by revert hq;cases b1<;>simp
        have hb3:b3=false:=by revert hq;cases b3<;>simp
        have hb4:b4=false:=by revert hq;cases b4<;>simp
        subst hb1 hb3 hb4;obtain ⟨rfl,g1⟩:=f1 rfl;refine aB ?_
        ((with_reducible refine aS ?_);(first|(refine gV ?_;refine eS ?_)|(refine lY ?_;refine nR ?_;(with_reducible refine aS ?_);refine gV ?_;refine eS ?_)))
        refine aD ⟨x2,_,rfl,u1,u2,u3,zk,x2,fun _=>⟨rfl,g1⟩,fun _=>rfl,aX,aX,f5⟩
       ·rintro b1 b2 b3 b4 b5 b6 v1 v2 v3 v4 v5 w2 hq ⟨u1,u2,u3,zk,x2,f1,f2,f3,f4,f5⟩;have hb2:b2=true:=by revert hq;cases b2<;>simp
        have hb6:b6=false:=by revert hq;cases b6<;>simp
        subst hb2 hb6;have g2:=f2 rfl;subst g2;refine aB ?_
        ((with_reducible refine aS ?_);(first|(refine gV ?_;refine eS ?_)|(refine lY ?_;refine nR ?_;(with_reducible refine aS ?_);refine gV ?_;refine eS ?_)))
        refine aD ⟨x2,_,rfl,u1,u2,u3,zk,x2,f1,fun _=>rfl,fun _=>rfl,f4,f5⟩
       ·rintro b1 b2 b3 b4 b5 b6 v1 v2 v3 v4 v5 w2 hq ⟨u1,u2,u3,zk,x2,f1,f2,f3,f4,f5⟩;have hb2:b2=true:=by revert hq;cases b2<;>simp
        subst hb2;have g2:=f2 rfl;subst g2;refine aB ?_
        ((with_reducible refine aS ?_);(first|(refine gV ?_;refine eS ?_)|(refine lY ?_;refine nR ?_;(with_reducible refine aS ?_);refine gV ?_;refine eS ?_)))
        refine aD ⟨x2,_,rfl,u1,u2,u3,zk,x2,f1,fun _=>rfl,f3,fun _=>rfl,f5⟩
       ·rintro b1 b2 b3 b4 b5 b6 v1 v2 v3 v4 v5 w2 hq ⟨u1,u2,u3,zk,x2,f1,f2,f3,f4,f5⟩;have hb6:b6=false:=by revert hq;cases b6<;>simp
        subst hb6;refine aB ?_;refine dX (z:=yD) fun w3 x3 s3 h3=>?_;refine aB ?_;refine aD ⟨x2.trans x3,_,rfl,u1,u2,u3,_,x2.trans x3,fun e=>?_,f2,f3,f4,fun _=>⟨rfl,x2.size,h3⟩⟩;obtain ⟨g1,g2,g3,g4⟩:=f1 e;exact ⟨g1,g2.ext x3,g3.ext x3,g4.ext x3⟩
       ·rintro b1 b2 b3 b4 b5 b6 v1 v2 v3 v4 v5 w2 hq ⟨u1,u2,u3,zk,x2,f1,f2,f3,f4,f5⟩;have hb1:b1=true:=by revert hq;cases b1<;>simp
        have hb3:b3=true:=by revert hq;cases b3<;>simp
        have hb5:b5=true:=by revert hq;cases b5<;>simp
        subst hb1 hb3 hb5;have g3:=f3 rfl;subst g3;obtain ⟨rfl,g5,g6⟩:=f5 rfl;obtain ⟨e1,o1,o2,o3⟩:=f1 rfl;refine aB ?_;refine dL (v:=.agg #[.int .i64 A.kind,u1,u2,u3]) g6 (gE rfl o1.one o2.one o3.one) fun w3 p3=>?_;have x3:=cJ x2 p3;refine aD ⟨x3,rfl,u1,u2,u3,zk,x3,fun _=>⟨e1,eM o1 p3 g6,eM o2 p3 g6,eM o3 p3 g6⟩,f2,fun _=>rfl,f4,fun _=>⟨rfl,g5,p3.this⟩⟩
       ·rintro v1 v2 v3 v4 v5 w9 ⟨u1,u2,u3,zk,x9,f1,f2,f3,f4,f5⟩;obtain ⟨g1,o1,o2,o3⟩:=f1 rfl;have k2:=f2 rfl;have k3:=f3 rfl;have k4:=f4 rfl;obtain ⟨k5,k6,k7⟩:=f5 rfl;clear f1 f2 f3 f4 f5;subst g1 k2 k3 k4 k5;refine aB ?_;refine dM 11 ?_;refine aB ?_;refine cO zDk ?_;have k7':w9.heap[zk]? = some (.cells [.int .i64 A.kind,u1,u2,u3].toArray 74 (0,0)):=k7;have hpa:=aA (cs:=[.int .i64 A.kind,u1,u2,u3]) k7';have hpM:=hpM.ext x9;have hel:=hel.ext x9;have hm9:=hm6.ext x9;have hz9:=x9.at hz6;have x09:=x06.trans x9;clear k7 hcA hpx x21 hh21;clear hel0;have hcF:∀ w',Calls Tryz.prog 53 #[aE H.org] w' (bC w' (aE (fold H.org))):=fun w'=>vQ H.org w';refine_lift mH fun _ _ _ _=>?_;cases hup:H.up with
        | false =>
         rw [hup]at hel hR0;rw [if_pos (.inl rfl)]at hR0;refine dA zDk zDk ?_;refine_lift vO ?_;intro w10 x10;have hpM:=hpM.ext x10;refine_lift bU fun _ _=>?_;rw [← cr];refine gY (nX m q a u e 2 _ (hm9.ext x10) hlq) ?_;intro _ wb xb ⟨qb,er,ob⟩;subst er;refine aB ?_;have hmb:MsgV wb (bareR m 2) qb aI aI aI:=⟨ob.sl,Sl.nil _ _,Sl.nil _ _,Sl.nil _ _⟩;have hzb:=xb.at (x10.at hz9);refine dL (v:=.agg (aP (bareR m 2) qb aI aI aI).toArray) hzb (dR hmb) fun wc pc=>?_;have xc:=cJ ((x09.trans x10).trans xb) pc;refine_lift aT ?_;refine JR (cs:=aP (bareR m 2) qb aI aI aI) pc.this ⟨_,rfl,xc,qb,aI,aI,aI,by rw [hR0],?_⟩;rw [hR0];exact ⟨(eM ob pc hzb).weaken (x09.trans x10).size,Own.nil _ _ _ _,Own.nil _ _ _ _,Own.nil _ _ _ _⟩
        | true =>
         rw [hup]at hel hR0;by_cases hE0:E=0
         ·refine dA zDk zDk ?_;refine_lift vO ?_;rw [show (!decide (E=0))=false by rw [hE0];rfl];refine_lift vO ?_;refine hO (enters_of Tryz.func53 rfl rfl) rfl rfl (fun w' x'=>hcF w') ?_;refine aB ?_;refine_lift vO ?_;intro w10 x10;have hpM:=hpM.ext x10;have hpa:=hpa.ext x10;have hm10:=hm9.ext x10;have hz10:=x10.at hz9;have x010:=x09.trans x10;by_cases ho:H.o=fold H.org
          ·rw [if_neg (by rintro (h|h|h);cases h;exact h hE0;exact h ho)]at hR0;refine_lift BX (fun _ _ _=>?_) (fun _ _ _=>?_)
           all_goals first
            | (exfalso;have hh9:=‹(!decide (H.o=fold H.org))=true›;rw [decide_eq_true ho]at hh9;cases hh9;done)
            | skip
           rw [← cr];refine gY (nX m q a u e 0 _ hm10 hlq) ?_;intro _ wb xb ⟨qb,er,ob⟩;subst er;refine aB ?_;refine dX (z:=iW) fun w11 x11 s11 h11=>?_;refine aB ?_;have hmb:MsgV w11 (bareR m 0) qb aI aI aI:=⟨(ob.ext x11).sl,Sl.nil _ _,Sl.nil _ _,Sl.nil _ _⟩;refine dL (v:=.agg (aP (bareR m 0) qb aI aI aI).toArray) h11 (dR hmb) fun w12 p12=>?_;have x12:=cJ x11 p12;have hB:w12.heap[wb.heap.size]? = some (.cells (aP (bareR m 0) qb aI aI aI).toArray 54 (0,0)):=p12.this;have x9b:Ext w9 w12:=x10.trans (xb.trans x12);have ob12:=ob.ext x12;have q1:=o1.one;have q2:=o2.one;have q3:=o3.one;have hza10:=x10.at k7';have hzkl:=(Array.getElem?_eq_some_iff.1 hza10).1;have x10b:=xb.trans x12;have hBB:w10.heap.size≤wb.heap.size:=xb.size;have hpa0:=hpa;have hpa:=hpa.ext x10b;clear p12 h11 x11 hmb hpM;have hzB:some zk≠some wb.heap.size:=by intro e9;have:=Option.some.inj e9;omega
           generalize wb.heap.size=BB at *;have hpB:=aA (cs:=aP (bareR m 0) qb aI aI aI) hB;unfold aP bareR at hpB;by_cases k2:A.kind=2
           ·refine_lift lQ fun _ _ _=>?_
            all_goals first
             | (exfalso;omega)
             | skip
            refine fA 7 (.int .i64 3) hB rfl fun w13 p13=>?_;have x13:=cJ x10b p13;have hB13:w13.heap[BB]? = some (.cells [.int .i64 m.id, .bool true, .int .i64 m.op, .bool false, .bool false, .bool m.want, .bool false, .int .i64 3,qb,aI,aI,aI, .int .i64 (if m.size=0 then 0 else 1232)].toArray 54 (0,0)):=p13.this;have ob13:=eM ob12 p13 hB;clear hpB hpa;have hpa:=hpa0.ext x13;have hpB:=True.intro;refine_lift bU fun _ _=>?_;refine fA 3 (.bool (!decide (A.kind=3))) hB13 rfl fun w14 p14=>?_;have x14:=cJ (x13) p14;have hB14:w14.heap[BB]? = some (.cells [.int .i64 m.id, .bool true, .int .i64 m.op, .bool (!decide (A.kind=3)), .bool false, .bool m.want, .bool false, .int .i64 3,qb,aI,aI,aI, .int .i64 (if m.size=0 then 0 else 1232)].toArray 54 (0,0)):=p14.this;have ob14:=eM (ob13) p14 hB13;clear hpB;have hpa:=hpa0.ext x14;refine_lift bU fun _ _=>?_;refine aO 11 (fun w'=>Pts w' (.pointer (some ⟨zk,0,none⟩)) [.int .i64 A.kind,u1,u2,u3]) zDk ?_;intro w15 x15 _;have hza15:=x15.at (x14.at hza10);have hB15:=x15.at hB14;have x105:=x14.trans x15;have ob15:=ob14.ext x15;refine ⟨aA (cs:=[.int .i64 A.kind,u1,u2,u3]) hza15,?_⟩;refine bE 0 ?_;refine bE 1 ?_;refine bE 2 ?_;refine bE 3 ?_;refine bE 4 ?_;refine bE 5 ?_;refine cZ 6 ?_;refine dH 7 ?_;refine fA 9 u1 hB15 q1 fun w16 p16=>?_;have hza16:=p16.mv.at hza15 hzB;have hB16:w16.heap[BB]? = some (.cells [.int .i64 m.id, .bool true, .int .i64 m.op, .bool (!decide (A.kind=3)), .bool false, .bool m.want, .bool false, .int .i64 3,qb,u1,aI,aI, .int .i64 (if m.size=0 then 0 else 1232)].toArray 54 (0,0)):=p16.this;have x16:=cJ x105 p16;have ob16:=eM ob15 p16 hB15;refine aD ⟨aR (aA (cs:=[.int .i64 A.kind,u1,u2,u3]) hza16),?_⟩;refine cZ 8 ?_;refine dH 9 ?_;refine fA 10 u2 hB16 q2 fun w17 p17=>?_;have hza17:=p17.mv.at hza16 hzB;have hB17:w17.heap[BB]? = some (.cells [.int .i64 m.id, .bool true, .int .i64 m.op, .bool (!decide (A.kind=3)), .bool false, .bool m.want, .bool false, .int .i64 3,qb,u1,u2,aI, .int .i64 (if m.size=0 then 0 else 1232)].toArray 54 (0,0)):=p17.this;have x17:=cJ x16 p17;have ob17:=eM ob16 p17 hB16;refine aD ⟨aR (aA (cs:=[.int .i64 A.kind,u1,u2,u3]) hza17),?_⟩;refine cZ 10 ?_;refine dH 11 ?_;refine fA 11 u3 hB17 q3 fun w18 p18=>?_;have hB18:w18.heap[BB]? = some (.cells [.int .i64 m.id, .bool true, .int .i64 m.op, .bool (!decide (A.kind=3)), .bool false, .bool m.want, .bool false, .int .i64 3,qb,u1,u2,u3, .int .i64 (if m.size=0 then 0 else 1232)].toArray 54 (0,0)):=p18.this;have x18:=cJ x17 p18;have ob18:=eM ob17 p18 hB17;refine aD ⟨aN rfl,?_⟩;refine jP ?_;have hT:qC m A=⟨m.id,true,m.op,!decide (A.kind=3),false,m.want,false,3,m.qs,A.ans,A.auth,A.extra,if m.size=0 then 0 else 1232⟩:=by
             unfold qC bareR;rw [if_pos k2]
            have hpC:=aA (cs:=[.int .i64 m.id, .bool true, .int .i64 m.op, .bool (!decide (A.kind=3)), .bool false, .bool m.want, .bool false, .int .i64 3,qb,u1,u2,u3, .int .i64 (if m.size=0 then 0 else 1232)]) hB18;refine_lift bU fun _ _=>?_;have xe:Ext w9 w18:=x10.trans x18;have hmF:MsgV w18 (qC m A) qb u1 u2 u3:=by
             rw [hT];exact ⟨ob18.sl,(o1.ext xe).sl,(o2.ext xe).sl,(o3.ext xe).sl⟩
            have hzF:=x18.at hz10;refine dB (v:=.agg (aP (qC m A) qb u1 u2 u3).toArray) rfl rfl (by rw [hT];rfl) hzF (zDk:dG Tryz.prog 54 13=true) rfl (dR hmF) ?_;intro w19 p19;have x19:=cJ (x09.trans xe) p19;refine_lift aT ?_;refine JR (cs:=aP (qC m A) qb u1 u2 u3) p19.this ⟨_,rfl,x19,qb,u1,u2,u3,by rw [hR0],?_⟩;rw [hR0,hT];have f0:=eM ob18 p19 hzF;have f1:=eM (o1.ext xe) p19 hzF;have f2:=eM (o2.ext xe) p19 hzF;have f3:=eM (o3.ext xe) p19 hzF;exact ⟨f0.weaken x010.size,f1.weaken x06.size,f2.weaken x06.size,f3.weaken x06.size⟩
           ·refine_lift lQ fun _ _ _=>?_
            all_goals first
             | (exfalso;omega)
             | skip
            have hB13:w12.heap[BB]? = some (.cells [.int .i64 m.id, .bool true, .int .i64 m.op, .bool false, .bool false, .bool m.want, .bool false, .int .i64 0,qb,aI,aI,aI, .int .i64 (if m.size=0 then 0 else 1232)].toArray 54 (0,0)):=hB;refine fA 3 (.bool (!decide (A.kind=3))) hB13 rfl fun w14 p14=>?_;have x14:=cJ (x10b) p14;have hB14:w14.heap[BB]? = some (.cells [.int .i64 m.id, .bool true, .int .i64 m.op, .bool (!decide (A.kind=3)), .bool false, .bool m.want, .bool false, .int .i64 0,qb,aI,aI,aI, .int .i64 (if m.size=0 then 0 else 1232)].toArray 54 (0,0)):=p14.this;have ob14:=eM (ob12) p14 hB13;clear hpB;have hpa:=hpa0.ext x14;refine_lift bU fun _ _=>?_;refine aO 11 (fun w'=>Pts w' (.pointer (some ⟨zk,0,none⟩)) [.int .i64 A.kind,u1,u2,u3]) zDk ?_;intro w15 x15 _;have hza15:=x15.at (x14.at hza10);have hB15:=x15.at hB14;have x105:=x14.trans x15;have ob15:=ob14.ext x15;refine ⟨aA (cs:=[.int .i64 A.kind,u1,u2,u3]) hza15,?_⟩;refine bE 0 ?_;refine bE 1 ?_;refine bE 2 ?_;refine bE 3 ?_;refine bE 4 ?_;refine bE 5 ?_;refine cZ 6 ?_;refine dH 7 ?_;refine fA 9 u1 hB15 q1 fun w16 p16=>?_;have hza16:=p16.mv.at hza15 hzB;have hB16:w16.heap[BB]? = some (.cells [.int .i64 m.id, .bool true, .int .i64 m.op, .bool (!decide (A.kind=3)), .bool false, .bool m.want, .bool false, .int .i64 0,qb,u1,aI,aI, .int .i64 (if m.size=0 then 0 else 1232)].toArray 54 (0,0)):=p16.this;have x16:=cJ x105 p16;have ob16:=eM ob15 p16 hB15;refine aD ⟨aR (aA (cs:=[.int .i64 A.kind,u1,u2,u3]) hza16),?_⟩;refine cZ 8 ?_;refine dH 9 ?_;refine fA 10 u2 hB16 q2 fun w17 p17=>?_;have hza17:=p17.mv.at hza16 hzB;have hB17:w17.heap[BB]? = some (.cells [.int .i64 m.id, .bool true, .int .i64 m.op, .bool (!decide (A.kind=3)), .bool false, .bool m.want, .bool false, .int .i64 0,qb,u1,u2,aI, .int .i64 (if m.size=0 then 0 else 1232)].toArray 54 (0,0)):=p17.this;have x17:=cJ x16 p17;have ob17:=eM ob16 p17 hB16;refine aD ⟨aR (aA (cs:=[.int .i64 A.kind,u1,u2,u3]) hza17),?_⟩;refine cZ 10 ?_;refine dH 11 ?_;refine fA 11 u3 hB17 q3 fun w18 p18=>?_;have hB18:w18.heap[BB]? = some (.cells [.int .i64 m.id, .bool true, .int .i64 m.op, .bool (!decide (A.kind=3)), .bool false, .bool m.want, .bool false, .int .i64 0,qb,u1,u2,u3, .int .i64 (if m.size=0 then 0 else 1232)].toArray 54 (0,0)):=p18.this;have x18:=cJ x17 p18;have ob18:=eM ob17 p18 hB17;refine aD ⟨aN rfl,?_⟩;refine jP ?_;have hT:qC m A=⟨m.id,true,m.op,!decide (A.kind=3),false,m.want,false,0,m.qs,A.ans,A.auth,A.extra,if m.size=0 then 0 else 1232⟩:=by
             unfold qC bareR;rw [if_neg k2]
            have hpC:=aA (cs:=[.int .i64 m.id, .bool true, .int .i64 m.op, .bool (!decide (A.kind=3)), .bool false, .bool m.want, .bool false, .int .i64 0,qb,u1,u2,u3, .int .i64 (if m.size=0 then 0 else 1232)]) hB18;refine_lift bU fun _ _=>?_;have xe:Ext w9 w18:=x10.trans x18;have hmF:MsgV w18 (qC m A) qb u1 u2 u3:=by
             rw [hT];exact ⟨ob18.sl,(o1.ext xe).sl,(o2.ext xe).sl,(o3.ext xe).sl⟩
            have hzF:=x18.at hz10;refine dB (v:=.agg (aP (qC m A) qb u1 u2 u3).toArray) rfl rfl (by rw [hT];rfl) hzF (zDk:dG Tryz.prog 54 13=true) rfl (dR hmF) ?_;intro w19 p19;have x19:=cJ (x09.trans xe) p19;refine_lift aT ?_;refine JR (cs:=aP (qC m A) qb u1 u2 u3) p19.this ⟨_,rfl,x19,qb,u1,u2,u3,by rw [hR0],?_⟩;rw [hR0,hT];have f0:=eM ob18 p19 hzF;have f1:=eM (o1.ext xe) p19 hzF;have f2:=eM (o2.ext xe) p19 hzF;have f3:=eM (o3.ext xe) p19 hzF;exact ⟨f0.weaken x010.size,f1.weaken x06.size,f2.weaken x06.size,f3.weaken x06.size⟩
          ·rw [if_pos (.inr (.inr ho))]at hR0;refine_lift BX (fun _ _ _=>?_) (fun _ _ _=>?_)
           all_goals first
            | (exfalso;have hh9:=‹(!decide (H.o=fold H.org))=false›;rw [decide_eq_false ho]at hh9;cases hh9;done)
            | skip
           rw [← cr];refine gY (nX m q a u e 2 _ (hm10) hlq) ?_;intro _ wb xb ⟨qb,er,ob⟩;subst er;refine aB ?_;have hmb:MsgV wb (bareR m 2) qb aI aI aI:=⟨ob.sl,Sl.nil _ _,Sl.nil _ _,Sl.nil _ _⟩;have hzb:=xb.at hz10;refine dL (v:=.agg (aP (bareR m 2) qb aI aI aI).toArray) hzb (dR hmb) fun wc pc=>?_;have xc:=cJ ((x010).trans xb) pc;refine_lift aT ?_;refine JR (cs:=aP (bareR m 2) qb aI aI aI) pc.this ⟨_,rfl,xc,qb,aI,aI,aI,by rw [hR0],?_⟩;rw [hR0];exact ⟨(eM ob pc hzb).weaken (x010).size,Own.nil _ _ _ _,Own.nil _ _ _ _,Own.nil _ _ _ _⟩
         ·rw [if_pos (.inr (.inl hE0))]at hR0;refine dA zDk zDk ?_;refine_lift vO ?_;rw [show (!decide (E=0))=true by rw [decide_eq_false hE0];rfl];refine_lift vO ?_;intro w10 x10;have hpM:=hpM.ext x10;refine_lift bU fun _ _=>?_;rw [← cr];refine gY (nX m q a u e 2 _ (hm9.ext x10) hlq) ?_;intro _ wb xb ⟨qb,er,ob⟩;subst er;refine aB ?_;have hmb:MsgV wb (bareR m 2) qb aI aI aI:=⟨ob.sl,Sl.nil _ _,Sl.nil _ _,Sl.nil _ _⟩;have hzb:=xb.at (x10.at hz9);refine dL (v:=.agg (aP (bareR m 2) qb aI aI aI).toArray) hzb (dR hmb) fun wc pc=>?_;have xc:=cJ ((x09.trans x10).trans xb) pc;refine_lift aT ?_;refine JR (cs:=aP (bareR m 2) qb aI aI aI) pc.this ⟨_,rfl,xc,qb,aI,aI,aI,by rw [hR0],?_⟩;rw [hR0];exact ⟨(eM ob pc hzb).weaken (x09.trans x10).size,Own.nil _ _ _ _,Own.nil _ _ _ _,Own.nil _ _ _ _⟩
    ·have hR:gF hs m=bareR m 1:=by rw [hR0,if_pos (by simpa using c1)]
     have hd1:¬ ((cV m.qs).length:Int)=1:=aC;refine_lift KC (fun _ _ _ _=>?_) (fun _ _ _ _ _=>?_) (fun _ _ _ _ _=>?_) (fun _ _ _=>?_)
     all_goals first
      | (exfalso;exact hd1 (by simpa using ‹(!decide (((cV m.qs).length:Int)=1))=false›))
      | skip
     all_goals first
      | (exfalso;omega)
      | (exfalso;rename_i hz9;simp at hz9;omega)
      | (exfalso;simp_all;done)
      | skip
     rw [← cr];refine gY (nX m q a u e 1 _ (hm3) hlq) ?_;intro _ wb xb ⟨qb,er,ob⟩;subst er;refine aB ?_;have hmb:MsgV wb (bareR m 1) qb aI aI aI:=⟨ob.sl,Sl.nil _ _,Sl.nil _ _,Sl.nil _ _⟩;have hzb:=xb.at hz3;refine dL (v:=.agg (aP (bareR m 1) qb aI aI aI).toArray) hzb (dR hmb) fun wc pc=>?_;have xc:=cJ ((x03).trans xb) pc;refine_lift aT ?_;refine JR (cs:=aP (bareR m 1) qb aI aI aI) pc.this ⟨_,rfl,xc,qb,aI,aI,aI,by rw [hR],?_⟩;rw [hR];exact ⟨(eM ob pc hzb).weaken (x03).size,Own.nil _ _ _ _,Own.nil _ _ _ _,Own.nil _ _ _ _⟩
   ·have hR:gF hs m=bareR m 4:=by rw [hR0,if_pos (by simpa using co)]
    (repeat' first|((with_reducible refine aZ ?_);go_step)|((with_reducible refine aS ?_);first|refine dN ?_|(refine bG ?_ ?_<;>intro hc))|fail)
    all_goals first
     | (exfalso;omega)
     | (exfalso;rename_i hz9;simp at hz9;omega)
     | (exfalso;simp_all;done)
     | skip
    rw [← cr];refine gY (nX m q a u e 4 _ (hm3) hlq) ?_;intro _ wb xb ⟨qb,er,ob⟩;subst er;refine aB ?_;have hmb:MsgV wb (bareR m 4) qb aI aI aI:=⟨ob.sl,Sl.nil _ _,Sl.nil _ _,Sl.nil _ _⟩;have hzb:=xb.at hz3;refine dL (v:=.agg (aP (bareR m 4) qb aI aI aI).toArray) hzb (dR hmb) fun wc pc=>?_;have xc:=cJ ((x03).trans xb) pc;refine_lift aT ?_;refine JR (cs:=aP (bareR m 4) qb aI aI aI) pc.this ⟨_,rfl,xc,qb,aI,aI,aI,by rw [hR],?_⟩;rw [hR];exact ⟨(eM ob pc hzb).weaken (x03).size,Own.nil _ _ _ _,Own.nil _ _ _ _,Own.nil _ _ _ _⟩
 ·have hR:gF hs m=PA:=by unfold gF;rw [if_pos cc]
  refine_lift KC (fun _ _ _ _=>?_) (fun _ _ _ _ _=>?_) (fun _ _ _ _ _=>?_) (fun _ _ _=>?_)
  all_goals first
   | (exfalso;omega)
   | (exfalso;rename_i hz9;simp at hz9;omega)
   | (exfalso;simp_all;done)
   | skip
  refine aG (v:=.agg (aP PA aI aI aI aI).toArray) (Runs.build rfl (by kernel_rfl)) ?_;refine aB ?_;have hmb:MsgV w3 PA aI aI aI aI:=⟨Sl.nil _ _,Sl.nil _ _,Sl.nil _ _,Sl.nil _ _⟩;refine dL (v:=.agg (aP PA aI aI aI aI).toArray) hz3 (dR hmb) fun wc pc=>?_;have xc:=cJ x03 pc;refine_lift aT ?_;refine JR (cs:=aP PA aI aI aI aI) pc.this ⟨_,rfl,xc,aI,aI,aI,aI,by rw [hR],?_⟩;rw [hR];exact ⟨Own.nil _ _ _ _,Own.nil _ _ _ _,Own.nil _ _ _ _,Own.nil _ _ _ _⟩
section
variable {P:Program} {a:Act} {w:World} {d:Option Nat} {ty:TypeId} {ps:String} {af:Array Edge} {g:Option (Nat×Bool)}
theorem Runs.shlN {t u:TypeId} {x y:Operand} {m:Nat} (hx:a.eval x=.int .i64 (m:Nat)) (hy:a.eval y=.int .u64 11) (h:m*2048<4611686018427387904) :
 Runs P (Oper.mk d (.binOp .shl t x y u) ty ps af g) a w (.int .i64 ((m*2048:Nat):Int)):=by
 have:=Runs.shl (P:=P) (w:=w) (d:=d) (ty:=ty) (ps:=ps) (af:=af) (g:=g) (t:=t) (u:=u) hx hy aC aC (by simp;omega);have e:((m:Nat):Int)*2^(11:Int).toNat=((m*2048:Nat):Int):=aX
 rwa [e]at this
end
theorem PB (is:Bool) (n:Nat):(if is=true then (n:Int)else 0)=((flagN is n:Nat):Int):=by unfold flagN;split<;>simp
theorem WrAt.grow {m:Nat} (h:WrAt w0 w b m l ps) (x:Ext w w'):WrAt w0 w' b m l ps:=by
 obtain ⟨h1,h2,h3,h4,⟨v,h5,h6⟩,h7⟩:=h;exact ⟨h1,h2,h3,h4.trans x,⟨v,x.at h5,h6.ext x⟩,h7.at (fun o h=>x.at h)⟩
theorem rX (is:Bool) (n:Nat) (w:World):Calls Tryz.prog 75 #[.bool is, .int .i64 ((n:Nat):Int)] w (bC w (.int .i64 ((flagN is n:Nat):Int))):=by
 rw [← PB];exact SM is n w
theorem Am {a e:Value} {la lu le:List (List Value)} (h1:Sl 4 w a la) (h2:Sl 4 w u lu) (h3:Sl 4 w e le):Tryz.prog.built 171 [(0,a),(1,u),(2,e)]=some #[a,u,e]:=by
 obtain ⟨_,_,rfl,_⟩:=h1.out;obtain ⟨_,_,rfl,_⟩:=h2.out;obtain ⟨_,_,rfl,_⟩:=h3.out
 kernel_rfl
theorem GF {m:Nat} (h:WrAt w0 w b m l ps) (n:Int) (h0:0≤n) (hn:n≤100000000000000) (hl:l.length+2≤100000000000000):Calls Tryz.prog 74 #[.pointer (some ⟨b,0,none⟩), .int .i64 n] w (xT w0 w b m (l++bQ n.toNat) ps):=by
 have:=lF h n.toNat aC hl
 rwa [show ((n.toNat:Nat):Int)=n by omega]at this
theorem WJ {m:Nat} (h:WrAt w0 w b m l ps) (n:Int) (h0:0≤n) (hn:n≤100000000000000) (hl:l.length+4≤100000000000000):Calls Tryz.prog 77 #[.pointer (some ⟨b,0,none⟩), .int .i64 n] w (xT w0 w b m (l++rF n.toNat) ps):=by
 have:=SH h n.toNat aC hl
 rwa [show ((n.toNat:Nat):Int)=n by omega]at this
theorem rI {mm:MsgR} {q a e:Value} (hm:MsgV w mm q a u e):Calls Tryz.prog 36 #[.agg (aP mm q a u e).toArray] w (bC w (.tuple #[aE (bP mm).1, .int .i64 (bP mm).2])):=by
 go_enter Tryz.func36,Tryz.ntmps36
 refine_lift mT fun _ _=>?_;refine jO (vs:=aP mm q a u e) fun w1 x1 s1 hb1=>?_;refine aB ?_;have hpM:=aA (cs:=aP mm q a u e) hb1;unfold aP at hpM;have hm1:=hm.ext x1;refine_lift mH fun _ _ _ _=>?_;refine cB (BC mm q a u e _ hm1) fun w2 x2=>?_;have hb2:=x2.at hb1;have x02:=x1.trans x2;have hm2:=hm1.ext x2;by_cases cc:dY mm=0
 ·refine_lift UT (fun _ _ _=>?_) (fun _=>?_)
  all_goals first
   | (exfalso;simp_all;done)
   | skip
  refine nD (kt:=23) rfl ?_;intro w3 x3 s3 hM3;refine aB ?_;refine_lift aT ?_;refine aG (v:=.agg (GX (.slice none 0 0) w2.heap.size).toArray) (Runs.build rfl (by kernel_rfl)) ?_;refine aB ?_;refine jO (vs:=GX (.slice none 0 0) w2.heap.size) fun w4 x4 s4 hb4=>?_;refine aB ?_;have x24:=x3.trans x4;have hW4:WrAt w2 w4 w3.heap.size w2.heap.size [] []:=⟨x3.size,Nat.le_refl _,by have:=x3.size;omega,x24,⟨.slice none 0 0,hb4,Own.nil _ _ _ _⟩,hM3.at (fun o h=>x4.at h)⟩;have hb4':=x24.at hb2;have hpM4:=aA (cs:=aP mm q a u e) hb4';unfold aP at hpM4;clear hpM;refine_lift bU fun _ _=>?_;have hid:0≤mm.id∧mm.id≤65535∧0≤mm.op∧mm.op≤15∧0≤mm.rcode∧mm.rcode≤15:=by
   unfold dY at cc;split at cc
   ·rename_i c;simp [iK]at c;omega
   ·cases cc
  have cw:=lF hW4 mm.id.toNat aC aX;refine bF (vs:=[.pointer (some ⟨w3.heap.size,0,none⟩), .int .i64 ((mm.id.toNat:Nat):Int)]) (enters_of Tryz.func74 rfl rfl) rfl (congrArg (fun z=>[Value.pointer (some ⟨w3.heap.size,0,none⟩),Value.int .i64 z]) (show mm.id=((mm.id.toNat:Nat):Int) by omega)) cw ?_;rintro _ w5 ⟨rfl,h5,g5⟩;refine ⟨_,rfl,?_⟩;refine aB ?_;have hb5:=g5 _ _ _ _ aK aK hb4';have hp5:=aA (cs:=aP mm q a u e) hb5;unfold aP at hp5;clear hpM4;refine_lift bU fun _ _=>?_;refine aO 27 (Ext w5) zDk ?_;intro w6 x6 _;refine ⟨x6,?_⟩;refine bE 0 ?_;refine bE 1 ?_;refine bE 2 ?_;refine bE 4 ?_;refine bE 5 ?_;refine oE (i:=6) (v:=.int .i64 ((mm.op.toNat*2048:Nat):Int)) rfl rfl (fun w' hF=>Runs.shlN (congrArg (Value.int .i64) (show mm.op=((mm.op.toNat:Nat):Int) by omega)) rfl aC) ?_;refine aB ?_;refine bE 8 ?_;refine bE 9 ?_;refine bE 12 ?_;refine bE 13 ?_;refine bE 16 ?_;refine bE 17 ?_;refine bE 20 ?_;refine bE 21 ?_;refine bE 24 ?_;refine bE 25 ?_;have z0:Ext w5 w6:=x6;refine dH 3 ?_;refine cB (rX mm.resp 32768 _) fun w7 x7=>?_;have z7:Ext w5 w7:=z0.trans x7;refine aD ⟨aR z7,?_⟩;have hf7:flagN mm.resp 32768<65536:=by have:=oU mm.resp 32768;omega
  have ha7:(flagN mm.resp 32768 ||| mm.op.toNat*2048)<65536:=OX hf7 aC;refine oE (i:=7) (v:=.int .i64 (((flagN mm.resp 32768 ||| mm.op.toNat*2048):Nat):Int)) rfl rfl (fun w' hF=>Runs.orN (m:=flagN mm.resp 32768) (n:=mm.op.toNat*2048) rfl rfl aC aC) ?_;refine aB ?_;refine dH 10 ?_;refine cB (rX mm.auth 1024 _) fun w8 x8=>?_;have z8:Ext w5 w8:=z7.trans x8;refine aD ⟨aR z8,?_⟩;have hf8:flagN mm.auth 1024<65536:=by have:=oU mm.auth 1024;omega
  have ha8:((flagN mm.resp 32768 ||| mm.op.toNat*2048) ||| flagN mm.auth 1024)<65536:=OX ha7 hf8;refine oE (i:=11) (v:=.int .i64 ((((flagN mm.resp 32768 ||| mm.op.toNat*2048) ||| flagN mm.auth 1024):Nat):Int)) rfl rfl (fun w' hF=>Runs.orN (m:=(flagN mm.resp 32768 ||| mm.op.toNat*2048)) (n:=flagN mm.auth 1024) rfl rfl aC aC) ?_;refine aB ?_;refine dH 14 ?_;refine cB (rX mm.trunc 512 _) fun w9 x9=>?_;have z9:Ext w5 w9:=z8.trans x9;refine aD ⟨aR z9,?_⟩;have hf9:flagN mm.trunc 512<65536:=by have:=oU mm.trunc 512;omega
  have ha9:(((flagN mm.resp 32768 ||| mm.op.toNat*2048) ||| flagN mm.auth 1024) ||| flagN mm.trunc 512)<65536:=OX ha8 hf9;refine oE (i:=15) (v:=.int .i64 (((((flagN mm.resp 32768 ||| mm.op.toNat*2048) ||| flagN mm.auth 1024) ||| flagN mm.trunc 512):Nat):Int)) rfl rfl (fun w' hF=>Runs.orN (m:=((flagN mm.resp 32768 ||| mm.op.toNat*2048) ||| flagN mm.auth 1024)) (n:=flagN mm.trunc 512) rfl rfl aC aC) ?_;refine aB ?_;refine dH 18 ?_;refine cB (rX mm.want 256 _) fun w10 x10=>?_;have z10:Ext w5 w10:=z9.trans x10;refine aD ⟨aR z10,?_⟩;have hf10:flagN mm.want 256<65536:=by have:=oU mm.want 256;omega
  have ha10:((((flagN mm.resp 32768 ||| mm.op.toNat*2048) ||| flagN mm.auth 1024) ||| flagN mm.trunc 512) ||| flagN mm.want 256)<65536:=OX ha9 hf10;refine oE (i:=19) (v:=.int .i64 ((((((flagN mm.resp 32768 ||| mm.op.toNat*2048) ||| flagN mm.auth 1024) ||| flagN mm.trunc 512) ||| flagN mm.want 256):Nat):Int)) rfl rfl (fun w' hF=>Runs.orN (m:=(((flagN mm.resp 32768 ||| mm.op.toNat*2048) ||| flagN mm.auth 1024) ||| flagN mm.trunc 512)) (n:=flagN mm.want 256) rfl rfl aC aC) ?_;refine aB ?_;refine dH 22 ?_;refine cB (rX mm.avail 128 _) fun w11 x11=>?_;have z11:Ext w5 w11:=z10.trans x11;refine aD ⟨aR z11,?_⟩;have hf11:flagN mm.avail 128<65536:=by have:=oU mm.avail 128;omega
  have ha11:(((((flagN mm.resp 32768 ||| mm.op.toNat*2048) ||| flagN mm.auth 1024) ||| flagN mm.trunc 512) ||| flagN mm.want 256) ||| flagN mm.avail 128)<65536:=OX ha10 hf11;refine oE (i:=23) (v:=.int .i64 (((((((flagN mm.resp 32768 ||| mm.op.toNat*2048) ||| flagN mm.auth 1024) ||| flagN mm.trunc 512) ||| flagN mm.want 256) ||| flagN mm.avail 128):Nat):Int)) rfl rfl (fun w' hF=>Runs.orN (m:=((((flagN mm.resp 32768 ||| mm.op.toNat*2048) ||| flagN mm.auth 1024) ||| flagN mm.trunc 512) ||| flagN mm.want 256)) (n:=flagN mm.avail 128) rfl rfl aC aC) ?_;refine aB ?_;have ha12:((((((flagN mm.resp 32768 ||| mm.op.toNat*2048) ||| flagN mm.auth 1024) ||| flagN mm.trunc 512) ||| flagN mm.want 256) ||| flagN mm.avail 128) ||| mm.rcode.toNat)<65536:=OX ha11 aC;refine oE (i:=26) (v:=.int .i64 ((((((((flagN mm.resp 32768 ||| mm.op.toNat*2048) ||| flagN mm.auth 1024) ||| flagN mm.trunc 512) ||| flagN mm.want 256) ||| flagN mm.avail 128) ||| mm.rcode.toNat):Nat):Int)) rfl rfl (fun w' hF=>Runs.orN (m:=(((((flagN mm.resp 32768 ||| mm.op.toNat*2048) ||| flagN mm.auth 1024) ||| flagN mm.trunc 512) ||| flagN mm.want 256) ||| flagN mm.avail 128)) (n:=mm.rcode.toNat) rfl (congrArg (Value.int .i64) (show mm.rcode=((mm.rcode.toNat:Nat):Int) by omega)) aC aC) ?_;refine aB ?_;refine dH 27 ?_;have cw2:=lF (h5.grow z11) (wF mm) (by unfold wF;omega) (by simp [bQ]);refine eZ cw2 fun w12 h12 g12=>?_;refine aD ⟨aN rfl,?_⟩;refine jP ?_;have hb12:=g12 _ _ _ _ aK aK (z11.at hb5);have hp12:=aA (cs:=aP mm q a u e) hb12;unfold aP at hp12;clear hp5;refine_lift mH fun _ _ _ _=>?_;have hl16:=aJ mm.ex;have hx02:=x02;have hm12:MsgV w12 mm q a u e:=hm2.ext h12.ext;have hq12:=hm12.qs;have ha12:=hm12.an;have hu12:=hm12.au;have he12:=hm12.ex;refine aO 17 (Ext w12) zDk ?_;intro w13 x13 _;refine ⟨x13,?_⟩;refine cZ 18 ?_;refine bE 0 ?_;refine bE 1 ?_;refine bE 2 ?_;refine bE 3 ?_;refine bE 4 ?_;refine bE 5 ?_;refine bE 6 ?_;refine bE 7 ?_;refine bE 8 ?_;refine bE 9 ?_;refine bE 10 ?_;refine bE 11 ?_;refine bE 12 ?_;refine bE 13 ?_;refine bE 14 ?_;rw [eR,aJ,aJ,aJ];have hok:=wG cc;have hfl1:=oU (!decide (mm.size=0)) 1;have hql:=hok.ql;have hnl:=hok.nl;have hul:=hok.ul;have hel:=hok.el;refine dH 15 ?_;refine cB (rX (!decide (mm.size=0)) 1 _) fun w14 x14=>?_;have z14:Ext w12 w14:=x13.trans x14;refine aD ⟨aR z14,?_⟩;refine dH 16 ?_
  ((with_reducible refine aS ?_);(first|(refine gV ?_;refine eS ?_)|(refine lY ?_;refine nR ?_;(with_reducible refine aS ?_);refine gV ?_;refine eS ?_)))
  rw [show ((mm.ex.length:Nat):Int)+((flagN (!decide (mm.size=0)) 1:Nat):Int)=((mm.ex.length+flagN (!decide (mm.size=0)) 1:Nat):Int) by omega];refine aD ⟨aR z14,?_⟩;refine dH 17 ?_;refine aG (v:=.agg ((BJ mm).map fun n=>Value.int .i64 (n:Nat)).toArray) (Runs.build rfl (by kernel_rfl)) ?_;refine aB ?_;refine aD ⟨aN rfl,?_⟩;refine jP ?_;have h14:=h12.grow z14;have hcl:(BJ mm).length=4:=rfl;have hcb:∀ x∈BJ mm,x≤65535:=by
   intro x hx;simp only [BJ,List.mem_cons,List.not_mem_nil,or_false]at hx;omega
  have hhd:[]++bQ mm.id.toNat++bQ (wF mm)++(BJ mm).flatMap bQ=kX mm:=by simp [kX,BJ]
  have hb2':=hb2;generalize BJ mm=cn at *;have hbl0:([]++bQ mm.id.toNat++bQ (wF mm)).length=4:=rfl;generalize ([]++bQ mm.id.toNat++bQ (wF mm):List UInt8)=bs at *;generalize hB:w3.heap.size=B at *;generalize hMp:w2.heap.size=M at *;clear hp12;have hpw:∀ wr,Ext w2 wr→Pts wr (.pointer (some ⟨w.heap.size,0,none⟩)) [.int .i64 mm.id, .bool mm.resp, .int .i64 mm.op, .bool mm.auth, .bool mm.trunc, .bool mm.want, .bool mm.avail, .int .i64 mm.rcode,q,a,u,e, .int .i64 mm.size]:=fun wr x=>aA (cs:=aP mm q a u e) (x.at hb2);refine_lift aT ?_;go_loopw [7,72] (fun _ iv wr=>∃ k:Nat,k≤4∧iv=.int .i64 k∧WrAt w2 wr B M (bs++(cn.take k).flatMap bQ) []∧((cn.take k).flatMap bQ).length=2*k) (fun _ iv _=>4 - (intOf iv).toNat)
  case atStart=>exact ⟨0,aC,rfl,by simpa using h14,rfl⟩
  case round =>
   obtain ⟨k,hk,rfl,hW,hlk⟩:=hrel;by_cases c4:k<4
   ·have hck:k<cn.length:=aC;have hgk:=List.getElem?_eq_getElem hck;have hmk:=hcb _ (List.getElem_mem hck);refine_lift rR ?_;intro _ _ _ _ _ _;refine aG (v:=.int .i64 (cn[k]:Nat)) (Runs.idxA (i:=k) (n:=4) rfl rfl (by simp [hgk]) aC zDk) ?_;refine aB ?_;refine_lift aT ?_;refine eZ (lF hW cn[k] aC (by rw [List.length_append];omega)) fun w15 h15 g15=>?_;refine_lift aT ?_;have hT:(cn.take (k+1)).flatMap bQ=(cn.take k).flatMap bQ++bQ cn[k]:=by rw [List.take_succ_eq_append_getElem hck,List.flatMap_append];simp
    refine ⟨⟨k+1,aC,by go_num,?_,?_⟩,by simp [intOf];omega⟩
    ·rw [hT,← List.append_assoc];exact h15
    ·rw [hT,List.length_append,hlk];simp [bQ];omega
   ·have hk4:k=4:=aC;subst hk4;rw [List.take_of_length_le aC,hhd]at hW;have hlh:(kX mm).length=12:=by simp [kX,bQ]
    have hlh':(((mm.qs.take 0).foldl qW (kX mm,[])).1).length=12:=hlh;have hqE:=hq12;have hp16:=hpw wr hW.ext;have hqs16:=hm2.qs.ext hW.ext;have hqc:=eR mm.qs;refine_lift lQ fun _ _ _=>?_;clear hp16;go_loopw [9,82] (fun _ iv wr=>∃ k:Nat,k≤mm.qs.length∧iv=.int .i64 k∧WrAt w2 wr B M ((mm.qs.take k).foldl qW (kX mm,[])).1 ((mm.qs.take k).foldl qW (kX mm,[])).2∧Keys ((mm.qs.take k).foldl qW (kX mm,[])).2∧((mm.qs.take k).foldl qW (kX mm,[])).1.length≤12+260*k) (fun _ iv _=>mm.qs.length - (intOf iv).toNat)
    case atStart=>exact ⟨0,aC,rfl,hW,List.Pairwise.nil,by rw [hlh'];omega⟩
    case round =>
     obtain ⟨k,hk,rfl,hW,hK,hL⟩:=hrel;by_cases ck:k<mm.qs.length
     ·have hqk:=hok.qs _ (List.getElem_mem ck);have hT:(mm.qs.take (k+1)).foldl qW (kX mm,[])=qW ((mm.qs.take k).foldl qW (kX mm,[])) mm.qs[k]:=by rw [List.take_succ_eq_append_getElem ck,List.foldl_append];rfl
      have hlk:=Ae hqk ((mm.qs.take k).foldl qW (kX mm,[]));have hkk:=WE ((mm.qs.take k).foldl qW (kX mm,[])) mm.qs[k] hK;generalize (mm.qs.take k).foldl qW (kX mm,[])=X at *;obtain ⟨hn1,hn2,hn3⟩:=Af hqk;obtain ⟨t9,ht1,ht2⟩:=uX hn1 X;have hq4:=hm2.qs.ext hW.ext;have h4:=hq4.elem (rV ck);refine_lift rR ?_;intro _ _ _ _ _ _;refine dX (z:=[aE [], .int .i64 0]) fun w3' x3' s3' h3'=>?_;refine aB ?_;refine dL (v:=.agg #[aE mm.qs[k].1, .int .i64 mm.qs[k].2]) h3' (OZ rfl rfl) fun w4' p4'=>?_;have x4':=cJ x3' p4';have hc4:w4'.heap[wr.heap.size]? = some (.cells [aE mm.qs[k].1, .int .i64 mm.qs[k].2].toArray 25 (0,0)):=p4'.this;have hpq:=aA (cs:=[aE mm.qs[k].1, .int .i64 mm.qs[k].2]) hc4;have hW4:=hW.grow x4';clear p4' h3' x3' h4;generalize wr.heap.size=c at *;refine_lift bU fun _ _=>?_;refine eZ (uV hW4 hK mm.qs[k].1 hn1 aC) fun w16 h16 g16=>?_;have hc16:=g16 _ _ _ _ aK aK hc4;clear hpq;have hpq:=aA (cs:=[aE mm.qs[k].1, .int .i64 mm.qs[k].2]) hc16;refine_lift bU fun _ _=>?_;refine eZ (GF h16 mm.qs[k].2 aC aC (by rw [ht1,List.length_append];omega)) fun w17 h17 g17=>?_;refine_lift aT ?_;refine eZ (lF h17 1 aC (by rw [ht1];simp [bQ];omega)) fun w18 h18 g18=>?_;refine_lift aT ?_;refine ⟨⟨k+1,aC,by go_num,?_⟩,by simp [intOf];omega⟩;rw [hT];exact ⟨h18,hkk,aC⟩
     ·have hkq:k=mm.qs.length:=aC;subst hkq;rw [List.take_length]at hW hK hL;have hp16:=hpw wr hW.ext;refine_lift EZ fun _ _ _ _ _=>?_;have hVL:∀ i,i<3→∃ v l,([a,u,e]:List Value)[i]? = some v∧[mm.an,mm.au,mm.ex][i]? = some l∧Sl 4 w2 v (aF l)∧l.length≤200∧∀ r∈l,bI r=0:=by
       intro i hi
       match i,hi with
       | 0,_=>exact ⟨_,_,rfl,rfl,hm2.an,hok.nl,hok.an⟩
       | 1,_=>exact ⟨_,_,rfl,rfl,hm2.au,hok.ul,hok.au⟩
       | 2,_=>exact ⟨_,_,rfl,rfl,hm2.ex,hok.el,hok.ex⟩
      have hfin:[mm.an,mm.au,mm.ex].foldl (fun x l=>l.foldl mS x) (mm.qs.foldl qW (kX mm,[]))=xV mm:=rfl;refine aG (v:=.agg ([a,u,e]:List Value).toArray) (Runs.build rfl (Am hm2.an hm2.au hm2.ex)) ?_;refine aB ?_;have hLl:[mm.an,mm.au,mm.ex].length=3:=rfl;generalize mm.qs.foldl qW (kX mm,[])=X0 at *;clear hp16 hqs16 hqE hlh';generalize hLL:[mm.an,mm.au,mm.ex]=LL at *;generalize hVV:([a,u,e]:List Value)=VV at *;refine_lift aT ?_;go_loopw [11,13,104] (fun _ _ iv wr=>∃ i:Nat,i≤3∧iv=.int .i64 i∧WrAt w2 wr B M ((LL.take i).foldl (fun x l=>l.foldl mS x) X0).1 ((LL.take i).foldl (fun x l=>l.foldl mS x) X0).2∧Keys ((LL.take i).foldl (fun x l=>l.foldl mS x) X0).2∧((LL.take i).foldl (fun x l=>l.foldl mS x) X0).1.length≤3000+1200000*i) (fun _ _ iv _=>3 - (intOf iv).toNat)
      case atStart=>exact ⟨0,aC,rfl,hW,hK,by simp only [List.take_zero,List.foldl_nil];omega⟩
      case round =>
       obtain ⟨i,hi,rfl,hW,hK,hL⟩:=hrel;by_cases ci:i<3
       ·obtain ⟨v,l,hv1,hl1,hsl,hll,hlr⟩:=hVL i ci;have hT:(LL.take (i+1)).foldl (fun x l=>l.foldl mS x) X0=l.foldl mS ((LL.take i).foldl (fun x l=>l.foldl mS x) X0):=by
         rw [List.take_add_one,hl1,List.foldl_append];rfl
        generalize (LL.take i).foldl (fun x l=>l.foldl mS x) X0=X at *;refine_lift rR ?_;intro _ _ _ _ _ _;refine aG (v:=v) (Runs.idxA (i:=i) (n:=3) rfl rfl (by simp [hv1]) aC zDk) ?_;refine aB ?_;have hslr:=hsl.ext hW.ext;have hrl:=aJ l;refine_lift aT ?_;go_loopw [13,109] (fun _ jv wr=>∃ k:Nat,k≤l.length∧jv=.int .i64 k∧WrAt w2 wr B M ((l.take k).foldl mS X).1 ((l.take k).foldl mS X).2∧Keys ((l.take k).foldl mS X).2∧((l.take k).foldl mS X).1.length≤3000+1200000*i+6000*k) (fun _ jv _=>l.length - (intOf jv).toNat)
        case atStart=>exact ⟨0,aC,rfl,hW,hK,by simp only [List.take_zero,List.foldl_nil];omega⟩
        case round =>
         obtain ⟨k,hk,rfl,hW,hK,hL⟩:=hrel;by_cases ck:k<l.length
         ·have hRk:=OV (hlr _ (List.getElem_mem ck));have hT2:(l.take (k+1)).foldl mS X=mS ((l.take k).foldl mS X) l[k]:=by rw [List.take_succ_eq_append_getElem ck,List.foldl_append];rfl
          generalize (l.take k).foldl mS X=Y at *;have hlk:=SL hRk Y;have hkk:=OW Y l[k] hK;have hNk:=iM (iF l[k].name) Y.1 Y.2 hK;obtain ⟨t9,ht1,ht2⟩:=uX hRk.nm Y;have hsk:=hsl.ext hW.ext;have h4:=hsk.elem (eX ck);have hk0:=hRk.k0;have hk1:=hRk.k1;have ht0:=hRk.t0;have ht3:=hRk.t1;refine_lift rR ?_;intro _ _ _ _ _ _;refine dX (z:=iR) fun w3' x3' s3' h3'=>?_;refine aB ?_;refine dL (v:=kK l[k]) h3' (gE rfl rfl rfl rfl) fun w4' p4'=>?_;have x4':=cJ x3' p4';have hc4:w4'.heap[wr.heap.size]? = some (.cells [aE l[k].name, .int .i64 l[k].kind, .int .i64 l[k].ttl,aE l[k].data].toArray 37 (0,0)):=p4'.this;have hpq:=aA (cs:=[aE l[k].name, .int .i64 l[k].kind, .int .i64 l[k].ttl,aE l[k].data]) hc4;have hW4:=hW.grow x4';clear p4' h3' x3' h4 hsk hslr;generalize wr.heap.size=c at *;refine_lift bU fun _ _=>?_;refine eZ (uV hW4 hK l[k].name hRk.nm aC) fun w20 h20 g20=>?_;have hc20:=g20 _ _ _ _ aK aK hc4;clear hpq;have hpq:=aA (cs:=[aE l[k].name, .int .i64 l[k].kind, .int .i64 l[k].ttl,aE l[k].data]) hc20;refine_lift bU fun _ _=>?_;refine eZ (GF h20 l[k].kind aC aC (by rw [ht1,List.length_append];omega)) fun w21 h21 g21=>?_;have hc21:=g21 _ _ _ _ aK aK hc20;clear hpq;have hpq:=aA (cs:=[aE l[k].name, .int .i64 l[k].kind, .int .i64 l[k].ttl,aE l[k].data]) hc21;refine_lift bU fun _ _=>?_;refine eZ (lF h21 1 aC (by rw [ht1];simp [bQ];omega)) fun w22 h22 g22=>?_;have hc22:=g22 _ _ _ _ aK aK hc21;clear hpq;have hpq:=aA (cs:=[aE l[k].name, .int .i64 l[k].kind, .int .i64 l[k].ttl,aE l[k].data]) hc22;refine_lift bU fun _ _=>?_;refine eZ (WJ h22 l[k].ttl aC aC (by rw [ht1];simp [bQ];omega)) fun w23 h23 g23=>?_;have hc23:=g23 _ _ _ _ aK aK hc22;clear hpq;have hpq:=aA (cs:=[aE l[k].name, .int .i64 l[k].kind, .int .i64 l[k].ttl,aE l[k].data]) hc23;refine_lift aT ?_;refine eZ (WD h23 hNk l[k] hRk.d hRk.soa (by rw [ht1];simp [bQ,rF];omega)) fun w24 h24 g24=>?_;refine_lift aT ?_;refine ⟨⟨k+1,aC,by go_num,?_⟩,by simp [intOf];omega⟩;rw [hT2];exact ⟨h24,hkk,aC⟩
         ·have hkl:k=l.length:=aC;subst hkl;rw [List.take_length]at hW hK hL;refine_lift jQ fun _=>?_;refine ⟨⟨i+1,aC,by go_num,?_⟩,by simp [intOf];omega⟩;rw [hT];exact ⟨hW,hK,aC⟩
       ·have hi3:i=3:=aC;subst hi3;rw [List.take_of_length_le aC,hfin]at hW hL;have hp16:=hpw wr hW.ext;have hEb:pQ mm=(xV mm).1++JE mm:=rfl;have hK3:Keys (xV mm).2:=by
         rw [List.take_of_length_le aC,hfin]at hK;exact hK
        by_cases cz:mm.size=0
        ·have hZ:WrAt w2 wr B M (pQ mm) (xV mm).2:=by
          rw [hEb,show JE mm=[] by unfold JE;rw [if_pos cz],List.append_nil];exact hW
         have hLz:(pQ mm).length=(xV mm).1.length:=by rw [hEb,show JE mm=[] by unfold JE;rw [if_pos cz],List.append_nil]
         generalize xV mm=Y at *
         (repeat' first|((with_reducible refine aZ ?_);go_step)|((with_reducible refine aS ?_);first|refine dN ?_|(refine bG ?_ ?_<;>intro hc))|fail)
         all_goals first
          | (exfalso;simp_all;done)
          | skip
         obtain ⟨_,_,_,xz,⟨vz,hBz,hoz⟩,_⟩:=hZ;have hpz:=aA (cs:=GX vz M) hBz;have hslz:=hoz.sl;have hbz:(aL (pQ mm)).length=(pQ mm).length:=by simp [aL]
         have hzl:(pQ mm).length≤4000000:=aC;have hEn:bP mm=if 65535<(pQ mm).length then ([],4)else (pQ mm,0):=by unfold bP;rw [if_neg (by simpa using cc)]
         generalize pQ mm=Z at *;by_cases cl:65535<Z.length
         ·rw [if_pos cl]at hEn;refine_lift jQ fun _=>?_
          all_goals first
           | (exfalso;omega)
           | skip
          go_ret2;rw [hEn];exact ⟨by kernel_rfl,x02.trans xz⟩
         ·rw [if_neg cl]at hEn;refine_lift jQ fun _=>?_
          all_goals first
           | (exfalso;omega)
           | skip
          go_ret2;rw [hEn];exact ⟨by kernel_rfl,x02.trans xz⟩
        ·have hoE:JE mm=[0]++bQ 41++bQ mm.size.toNat++rF 0++bQ 0:=by unfold JE;rw [if_neg cz]
         have hsz:0≤mm.size∧mm.size≤65535:=by have:=hok.sz;omega
         generalize xV mm=Y at *
         (repeat' first|((with_reducible refine aZ ?_);go_step)|((with_reducible refine aS ?_);first|refine dN ?_|(refine bG ?_ ?_<;>intro hc))|fail)
         all_goals first
          | (exfalso;simp_all;done)
          | skip
         refine eZ (MQ hW hK3 [] rfl (by simp [enc]) aC) fun w30 h30 g30=>?_;refine_lift bU fun _ _=>?_;refine eZ (lF h30 41 aC (by simp [eE];omega)) fun w31 h31 g31=>?_;have hp31:=hpw w31 h31.ext;clear hp16;refine_lift bU fun _ _=>?_;refine eZ (GF h31 mm.size aC aC (by simp [eE,bQ];omega)) fun w32 h32 g32=>?_;refine_lift bU fun _ _=>?_;refine eZ (SH h32 0 aC (by simp [eE,bQ];omega)) fun w33 h33 g33=>?_;refine_lift aT ?_;refine eZ (lF h33 0 aC (by simp [eE,bQ,rF];omega)) fun w34 h34 g34=>?_;have hZ:WrAt w2 w34 B M (pQ mm) (eE [] Y.1 Y.2).2:=by
          rw [hEb,hoE]
          simpa [eE]using h34
         have hLz:(pQ mm).length≤Y.1.length+20:=by
          rw [hEb,hoE];simp [bQ,rF]
         refine_lift mH fun _ _ _ _=>?_;obtain ⟨_,_,_,xz,⟨vz,hBz,hoz⟩,_⟩:=hZ;have hpz:=aA (cs:=GX vz M) hBz;have hslz:=hoz.sl;have hbz:(aL (pQ mm)).length=(pQ mm).length:=by simp [aL]
         have hzl:(pQ mm).length≤4000000:=aC;have hEn:bP mm=if 65535<(pQ mm).length then ([],4)else (pQ mm,0):=by unfold bP;rw [if_neg (by simpa using cc)]
         generalize pQ mm=Z at *;by_cases cl:65535<Z.length
         ·rw [if_pos cl]at hEn;refine_lift jQ fun _=>?_
          all_goals first
           | (exfalso;omega)
           | skip
          go_ret2;rw [hEn];exact ⟨by kernel_rfl,x02.trans xz⟩
         ·rw [if_neg cl]at hEn;refine_lift jQ fun _=>?_
          all_goals first
           | (exfalso;omega)
           | skip
          go_ret2;rw [hEn];exact ⟨by kernel_rfl,x02.trans xz⟩
 ·refine_lift UT (fun _ _ _=>?_) (fun _=>?_)
  all_goals first
   | (exfalso;simp_all;done)
   | skip
  go_ret2;have hE:bP mm=([],dY mm):=by unfold bP;rw [if_pos cc]
  rw [hE];exact ⟨rfl,x02⟩
def qD (limit:Int) (x:MsgR):Bool:=decide ((bP x).2=0)&&decide (((bP x).1.length:Int)≤limit)
def SW (m:MsgR):MsgR:={ m with trunc:=true,an:=[],au:=[],ex:=[] }
def fX (m:MsgR) (n:Nat):MsgR:={ m with ex:=m.ex.take n }
def tH (m:MsgR) (limit:Int):MsgR×List UInt8×Int:=if qD limit (SW m)=true then (SW m,(bP (SW m)).1,0)else (zeroM,[],4)
def uZ (m:MsgR) (limit:Int):Nat→MsgR×List UInt8×Int
 | 0=>if qD limit (fX m 0)=true then (fX m 0,(bP (fX m 0)).1,0)else tH m limit
 | n+1=>if qD limit (fX m (n+1))=true then (fX m (n+1),(bP (fX m (n+1))).1,0)else uZ m limit n
def vB (m:MsgR) (limit:Int):MsgR×List UInt8×Int:=if dY m≠0∨limit<1∨65535<limit then (zeroM,[],1)else uZ m limit m.ex.length
def SX (w:World) (o:MsgR×List UInt8×Int):Value→World→Prop:=fun r w'=>∃ q a u e,r=.tuple #[.agg (aP o.1 q a u e).toArray,aE o.2.1, .int .i64 o.2.2]∧MsgV w' o.1 q a u e
theorem PC {limit:Int} {x:MsgR} (h:qD limit x=true):(bP x).2=0∧((bP x).1.length:Int)≤limit:=by simpa [qD]using h
structure FitIn (w:World) (B b1 b2:Nat) (m:MsgR) (limit:Int) (RES:MsgR×List UInt8×Int) (cut:Bool) (n:Nat) (mm:MsgR) (q a u e:Value) (wr:World):Prop where
 blk1:wr.heap[b1]? = some (.cells (aP mm q a u e).toArray 54 (0,0))
 blk2:wr.heap[b2]? = some (.cells iW.toArray 54 (0,0))
 ext:Ext w wr
 oq:Own B 2 25 wr q (cV mm.qs)
 oa:Own B 4 37 wr a (aF mm.an)
 ou:Own B 4 37 wr u (aF mm.au)
 oe:Own B 4 37 wr e (aF mm.ex)
 len:m.ex.length≤1000
 spec:(cut=false∧n≤m.ex.length∧mm=fX m n∧uZ m limit n=RES)∨(cut=true∧mm=SW m∧tH m limit=RES)
theorem FitIn.msg {b1 b2:Nat} {m:MsgR} {limit:Int} {RES:MsgR×List UInt8×Int} {cut:Bool} {n:Nat} {mm:MsgR} {q a e:Value} {wr:World} (h:FitIn w B b1 b2 m limit RES cut n mm q a u e wr):MsgV wr mm q a u e:=⟨h.oq.sl,h.oa.sl,h.ou.sl,h.oe.sl⟩
theorem FitIn.yes {b1 b2:Nat} {m:MsgR} {limit:Int} {RES:MsgR×List UInt8×Int} {cut:Bool} {n:Nat} {mm:MsgR} {q a e:Value} {wr:World} (h:FitIn w B b1 b2 m limit RES cut n mm q a u e wr) (hf:qD limit mm=true):RES=(mm,(bP mm).1,0):=by
 rcases h.spec with ⟨-,-,h3,h4⟩|⟨-,h3,h4⟩
 ·rw [← h4];cases n with
  | zero=>unfold uZ;rw [← h3,if_pos hf]
  | succ n=>unfold uZ;rw [← h3,if_pos hf]
 ·rw [← h4];unfold tH;rw [← h3,if_pos hf]
theorem FitIn.end_ {b1 b2:Nat} {m:MsgR} {limit:Int} {RES:MsgR×List UInt8×Int} {n:Nat} {mm:MsgR} {q a e:Value} {wr:World} (h:FitIn w B b1 b2 m limit RES true n mm q a u e wr) (hf:¬ qD limit mm=true):RES=(zeroM,[],4):=by
 rcases h.spec with ⟨h1,-⟩|⟨-,h3,h4⟩
 ·cases h1
 ·rw [← h4];unfold tH;rw [← h3,if_neg hf]
theorem FitIn.on {b1 b2:Nat} {m:MsgR} {limit:Int} {RES:MsgR×List UInt8×Int} {n:Nat} {mm:MsgR} {q a e:Value} {wr:World} (h:FitIn w B b1 b2 m limit RES false n mm q a u e wr) (hf:¬ qD limit mm=true):mm=fX m n∧n≤m.ex.length∧(n=0→tH m limit=RES)∧(∀ k,n=k+1→uZ m limit k=RES):=by
 rcases h.spec with ⟨h1,h2,h3,h4⟩|⟨h1,-⟩
 ·refine ⟨h3,h2,?_,?_⟩
  ·rintro rfl;rw [← h4];show tH m limit=(if qD limit (fX m 0)=true then (fX m 0,(bP (fX m 0)).1,0)else tH m limit);rw [← h3,if_neg hf]
  ·rintro k rfl;rw [← h4];show uZ m limit k=(if qD limit (fX m (k+1))=true then (fX m (k+1),(bP (fX m (k+1))).1,0)else uZ m limit k);rw [← h3,if_neg hf]
 ·cases h1
def MT (b1:Nat) (a:Act) (w:World):Nat:=match a.tmps.getD 7 undef with
 | .bool true=>0
 | _=>match w.heap[b1]? with
   | some (.cells cs _ _)=>1+IV (cs[11]?.getD undef)
   | _=>0
theorem EK {b1:Nat} {a:Act} {cs:List Value} {ty:TypeId} {fr:Nat×Nat} (h7:a.tmps.getD 7 undef=.bool false) (h:w.heap[b1]? = some (.cells cs.toArray ty fr)) (hv:cs[11]?.getD undef=v):MT b1 a w=1+IV v:=by
 unfold MT;rw [h7,h,← hv];simp
theorem JG {b1:Nat} {a:Act} {mm:MsgR} {q a2 e:Value} {ty:TypeId} {fr:Nat×Nat} (h7:a.tmps.getD 7 undef=.bool false) (h:w.heap[b1]? = some (.cells (aP mm q a2 u e).toArray ty fr)):MT b1 a w=1+IV e:=EK h7 h rfl
theorem Own.cut0 (h:Own B k e w v es) {n:Nat} (hn:n≤es.length):Own B k e w (dD v k 0 n) (es.take n):=by
 rcases h.form with ⟨rfl,rfl⟩|⟨g,cap,rfl,_⟩
 ·have:n=0:=by simpa using hn
  subst this
  simpa [dD]using h
 ·have:=h.short hn
  simpa [dD,Addr.add]using this
section
variable {P:Program} {a:Act} {w:World} {d:Option Nat} {ty:TypeId} {ps:String} {af:Array Edge} {g:Option (Nat×Bool)}
theorem gR {P:Program} {fn:Func} {ts:List Value} {p q r:Tmp} {t:TypeId} (h:fn.results=#[.cell p t, .tmp q, .tmp r]) {cs:List Value} {ty0:TypeId} {fr:Nat×Nat} (hp:ts.getD p undef=.pointer (some ⟨b,0,none⟩)) (hb:w.heap[b]? = some (.cells cs.toArray ty0 fr)) (ht:eF P t cs.length=true) :
 (results fn ts.toArray).run P w=.ok (.tuple #[.agg cs.toArray,ts.getD q undef,ts.getD r undef]) w:=by
 obtain ⟨u,ie,hu,hn,hie,hz⟩:=jV ht;have hl:=run_loadCells_list (P:=P) w ⟨b,0,none⟩ cs (fun j v hv=>by rw [cY,Nat.zero_add,cell_of_row w b j _ _ _ hb];simpa using hv);have hp':ts[p]?.getD undef=.pointer (some ⟨b,0,none⟩):=by simpa using hp
 simp [results,h,hp',asAddr,loadVar,Sem.run_bind,jW hu hn,sizeOf,typeInfo,hie,hz,hl,Result.andThen]
end
theorem YG (m:MsgR) (q a u e:Value) (limit:Int) (w:World) (hm:MsgV w m q a u e):Calls Tryz.prog 90 #[.agg (aP m q a u e).toArray, .int .i64 limit] w (kZ w (SX w (vB m limit))):=by
 have hF:dY m=0∧1≤limit∧limit≤65535→uZ m limit m.ex.length=vB m limit:=fun cc=>by unfold vB;rw [if_neg aC]
 have hF2:¬ (dY m=0∧1≤limit∧limit≤65535)→vB m limit=(zeroM,[],1):=fun cc=>by unfold vB;rw [if_pos aC]
 generalize vB m limit=RES at *;go_enter Tryz.func90,Tryz.ntmps90
 refine_lift mT fun _ _=>?_;refine jO (vs:=aP m q a u e) fun w1 x1 s1 hb1=>?_;refine aB ?_;refine dX (z:=iW) fun w2 x2 s2 hz2=>?_;refine aB ?_;have x02:=x1.trans x2;have hb2:=x2.at hb1;have hpM:=aA (cs:=aP m q a u e) hb2;unfold aP at hpM;have hm2:=hm.ext x02;have hbb:w.heap.size≠w1.heap.size:=aC;have hw1:w.heap.size≤w1.heap.size:=aC;have hB1:w.heap.size<w2.heap.size:=aC;have hB2:w1.heap.size<w2.heap.size:=aC;have hBw:∀ k,w2.heap.size≤k→w.heap.size≤k:=fun k h=>by omega
 refine_lift aT ?_;generalize hb1e:w.heap.size=b1 at *;generalize hb2e:w1.heap.size=b2 at *;generalize hBe:w2.heap.size=B at *;refine CF 0 (fun a' wr=>∃ (cut:Bool) (n:Nat) (mm:MsgR) (q' a2 u2 e2 u8 u9 u10 u11 u12 u13 u14 u15 u16 u17 u18 u19 u20 u21 u22 u23 u24 u25 u26 u27 u28 u29 u30 u31 u32 u33 u34 u35 u36 u37 u38 u39 u40 u41 u42 u43 u44 u45 u46 u47 u48 u49 u50 u51 u52 u53 u54 u55 u56 u57 u58 u59 u60 u61 u62 u63 u64 u65 u66 u67 u68 u69 u70 u71 u72 u73:Value),a'=Act.mk [.agg (aP m q a u e).toArray, .int .i64 limit, .pointer (some ⟨b1,0,none⟩),undef, .pointer (some ⟨b2,0,none⟩),aE [], .int .i64 0, .bool cut,u8,u9,u10,u11,u12,u13,u14,u15,u16,u17,u18,u19,u20,u21,u22,u23,u24,u25,u26,u27,u28,u29,u30,u31,u32,u33,u34,u35,u36,u37,u38,u39,u40,u41,u42,u43,u44,u45,u46,u47,u48,u49,u50,u51,u52,u53,u54,u55,u56,u57,u58,u59,u60,u61,u62,u63,u64,u65,u66,u67,u68,u69,u70,u71,u72,u73].toArray []∧FitIn w B b1 b2 m limit RES cut n mm q' a2 u2 e2 wr) (MT b1) rfl ?_ ?_
 ·rintro a' wr ⟨cut,n,mm,q',a2,u2,e2,u8,u9,u10,u11,u12,u13,u14,u15,u16,u17,u18,u19,u20,u21,u22,u23,u24,u25,u26,u27,u28,u29,u30,u31,u32,u33,u34,u35,u36,u37,u38,u39,u40,u41,u42,u43,u44,u45,u46,u47,u48,u49,u50,u51,u52,u53,u54,u55,u56,u57,u58,u59,u60,u61,u62,u63,u64,u65,u66,u67,u68,u69,u70,u71,u72,u73,rfl,hI⟩;have hmr:=hI.msg;have hp1:=aA (cs:=aP mm q' a2 u2 e2) hI.blk1;unfold aP at hp1;refine_lift lQ ?_;intro _ _ _;refine cB (rI hmr) fun w5 x5=>?_;have hyes:=hI.yes;have hfe:=PC (limit:=limit) (x:=mm);have hfd:qD limit mm=(decide ((bP mm).2=0)&&decide (((bP mm).1.length:Int)≤limit)):=rfl;have hz5:=x5.at hI.blk2;have hb5:=x5.at hI.blk1;have x05:=hI.ext.trans x5;have oq5:=hI.oq.ext x5;have oa5:=hI.oa.ext x5;have ou5:=hI.ou.ext x5;have oe5:=hI.oe.ext x5;generalize bP mm=E at *;obtain ⟨eb,ee⟩:=E;dsimp only at *;have hp1:=hp1.ext x5;by_cases hfit:qD limit mm=true
  ·obtain ⟨f1,f2⟩:=hfe hfit;subst f1;have hR:=hyes hfit;refine_lift EZ fun _ _ _ _ _=>?_
   all_goals first
    | (have hh:False:=aC
       exact hh.elim)
    | skip
   have hm5:=hmr.ext x5;refine dL (v:=.agg (aP mm q' a2 u2 e2).toArray) hz5 (dR hm5) fun w6 p6=>?_;have x6:=cJ x05 p6;refine_lift aT ?_
   (try simp only [Exit.inBlock,Exit.then,Exit.jump])
   refine bodyPost_ret (gR (cs:=aP mm q' a2 u2 e2) rfl rfl p6.this (zDk:eF Tryz.prog 54 13=true)) rfl ⟨_,rfl,x6,?_⟩;rw [hR];exact ⟨q',a2,u2,e2,rfl,(eM oq5 p6 hz5).sl,(eM oa5 p6 hz5).sl,(eM ou5 p6 hz5).sl,(eM oe5 p6 hz5).sl⟩
  ·cases cut with
   | true =>
    have hE:=hI.end_ hfit;have hnf:¬ (ee=0∧(eb.length:Int)≤limit):=by rintro ⟨h1,h2⟩;exact hfit (by rw [hfd];simp [h1,h2])
    refine_lift Cc (fun _ _ hc _ _=>?_) (fun _ _ hc _ _ _=>?_)
    all_goals first
     | (have hh:False:=aC
        exact hh.elim)
     | skip
    all_goals refine aG (v:=.agg iW.toArray) (Runs.build0 (by kernel_rfl)) ?_
    all_goals refine aB ?_
    all_goals refine dL (v:=.agg iW.toArray) hz5 zDk ?_
    all_goals intro w6 p6
    all_goals have x6:=cJ x05 p6
    all_goals refine_lift aT ?_
    all_goals (try simp only [Exit.inBlock,Exit.then,Exit.jump])
    all_goals refine bodyPost_ret (gR (cs:=iW) rfl rfl p6.this zDk) rfl ⟨_,rfl,x6,?_⟩
    all_goals rw [hE]
    all_goals exact ⟨_,_,_,_,rfl,MsgV.zero _⟩
   | false =>
    obtain ⟨hmm,hnl,hn0,hn1⟩:=hI.on hfit;have hnf:¬ (ee=0∧(eb.length:Int)≤limit):=by rintro ⟨h1,h2⟩;exact hfit (by rw [hfd];simp [h1,h2])
    have hrl:=aJ mm.ex;have hel:mm.ex.length=n:=by rw [hmm];show (m.ex.take n).length=n;rw [List.length_take];omega
    have hse:=oe5.sl;by_cases hn:n=0
    ·have hEn:=hn0 hn
     (repeat' first|((with_reducible refine aZ ?_);go_step)|((with_reducible refine aS ?_);first|refine dN ?_|(refine bG ?_ ?_<;>intro hc))|fail)
     all_goals first
      | (have hh:False:=aC
         exact hh.elim)
      | skip
     all_goals (
      refine fA 4 (.bool true) hb5 rfl fun w6 p6=>?_;have hb6:w6.heap[b1]? = some (.cells [.int .i64 mm.id, .bool mm.resp, .int .i64 mm.op, .bool mm.auth, .bool true, .bool mm.want, .bool mm.avail, .int .i64 mm.rcode,q',a2,u2,e2, .int .i64 mm.size].toArray 54 (0,0)):=p6.this;refine_lift aT ?_;refine fA 9 aI hb6 rfl fun w7 p7=>?_;have hb7:w7.heap[b1]? = some (.cells [.int .i64 mm.id, .bool mm.resp, .int .i64 mm.op, .bool mm.auth, .bool true, .bool mm.want, .bool mm.avail, .int .i64 mm.rcode,q',aI,u2,e2, .int .i64 mm.size].toArray 54 (0,0)):=p7.this;refine_lift aT ?_;refine fA 10 aI hb7 rfl fun w8 p8=>?_;have hb8:w8.heap[b1]? = some (.cells [.int .i64 mm.id, .bool mm.resp, .int .i64 mm.op, .bool mm.auth, .bool true, .bool mm.want, .bool mm.avail, .int .i64 mm.rcode,q',aI,aI,e2, .int .i64 mm.size].toArray 54 (0,0)):=p8.this;refine_lift aT ?_;refine fA 11 aI hb8 rfl fun w9 p9=>?_;have hb9:w9.heap[b1]? = some (.cells [.int .i64 mm.id, .bool mm.resp, .int .i64 mm.op, .bool mm.auth, .bool true, .bool mm.want, .bool mm.avail, .int .i64 mm.rcode,q',aI,aI,aI, .int .i64 mm.size].toArray 54 (0,0)):=p9.this;have m69:Mv (some b1) w5 w9:=((p6.mv.trans p7.mv).trans p8.mv).trans p9.mv;have oq9:=oq5.mv m69 (.inr (oq5.neBlock hb5 aK));have hz9:=m69.at hz5 (by intro e9;exact hbb (Option.some.inj e9).symm);have x9:Ext w w9:=x05.move m69 (by rintro k ⟨⟩;omega);refine_lift aT ?_
      go_step3
      (try simp only [Exit.inBlock,Exit.then,Exit.jump])
      refine ⟨rfl,⟨true,0,SW m,q',aI,aI,aI,_,_,_,_,_,_,_,_,_,_,_,_,_,_,_,_,_,_,_,_,_,_,_,_,_,_,_,_,_,_,_,_,_,_,_,_,_,_,_,_,_,_,_,_,_,_,_,_,_,_,_,_,_,_,_,_,_,_,_,_,_,_,_,_,_,_,rfl,⟨?_,hz9,x9,?_,Own.nil _ _ _ _,Own.nil _ _ _ _,Own.nil _ _ _ _,hI.len, .inr ⟨rfl,rfl,hEn⟩⟩⟩,?_⟩
      ·rw [hb9,hmm];rfl
      ·rw [hmm]at oq9;exact oq9
      ·rw [JG rfl hI.blk1];show 0<_;omega)
    ·obtain ⟨k,rfl⟩:∃ k,n=k+1:=⟨n - 1,aC⟩;have hEn:=hn1 k rfl;have hlen:=hI.len
     (repeat' first|((with_reducible refine aZ ?_);go_step)|((with_reducible refine aS ?_);first|refine dN ?_|(refine bG ?_ ?_<;>intro hc))|fail)
     all_goals first
      | (have hh:False:=aC
         exact hh.elim)
      | skip
     all_goals (
      rw [show (((aF mm.ex).length:Int) - 1).toNat=k by omega];have oc5:=oe5.cut0 (n:=k) aC;refine fA 11 (dD e2 4 0 k) hb5 oc5.one fun w6 p6=>?_;have hb6:w6.heap[b1]? = some (.cells [.int .i64 mm.id, .bool mm.resp, .int .i64 mm.op, .bool mm.auth, .bool mm.trunc, .bool mm.want, .bool mm.avail, .int .i64 mm.rcode,q',a2,u2,dD e2 4 0 k, .int .i64 mm.size].toArray 54 (0,0)):=p6.this;have m69:=p6.mv;have oq9:=oq5.mv m69 (.inr (oq5.neBlock hb5 aK));have oa9:=oa5.mv m69 (.inr (oa5.neBlock hb5 aK));have ou9:=ou5.mv m69 (.inr (ou5.neBlock hb5 aK));have oe9:=oc5.mv m69 (.inr (oc5.neBlock hb5 aK));have hz9:=m69.at hz5 (by intro e9;exact hbb (Option.some.inj e9).symm);have x9:Ext w w6:=x05.move m69 (by rintro k ⟨⟩;omega);have hex:(aF mm.ex).take k=aF (fX m k).ex:=by
       rw [hmm];simp only [fX,aF,← List.map_take,List.take_take];rw [show min k (k+1)=k by omega]
      rw [hex]at oe9;refine_lift aT ?_
      go_step3
      (try simp only [Exit.inBlock,Exit.then,Exit.jump])
      refine ⟨rfl,⟨false,k,fX m k,q',a2,u2,dD e2 4 0 k,_,_,_,_,_,_,_,_,_,_,_,_,_,_,_,_,_,_,_,_,_,_,_,_,_,_,_,_,_,_,_,_,_,_,_,_,_,_,_,_,_,_,_,_,_,_,_,_,_,_,_,_,_,_,_,_,_,_,_,_,_,_,_,_,_,_,rfl,⟨?_,hz9,x9,?_,?_,?_,oe9,hI.len, .inl ⟨rfl,aC,rfl,hEn⟩⟩⟩,?_⟩
      ·rw [hb6,hmm];rfl
      ·rw [hmm]at oq9;exact oq9
      ·rw [hmm]at oa9;exact oa9
      ·rw [hmm]at ou9;exact ou9
      ·rw [JG rfl hI.blk1,EK rfl hb6 rfl];show 1+IV (dD e2 4 0 k)<_;rw [hse.slLen,oe9.sl.slLen,aJ,aJ];have:(fX m k).ex.length=k:=by show (m.ex.take k).length=k;rw [List.length_take];omega
       omega)
 ·intro hp;refine_lift EZ ?_;intro _ _ _ _ _;refine cB (BC m q a u e _ hm2) fun w3 x3=>?_;have x03:=x02.trans x3;have hz3:=x3.at hz2;have hb3:=x3.at hb2;have hpM:=hpM.ext x3;have hm3:=hm2.ext x3;by_cases cc:dY m=0∧1≤limit∧limit≤65535
  ·have hok:=wG cc.1;have hRE:=hF cc;obtain ⟨c1,c2,c3⟩:=cc;have hql:=hok.ql;have hnl:=hok.nl;have hul:=hok.ul;have hel:=hok.el
   (repeat' first|((with_reducible refine aZ ?_);go_step)|((with_reducible refine aS ?_);first|refine dN ?_|(refine bG ?_ ?_<;>intro hc))|fail)
   all_goals first
    | (have hh:False:=aC
       exact hh.elim)
    | (have hh:False:=by
        have h9:=‹(!decide (dY m=0))=true›;rw [decide_eq_true c1]at h9;cases h9
       exact hh.elim)
    | skip
   refine aO 5 (Ext w3) zDk ?_;intro w21 x21 _;refine ⟨x21,?_⟩;refine bE 0 ?_;refine bE 1 ?_;refine bE 3 ?_;refine bE 4 ?_;refine dH 2 ?_;refine sC (BK q m.qs _ (hm3.qs.ext x21) aC) fun qv w22 x22 oqv=>?_;refine aD ⟨aR (x21.trans x22),?_⟩;refine cZ 6 ?_;refine dH 5 ?_;refine sC (jJ a m.an _ (hm3.an.ext (x21.trans x22)) aC) fun av w23 x23 oav=>?_;have y21:=(x21.trans x22).trans x23;have hB21:=y21.at hb3;refine aD ⟨aN rfl,?_⟩;refine dH 7 ?_;refine fA 8 qv hB21 oqv.one fun w24 p24=>?_;have hB24:w24.heap[b1]? = some (.cells [.int .i64 m.id, .bool m.resp, .int .i64 m.op, .bool m.auth, .bool m.trunc, .bool m.want, .bool m.avail, .int .i64 m.rcode,qv,a,u,e, .int .i64 m.size].toArray 54 (0,0)):=p24.this;refine aD ⟨aN rfl,?_⟩;refine cZ 8 ?_;refine dH 9 ?_;refine fA 9 av hB24 oav.one fun w25 p25=>?_;have hB25:w25.heap[b1]? = some (.cells [.int .i64 m.id, .bool m.resp, .int .i64 m.op, .bool m.auth, .bool m.trunc, .bool m.want, .bool m.avail, .int .i64 m.rcode,qv,av,u,e, .int .i64 m.size].toArray 54 (0,0)):=p25.this;refine aD ⟨aN rfl,?_⟩;refine jP ?_;have mv21:=p24.mv.trans p25.mv;have x025:Ext w w25:=(x03.trans y21).move mv21 (by rintro k ⟨⟩;omega);have oq25:=(oqv.ext x23).mv mv21 (.inr ((oqv.ext x23).neBlock hB21 aK));have oa25:=oav.mv mv21 (.inr (oav.neBlock hB21 aK));have hp25:=aA (cs:=[.int .i64 m.id, .bool m.resp, .int .i64 m.op, .bool m.auth, .bool m.trunc, .bool m.want, .bool m.avail, .int .i64 m.rcode,qv,av,u,e, .int .i64 m.size]) hB25;have hz25:=mv21.at (y21.at hz3) (by intro e9;exact hbb (Option.some.inj e9).symm);have hmu:=hm.au.ext x025;have hme:=hm.ex.ext x025;clear hpM;refine_lift bU fun _ _=>?_;refine aO 5 (Ext w25) zDk ?_;intro w31 x31 _;refine ⟨x31,?_⟩;refine bE 0 ?_;refine bE 1 ?_;refine bE 3 ?_;refine bE 4 ?_;refine dH 2 ?_;refine sC (jJ u m.au _ (hmu.ext x31) aC) fun uv w32 x32 ouv=>?_;refine aD ⟨aR (x31.trans x32),?_⟩;refine cZ 6 ?_;refine dH 5 ?_;refine sC (jJ e m.ex _ (hme.ext (x31.trans x32)) aC) fun ev w33 x33 oev=>?_;have y31:=(x31.trans x32).trans x33;have hB31:=y31.at hB25;refine aD ⟨aN rfl,?_⟩;refine dH 7 ?_;refine fA 10 uv hB31 ouv.one fun w34 p34=>?_;have hB34:w34.heap[b1]? = some (.cells [.int .i64 m.id, .bool m.resp, .int .i64 m.op, .bool m.auth, .bool m.trunc, .bool m.want, .bool m.avail, .int .i64 m.rcode,qv,av,uv,e, .int .i64 m.size].toArray 54 (0,0)):=p34.this;refine aD ⟨aN rfl,?_⟩;refine cZ 8 ?_;refine dH 9 ?_;refine fA 11 ev hB34 oev.one fun w35 p35=>?_;have hB35:w35.heap[b1]? = some (.cells [.int .i64 m.id, .bool m.resp, .int .i64 m.op, .bool m.auth, .bool m.trunc, .bool m.want, .bool m.avail, .int .i64 m.rcode,qv,av,uv,ev, .int .i64 m.size].toArray 54 (0,0)):=p35.this;refine aD ⟨aN rfl,?_⟩;refine jP ?_;have mv31:=p34.mv.trans p35.mv;have x035:Ext w w35:=(x025.trans y31).move mv31 (by rintro k ⟨⟩;omega);have oq35:=(oq25.ext y31).mv mv31 (.inr ((oq25.ext y31).neBlock hB31 aK));have oa35:=(oa25.ext y31).mv mv31 (.inr ((oa25.ext y31).neBlock hB31 aK));have ou35:=(ouv.ext x33).mv mv31 (.inr ((ouv.ext x33).neBlock hB31 aK));have oe35:=oev.mv mv31 (.inr (oev.neBlock hB31 aK));have hz35:=mv31.at (y31.at hz25) (by intro e9;exact hbb (Option.some.inj e9).symm);have hk3:B≤w3.heap.size:=by have:=x3.size;omega
   have hk21:B≤w21.heap.size:=by have:=x21.size;omega
   have hk22:B≤w22.heap.size:=by have:=x22.size;omega
   have hk25:B≤w25.heap.size:=by have:=x23.size;have:=mv21.size;omega
   have hk31:B≤w31.heap.size:=by have:=x31.size;omega
   have hk32:B≤w32.heap.size:=by have:=x32.size;omega
   have hwm:fX m m.ex.length=m:=by unfold fX;rw [List.take_length]
   refine_lift bU fun _ _=>?_
   go_step3
   (first|((with_reducible refine aZ ?_);go_step)|fail)
   (first|((with_reducible refine aZ ?_);go_step)|fail)
   refine hp _ _ ?_;refine ⟨false,m.ex.length,m,qv,av,uv,ev,_,_,_,_,_,_,_,_,_,_,_,_,_,_,_,_,_,_,_,_,_,_,_,_,_,_,_,_,_,_,_,_,_,_,_,_,_,_,_,_,_,_,_,_,_,_,_,_,_,_,_,_,_,_,_,_,_,_,_,_,_,_,_,_,_,_,rfl,hB35,hz35,x035,oq35.weaken hk21,oa35.weaken hk22,ou35.weaken hk31,oe35.weaken hk32,aC, .inl ⟨rfl,Nat.le_refl _,hwm.symm,hRE⟩⟩
  ·have hRE:=hF2 cc
   (repeat' first|((with_reducible refine aZ ?_);go_step)|((with_reducible refine aS ?_);first|refine dN ?_|(refine bG ?_ ?_<;>intro hc))|fail)
   all_goals first
    | (have hh:False:=aC
       exact hh.elim)
    | (have hh:False:=by
        have h9:=‹(!decide (dY m=0))=false›;simp only [Bool.not_eq_false',decide_eq_true_eq]at h9;omega
       exact hh.elim)
    | skip
   all_goals (
    refine aG (v:=.agg iW.toArray) (Runs.build0 (by kernel_rfl)) ?_;refine aB ?_;refine dL (v:=.agg iW.toArray) hz3 zDk fun w6 p6=>?_;have x6:=cJ x03 p6;refine_lift aT ?_
    (try simp only [Exit.inBlock,Exit.then,Exit.jump])
    refine bodyPost_ret (gR (cs:=iW) rfl rfl p6.this zDk) rfl ⟨_,rfl,x6,?_⟩;rw [hRE];exact ⟨_,_,_,_,rfl,MsgV.zero _⟩)
end Go.Proofs.X
