/- Laws and walks that the proof of the statement is made of (part 14). -/
import Derived.Test.YtfkckeaadnoeiaaGreatP13
set_option linter.unusedSimpArgs false
set_option linter.unusedVariables false
set_option maxRecDepth 100000
set_option maxHeartbeats 20000000
namespace Go.Proofs.X
open Go.RowKit
variable {cs:Array Value} {held:Bool} {qt:Int} {ps rs:List (List UInt8 × Nat)} {ls:List (List UInt8)} {css css0 es:List (List Value)} {d l m n o qn s t x y z:List UInt8} {B a b base c e fuel i j k p q:Nat} {fz:Nat × Nat} {row:Option Nat} {r u v:Value} {w w' w0 w1 w2:World}
def OI:List UInt8:=[0,0,0,0,0,5,0,0,0,10,0,0,0,3,0,0,0,100,0,0,0,4]
def AT:List Rec:=[⟨[],6,9,OI⟩,⟨[],2,9,[1,114,0]⟩,⟨[1,97],2,9,[1,110,1,97,0]⟩,⟨[1,110,1,97],1,9,[10,0,0,1]⟩]
def pN (l:List Rec):List Rec:=[⟨[1,97],6,9,OI⟩,⟨[1,97],2,9,[1,110,1,97,0]⟩,⟨[1,110,1,97],1,9,[10,0,0,1]⟩] ++ l
def gD:Rec:=⟨[1,120,1,97],1,7,[49,50,51,52]⟩
def Aw:List RSet:=pR [] AT
def Ax (l:List Rec):List RSet:=pR [1,97] (pN l)
theorem Cn:jJ [] AT=0:=zDk
theorem Co:jJ [1,97] (pN [gD])=0:=zDk
theorem Cp:jJ [1,97] (pN [])=0:=zDk
def hR:HldR:={ o:=[],l:=Aw,org:=[],up:=true }
def hA (l:List Rec):HldR:={ o:=[1,97],l:=Ax l,org:=[1,97],up:=true }
def tq:mH:=([1,88,1,97],1)
def Dk:NodeR:=NodeR.new [0] 20 50 1000 5
def tS1:NodeR:=Dk.ask ⟨91,5,tq.1⟩ tq 0
def OJ:NodeR:={ tS1 with out:=[] }
def IF:NTask:=tS1.nt.getD ⟨0,eF [] 0 [] 0,[],0,[],0,0,zeroM,0⟩
theorem Cq:cO (qB 5 tq)=(qM 5 tq,0):=zDk
theorem SS:tS1.out=[(0,(bJ IF.q).1)]:=zDk
def XO:List UInt8:=(iK [hR] (bJ IF.q).1 false).1
theorem Cr:(iK [hR] (bJ IF.q).1 false).2=true:=zDk
def XP:MsgR:=(cO XO).1
theorem Cs:(cO XO).2=0:=zDk
theorem XQ:XP.resp=true∧IE IF.q XP=true:=zDk
def OK:=IF.t.reply XP
theorem ST:OK.2.1.kind=1∧OK.2.1.to=1∧OK.2.2.length=2:=zDk
def tY:WaitR:=⟨1,fold tq.1,1,[⟨91,5,tq.1⟩]⟩
theorem Ct:OJ.tt=some tY:=rfl
theorem Cu:OJ.nt=some IF:=rfl
def tS2:NodeR:=OJ.tolds IF tY OK.1 OK.2.1 OK.2.2 0
def VW:NodeR:={ tS2 with out:=[] }
def FP:NTask:=tS2.nt.getD ⟨0,eF [] 0 [] 0,[],0,[],0,0,zeroM,0⟩
theorem Cv:tA OJ.C OK.2.2 0=true:=zDk
theorem SU:tS2.nt.isSome=true∧IF.to=0∧FP.to=1∧FP.n=1:=zDk
theorem SV:tS2.out=[(1,(bJ FP.q).1)]:=zDk
theorem Cw:VW.tt=some tY:=by
 show (OJ.tolds IF tY OK.1 OK.2.1 OK.2.2 0).tt=_;rw [NodeR.tolds,if_pos ST.1];rfl
def XR:List UInt8:=(iK [hA [gD]] (bJ FP.q).1 false).1
theorem Cx:(iK [hA [gD]] (bJ FP.q).1 false).2=true:=zDk
def XS:MsgR:=(cO XR).1
theorem Cy:(cO XR).2=0:=zDk
theorem XT:XS.resp=true∧IE FP.q XS=true:=zDk
def TO:=FP.t.reply XS
theorem SW:TO.2.1.kind=2∧TO.2.1.auth=[]∧TO.2.2.length=1:=zDk
theorem Cz:tA VW.C TO.2.2 0=true:=zDk
def tS3:NodeR:=VW.tolds FP tY TO.1 TO.2.1 TO.2.2 0
def VX:NodeR:={ tS3 with out:=[] }
theorem Da:tS3.out.map (·.1)=[91]:=zDk
def XU:List UInt8:=(tS3.out.headD (0,[])).2
def SX:MsgR:=(cO XU).1
theorem Db:(cO XU).2=0:=zDk
theorem SY:SX.resp=true∧SX.id=5∧SX.an=[gD]:=zDk
theorem Dc:VX.nt.isSome=false:=zDk
abbrev iW:=Int × Int × List UInt8
def eA (l:List iW):List (List Value):=l.map fun p=>[.int .i64 p.1, .int .i64 p.2.1,aE p.2.2]
theorem kQ (l:List iW):(eA l).length=l.length:=List.length_map ..
theorem KG {l:List iW}:∀ f ∈ eA l,∀ u ∈ f,u.oneCell'=true:=by
 intro f hf u hu;obtain ⟨r,_,rfl⟩:=List.mem_map.1 hf;simp only [List.mem_cons,List.not_mem_nil,or_false] at hu;rcases hu with rfl | rfl | rfl <;> rfl
theorem SZ {l:List iW} (h:Own B 3 107 w v (eA l)) (hi:i < l.length) (hl:l.length≤1000000):Calls Tryz.prog 80 #[v, .int .i64 i, .int .i64 (i + 1:Nat)] w fun e w'=>∃ v',e=.returned v'∧Own B 3 107 w' v' (eA (l.eraseIdx i))∧Mv v.ownBlock w w'∧v'.ownBlock=v.ownBlock:=by
 have hlen:=kQ l;have h1c:=KG (l:=l);rcases h.form with ⟨rfl,hn⟩ | ⟨g,cap,rfl,hg,hb,hc,_⟩
 ·exfalso
  rw [hn] at hlen;simp at hlen;omega
 ·have hs:=h.sl;rw [hlen] at hc;have hs':=hs;rw [hlen] at hs';go_enter Tryz.func80,Tryz.ntmps80
  refine_lift lI ?_;intro _ _ _;refine aG (Runs.cut3 (k:=3) (m:=i) (n:=i + 1) (p:=l.length) (l:=(eA l).length) (c:=cap) (ad:=some ⟨g,0,none⟩) rfl rfl rfl (by rw [← hlen];rfl) aC aC hc zDk) ?_;refine aB ?_;refine_lift lI fun _ _ _ => ?_;refine aP 6 (fun w'=>Sl 3 w' (Value.slice (some ⟨g,0,none⟩) (eA l).length cap) (eA l)) zDk ?_;intro w1 x1 _;refine ⟨hs.ext x1,?_⟩;refine bE 0 ?_;refine bE 1 ?_;refine bE 2 ?_;refine bE 3 ?_;refine bE 4 ?_;refine bE 5 ?_;have e22:dD (Value.slice (some ⟨g,0,none⟩) (eA l).length cap) 3 0 i=.slice (some ⟨g,0,none⟩) i cap:=by simp [dD,cX]
  obtain ⟨ad,e25⟩:∃ ad,dD (Value.slice (some ⟨g,0,none⟩) (eA l).length cap) 3 (i + 1) (eA l).length=.slice (some ad) ((eA l).length - (i + 1)) (cap - (i + 1)):=by
   by_cases hq:cap=i + 1
   ·exact ⟨⟨g,0,none⟩,by simp [dD,hq]⟩
   ·exact ⟨_,by simp only [dD,if_neg hq];rfl⟩
  have hcut:=(hs.ext x1).cut (m:=i + 1) (n:=(eA l).length) aC (Nat.le_refl _);rw [e25,List.take_length] at hcut;refine dM 6 ?_;refine GF (i:=i) (j:=i + 1) (h.ext x1) e22 e25 hcut aC aC h1c ?_;intro w2 o2 m2;refine aB ?_;refine aD ⟨aN rfl,?_⟩;refine dC 7 ?_;refine kK ?_;obtain ⟨m,hm⟩:∃ m,i + ((eA l).length - (i + 1))=m:=⟨_,rfl⟩;rw [hm] at o2 ⊢;have ee:(eA l).take i ++ (eA l).drop (i + 1)=eA (l.eraseIdx i):=by
   rw [List.eraseIdx_eq_take_drop_succ];simp [eA,List.map_take,List.map_drop]
  rw [ee] at o2;have hml:(eA (l.eraseIdx i)).length=m:=by rw [kQ,List.length_eraseIdx_of_lt hi];omega
  have h2l:(eA (l.eraseIdx i) ++ (eA l).drop m).length=(eA l).length:=by rw [List.length_append,hml,List.length_drop];omega
  have hsh:=o2;rw [← h2l] at hsh;have hsh:=hsh.short (m:=m) aC;rw [List.take_left' hml] at hsh;have hs2:=hsh.sl;refine_lift bK fun _ _ => ?_;refine aG (Runs.cutC (k:=3) (m:=m) (n:=l.length) (l:=m) (c:=cap) (ad:=some ⟨g,0,none⟩) rfl (by rw [← hml];rfl) (by rw [← hlen];rfl) aC hc zDk) ?_;refine aB ?_;have e31:(if cap=m then some (⟨g,0,none⟩:Addr) else Option.map (fun x:Addr=>x.add (m * 3)) (some (⟨g,0,none⟩:Addr)))=some (⟨g,m * 3,none⟩:Addr):=by
   rw [if_neg aC];simp [cX]
  rw [e31];rw [← h2l] at o2;have h2l':(eA (l.eraseIdx i) ++ (eA l).drop m).length=l.length:=aC;refine yU (m:=m) (z:=[.int .i64 0, .int .i64 0,aE []]) o2 (by rw [h2l'];rfl) aC ?_;intro w3 o3 m3;rw [List.take_left' hml] at o3;refine_lift aR ?_;go_ret;exact ⟨_,rfl,o3,(x1.mv (some g)).trans (m2.trans m3),rfl⟩
theorem IG (n a b:Int) (w:World):Calls Tryz.prog 65 #[.int .i64 n, .int .i64 a, .int .i64 b] w (aY w (.bool (decide (a≤n) && decide (n≤b)))):=by
 go_enter Tryz.func65,Tryz.ntmps65
 refine_lift jD (fun hc => ?_) (fun hc => ?_)
 all_goals
  go_ret;refine ⟨?_,Ext.refl _⟩;simp;omega
structure NetV (B:Nat) (w:World) (nb:Nat) (nodes room:Int) (pv:Value) (ps:List iW):Prop where
 ge:B≤nb
 blk:w.heap[nb]? = some (.cells #[.int .i64 nodes, .int .i64 room,pv] 147 (0,0))
 row:Own B 3 107 w pv (eA ps)
theorem NetV.ext {nb:Nat} {nodes room:Int} {pv:Value} {ps:List iW} (h:NetV B w nb nodes room pv ps) (hx:Ext w w'):NetV B w' nb nodes room pv ps:=⟨h.ge,hx.at h.blk,h.row.ext hx⟩
theorem Dd (nodes room:Int) (w:World) (h1:1≤nodes∧nodes≤100) (h2:1≤room∧room≤1000):Calls Tryz.prog 34 #[.int .i64 nodes, .int .i64 room] w (kX w fun r w'=>∃ nb,r=.tuple #[.pointer (some ⟨nb,0,none⟩), .int .i64 0]∧NetV w.heap.size w' nb nodes room (.slice none 0 0) []):=by
 have e1:(decide (1≤nodes) && decide (nodes≤100))=true:=by simp;omega
 have e2:(decide (1≤room) && decide (room≤1000))=true:=by simp;omega
 go_enter Tryz.func34,Tryz.ntmps34
 refine_lift EA ?_;intro _ _ _ _ _;refine bZ (IG nodes 1 100 _) fun w1 x1 => ?_;rw [e1];refine_lift aR ?_;refine bZ (IG room 1 1000 _) fun w2 x2 => ?_;rw [e2];refine_lift bK fun _ _ => ?_;refine aG (v:=.agg #[.int .i64 nodes, .int .i64 room, .slice none 0 0]) (Runs.build (vals:=[(0, .int .i64 nodes),(1, .int .i64 room)]) rfl (by kernel_rfl)) ?_;refine aB ?_;refine jP (vs:=[.int .i64 nodes, .int .i64 room, .slice none 0 0]) fun w3 x3 s3 b3 => ?_;refine aB ?_;refine_lift aR ?_;refine bodyPost_ret (results_tmp2 rfl _ _ _) rfl ?_;have x02:=x1.trans x2;exact ⟨_,rfl,x02.trans x3,_,rfl,x02.size,b3,Own.nil _ _ _ _⟩
theorem TA {nb:Nat} {nodes room:Int} {pv:Value} {ps:List iW} (h:NetV B w nb nodes room pv ps):Calls Tryz.prog 46 #[.pointer (some ⟨nb,0,none⟩)] w (aY w (.int .i64 ps.length)):=by
 have hp:=aA (cs:=[.int .i64 nodes, .int .i64 room,pv]) h.blk;have hs:=h.row.sl;have hlen:=kQ ps;go_enter Tryz.func46,Tryz.ntmps46
 refine_lift aR ?_;go_ret;rw [hlen];exact ⟨rfl,Ext.refl _⟩
def iL:List Value:=[.int .i64 0, .int .i64 0,aE []]
theorem LV {nb:Nat} {nodes room:Int} {pv:Value} (h:NetV B w nb nodes room pv []) (i:Int):Calls Tryz.prog 79 #[.pointer (some ⟨nb,0,none⟩), .int .i64 i] w (aY w (.tuple #[.agg iL.toArray, .bool false])):=by
 have e1:(decide (0≤i) && decide (i≤(([]:List iW).length:Nat) - 1))=false:=by simp;omega
 have h0:([]:List iW).length=0:=rfl;go_enter Tryz.func79,Tryz.ntmps79
 refine_lift bK fun _ _ => ?_;refine dT (z:=iL) fun w1 x1 s1 b1 => ?_;refine aB ?_;refine_lift mP fun _ _ _ _ => ?_;refine bZ (TA (h.ext x1)) fun w2 x2 => ?_;refine_lift aR ?_;refine bZ (IG i 0 ((([]:List iW).length:Nat) - 1) _) fun w3 x3 => ?_;rw [e1];refine_lift bK fun _ _ => ?_;refine aG (v:=.agg iL.toArray) (Runs.build0 (by kernel_rfl)) ?_;refine aB ?_;have x13:=x2.trans x3;refine dH (v:=.agg iL.toArray) (x13.at b1) (by simp [iL,Value.cells,aE,Value.oneCell']) fun w4 p4 => ?_;refine_lift aR ?_;exact bodyPost_ret (fQ (cs:=iL) rfl rfl p4.this zDk) rfl ⟨rfl,cB (x1.trans x13) p4⟩
theorem VY {nb:Nat} {nodes room:Int} {pv:Value} {p:iW} (h:NetV B w nb nodes room pv [p]):Calls Tryz.prog 79 #[.pointer (some ⟨nb,0,none⟩), .int .i64 0] w (aY w (.tuple #[.agg #[.int .i64 p.1, .int .i64 p.2.1,aE p.2.2], .bool true])):=by
 have hp:=aA (cs:=[.int .i64 nodes, .int .i64 room,pv]) h.blk;have e1:(decide ((0:Int)≤0) && decide ((0:Int)≤(([p]:List iW).length:Nat) - 1))=true:=aX;have h0:([p]:List iW).length=1:=rfl;have hs:=h.row.sl;go_enter Tryz.func79,Tryz.ntmps79
 refine_lift bK fun _ _ => ?_;refine dT (z:=iL) fun w1 x1 s1 b1 => ?_;refine aB ?_;refine_lift mP fun _ _ _ _ => ?_;refine bZ (TA (h.ext x1)) fun w2 x2 => ?_;refine_lift aR ?_;refine bZ (IG 0 0 ((([p]:List iW).length:Nat) - 1) _) fun w3 x3 => ?_;rw [e1];have x13:=x2.trans x3;have x03:=x1.trans x13;have hp3:=hp.ext x03;have hel:Pts w3 (cJ pv (0 * 3)) [.int .i64 p.1, .int .i64 p.2.1,aE p.2.2]:=(hs.ext x03).elem (i:=0) rfl;have hs3:=hs.ext x03;have h1:(eA [p]).length=1:=rfl;clear hp;refine_lift bK fun _ _ => ?_;refine dH (v:=.agg #[.int .i64 p.1, .int .i64 p.2.1,aE p.2.2]) (x13.at b1) (by simp [Value.cells,aE,Value.oneCell']) fun w4 p4 => ?_;refine_lift aR ?_;exact bodyPost_ret (fQ (cs:=[.int .i64 p.1, .int .i64 p.2.1,aE p.2.2]) rfl rfl p4.this (zDk:eE Tryz.prog 107 3=true)) rfl ⟨rfl,cB x03 p4⟩
theorem LW {nb:Nat} {nodes room:Int} {pv:Value} (h:NetV B w nb nodes room pv []) (i:Int):Calls Tryz.prog 38 #[.pointer (some ⟨nb,0,none⟩), .int .i64 i] w (aY w (.tuple #[.agg iL.toArray, .bool false])):=by
 go_enter Tryz.func38,Tryz.ntmps38
 refine_lift bK fun _ _ => ?_;refine dT (z:=iL) fun w1 x1 s1 b1 => ?_;refine aB ?_;refine_lift bK fun _ _ => ?_;refine bZ (LV (h.ext x1) i) fun w2 x2 => ?_;refine_lift aR ?_;refine dT (z:=iL) fun w3 x3 s3 b3 => ?_;refine aB ?_;refine dH (v:=.agg iL.toArray) b3 (by simp [iL,Value.cells,aE,Value.oneCell']) fun w4 p4 => ?_;have x24:=cB x3 p4;have x14:=x2.trans x24;have hp4:=aA (cs:=iL) p4.this;unfold iL at hp4;refine_lift lI fun _ _ _ => ?_;refine dH (v:=.agg iL.toArray) (x14.at b1) (by simp [iL,Value.cells,aE,Value.oneCell']) fun w5 p5 => ?_;refine_lift aR ?_;exact bodyPost_ret (fQ (cs:=iL) rfl rfl p5.this zDk) rfl ⟨rfl,cB (x1.trans x14) p5⟩
theorem FI {nb:Nat} {nodes room:Int} {pv:Value} {p:iW} (h:NetV B w nb nodes room pv [p]) (hB:B≤w.heap.size):Calls Tryz.prog 38 #[.pointer (some ⟨nb,0,none⟩), .int .i64 0] w (fun e w'=>e=.returned (.tuple #[.agg #[.int .i64 p.1, .int .i64 p.2.1,aE p.2.2], .bool true])∧∃ pv',NetV B w' nb nodes room pv' []∧Kf [147,107] [] w w'∧Lo B w w'∧∀ c,c < w.heap.size→c≠nb→some c≠pv.ownBlock→w'.heap[c]? = w.heap[c]?):=by
 have hp:=aA (cs:=[.int .i64 nodes, .int .i64 room,pv]) h.blk;go_enter Tryz.func38,Tryz.ntmps38
 refine_lift lI ?_;intro _ _ _;refine dT (z:=iL) fun w1 x1 s1 b1 => ?_;refine aB ?_;refine_lift bK fun _ _ => ?_;refine bZ (VY (h.ext x1)) fun w2 x2 => ?_;refine_lift aR ?_;refine dT (z:=iL) fun w3 x3 s3 b3 => ?_;refine aB ?_;refine dH (v:=.agg #[.int .i64 p.1, .int .i64 p.2.1,aE p.2.2]) b3 (by simp [Value.cells,aE,Value.oneCell']) fun w4 p4 => ?_;have x24:=cB x3 p4;have x14:=x2.trans x24;have x04:=x1.trans x14;have hp4:=hp.ext x04;have h4:=h.ext x04;have b4:=p4.this;clear hp;refine_lift lI fun _ _ _ => ?_;refine gI (SZ (i:=0) (l:=[p]) h4.row aX aX) ?_;rintro _ w5 ⟨pv',rfl,o5,m5,e5⟩;refine ⟨_,rfl,?_⟩;refine aB ?_;have n5:=m5.at h4.blk (fun e=>h4.row.neBlock h4.blk aJ e.symm);have z1:=x1.size;have z2:=x2.size;have hob0:=h.row.block;have q5:=m5.at b4 (fun e=>by have:=(hob0 _ e.symm).2;omega);have c5:=m5.at (x14.at b1) (fun e=>by have:=(hob0 _ e.symm).2;omega);have hpn5:=aA (cs:=[.int .i64 nodes, .int .i64 room,pv]) n5;clear hp4;refine_lift aR ?_;refine eZ 2 pv' n5 o5.one fun w6 p6 => ?_;have lb:nb < w.heap.size:=(Array.getElem?_eq_some_iff.1 h.blk).1;have z24:=x24.size;have z5:=m5.size;have z6:=p6.size;have q6:=(p6.other _ (by omega:w2.heap.size≠nb)).trans q5;have c6:=(p6.other _ (by omega:w.heap.size≠nb)).trans c5;have hpq6:=aA (cs:=[.int .i64 p.1, .int .i64 p.2.1,aE p.2.2]) q6;clear hpn5;refine_lift bK fun _ _ => ?_;refine dH (v:=.agg #[.int .i64 p.1, .int .i64 p.2.1,aE p.2.2]) c6 (by simp [Value.cells,aE,Value.oneCell']) fun w7 p7 => ?_;refine_lift aR ?_;have z7:=p7.size;have hge:=h.ge;have e0:eA (([p]:List iW).eraseIdx 0)=eA []:=rfl;rw [e0] at o5;have hob:=h4.row.block;refine tN (cs:=[.int .i64 p.1, .int .i64 p.2.1,aE p.2.2]) p7.this ⟨rfl,pv',⟨hge,(p7.other _ aC).trans p6.this,(eJ o5 p6 n5).mv p7.mv (.inr fun e=>by rw [e5] at e;have:=(hob0 _ e).2;omega)⟩,?_,?_,fun c g1 g2 g3 => ?_⟩
 ·exact (Kf.of x04).trans ((Kf.row h4.row m5 aX).trans ((Kf.put p6 n5 aX).trans (Kf.put p7 c6 aX)))
 ·exact (Lo.of x04).trans ((Lo.mv m5 fun k hk=>(hob k hk).1).trans ((Lo.put p6 hge).trans (Lo.put p7 hB)))
 ·rw [p7.other c aC,p6.other c g2,m5.block c (by have:=x04.size;omega) g3,x04.block c g1]
theorem KH {n a b:Int} (h:a≤n∧n≤b) (w:World):Calls Tryz.prog 65 #[.int .i64 n, .int .i64 a, .int .i64 b] w (aY w (.bool true)):=by
 have:=IG n a b w;rw [decide_eq_true h.1,decide_eq_true h.2] at this;exact this
theorem KI {nb:Nat} {nodes room:Int} {pv:Value} {ps:List iW} (h:NetV B w nb nodes room pv ps) (hB:B≤w.heap.size) (p:iW) (c1:0≤p.1∧p.1≤nodes - 1) (c2:0≤p.2.1∧p.2.1≤nodes - 1) (c3:1≤p.2.2.length∧p.2.2.length≤65535) (c4:(ps.length:Int) < room) (c5:room≤1000) (c6:nodes≤100) :
 Calls Tryz.prog 37 #[.pointer (some ⟨nb,0,none⟩), .agg #[.int .i64 p.1, .int .i64 p.2.1,aE p.2.2]] w (fun e w'=>e=.returned (.int .i64 0)∧∃ pv',NetV B w' nb nodes room pv' (ps ++ [p])∧Kf [147,107] [] w w'∧Lo B w w'∧∀ c,c < w.heap.size→c≠nb→some c≠pv.ownBlock→w'.heap[c]? = w.heap[c]?):=by
 have hp:=aA (cs:=[.int .i64 nodes, .int .i64 room,pv]) h.blk;have hs:=h.row.sl;have hlen:=kQ ps;go_enter Tryz.func37,Tryz.ntmps37
 refine_lift rW ?_;intro _ _ _;refine jP (vs:=[.int .i64 p.1, .int .i64 p.2.1,aE p.2.2]) fun w1 x1 s1 b1 => ?_;refine aB ?_;have hp1:=hp.ext x1;have hq1:=aA (cs:=[.int .i64 p.1, .int .i64 p.2.1,aE p.2.2]) b1;clear hp;refine_lift mP fun _ _ _ _ => ?_;refine cY zDk zDk ?_;refine_lift uV ?_;refine gX (enters_of Tryz.func65 rfl rfl) rfl rfl (fun w' x'=>KH (a:=0) c1 w') ?_;refine aB ?_;refine_lift uV ?_;refine gX (enters_of Tryz.func65 rfl rfl) rfl rfl (fun w' x'=>KH (a:=0) c2 w') ?_;refine aB ?_;refine_lift uV ?_;refine gX (enters_of Tryz.func65 rfl rfl) rfl rfl (fun w' x'=>KH (n:=(p.2.2.length:Nat)) (a:=1) (b:=65535) aC w') ?_;refine aB ?_;refine_lift uV ?_;intro w2 x2;have hp2:=hp1.ext x2;have hq2:=hq1.ext x2;have hs2:=(hs.ext x1).ext x2;clear hp1 hq1;refine_lift bK fun _ _ => ?_;refine cY zDk zDk ?_;refine_lift uV ?_;intro w3 x3;have hp3:=hp2.ext x3;have hq3:=hq2.ext x3;clear hp2 hq2 hs2;refine_lift lI fun _ _ _ => ?_;have x03:=x1.trans (x2.trans x3);have b3:=(x2.trans x3).at b1;have h3:=h.ext x03;refine aP 7 (Ext w3) zDk ?_;intro w4 x4 _;refine ⟨x4,?_⟩;refine dC 0 ?_;refine dC 1 ?_;refine dC 2 ?_;refine dC 3 ?_;refine bE 4 ?_;refine bE 5 ?_;refine dM 6 ?_;refine oN (e:=107) (k:=3) (bytes:=32) (xs:=[.agg #[.int .i64 p.1, .int .i64 p.2.1,aE p.2.2]]) (by simp [Value.cells]) fun v5 w5 x5 _ sl5 _ => ?_;refine aB ?_;have x35:=x4.trans x5;refine aD ⟨aS x35,?_⟩;refine dM 7 ?_;have h5:=h3.ext x35;have x05:=x03.trans x35;have z5:=x05.size;refine bW (e:=107) (k:=3) rfl h5.row rfl sl5 (by simp [Value.cells,aE,Value.oneCell']) aC (by simp [eA];omega) ?_;intro v6 w6 o6 m6 _;refine aB ?_;refine aD ⟨aN rfl,?_⟩;refine dC 8 ?_;refine dC 9 ?_;refine dM 10 ?_;have n6:=m6.at h5.blk (fun e=>h5.row.neBlock h5.blk aJ e.symm);refine eZ 2 v6 n6 o6.one fun w7 p7 => ?_;refine aD ⟨aN rfl,?_⟩;refine kK ?_;refine_lift aR ?_;go_ret;have hob:=h5.row.block;refine ⟨rfl,v6,⟨h.ge,p7.this,?_⟩,?_,?_,fun c g1 g2 g3 => ?_⟩
 ·rw [show eA (ps ++ [p])=eA ps ++ [[.int .i64 p.1, .int .i64 p.2.1,aE p.2.2]] by simp [eA]];exact eJ o6 p7 n6
 ·exact (Kf.of x05).trans ((Kf.row h5.row m6 aX).trans (Kf.put p7 n6 aX))
 ·exact (Lo.of x05).trans ((Lo.mv m6 fun k hk=>(hob k hk).1).trans (Lo.put p7 h.ge))
 ·rw [p7.other c g2,m6.block c aC g3,x05.block c g1]
theorem OL {nb:Nat} {nodes room:Int} {pv:Value} (h:NetV B w nb nodes room pv []) (i:Int):Calls Tryz.prog 48 #[.pointer (some ⟨nb,0,none⟩), .int .i64 i] w (aY w (.int .i64 5)):=by
 go_enter Tryz.func48,Tryz.ntmps48
 refine_lift bK fun _ _ => ?_;refine bZ (LV h i) fun w2 x2 => ?_;refine_lift aR ?_;refine dT (z:=iL) fun w3 x3 s3 b3 => ?_;refine aB ?_;refine dH (v:=.agg iL.toArray) b3 (by simp [iL,Value.cells,aE,Value.oneCell']) fun w4 p4 => ?_;refine_lift aR ?_;go_ret;exact ⟨rfl,x2.trans (cB x3 p4)⟩
structure ZonesAt (w:World) (v:Value) (zs:List (List UInt8 × List RSet)):Prop where
 out:∃ css,Sl 2 w v css∧css.length=zs.length∧∀ (i:Nat) (z:List UInt8 × List RSet),zs[i]? = some z→∃ u,css[i]? = some [aE z.1,u]∧SetsAt w u z.2
theorem ZonesAt.ext {zs:List (List UInt8 × List RSet)} (h:ZonesAt w v zs) (hx:Ext w w'):ZonesAt w' v zs:=by
 obtain ⟨css,h1,h2,h3⟩:=h;exact ⟨css,h1.ext hx,h2,fun i z hi=>let ⟨u,a,b⟩:=h3 i z hi;⟨u,a,b.ext hx⟩⟩
def XV (o:List UInt8) (l:List RSet) (o':List UInt8) (l':List RSet):List RSet:=if UH o l o' l'=0 then l' else l
def XW (room:Int) (o:List UInt8) (l:List RSet) (ds:List DeltaR) (o':List UInt8) (l':List RSet):List DeltaR:=if UH o l o' l'=0 then QM room (ds ++ [Bs o l o l']) else ds
structure JOk (o:List UInt8) (l:List RSet) (room:Int) (ds:List DeltaR):Prop where
 zone:ZoneOk o l
 fits:0≤room∧room≤20
 len:(ds.length:Int)≤room
 each:∀ d ∈ ds,d.gone.length≤4000∧d.new.length≤4000
theorem VZ {o':List UInt8} {l l':List RSet} (h:UH o l o' l'=0):o'=o∧ZoneOk o l'∧sU (fN o l').serial (fN o l).serial=true:=by
 unfold UH at h;split at h
 ·rename_i q;exact absurd h q
 ·rename_i q;split at h
  ·cases h
  ·rename_i q2;have e:o'=o:=by simpa using q2
   subst e;split at h
   ·cases h
   ·rename_i q3;exact ⟨rfl,lQ (by simpa using q),by simpa using q3⟩
theorem WA {l l':List RSet} (h:ZoneOk o l) (h':ZoneOk o l'):(Bs o l o l').gone.length≤4000∧(Bs o l o l').new.length≤4000:=by
 rw [(Bv (YW h h')).2.2.2];have a:=(QL h).2.2.2;have b:=(QL h').2.2.2;unfold CV;exact ⟨Nat.le_trans (List.length_filter_le _ _) a,Nat.le_trans (List.length_filter_le _ _) b⟩
theorem JOk.next {l:List RSet} {room:Int} {ds:List DeltaR} (h:JOk o l room ds) (o':List UInt8) (l':List RSet):JOk o (XV o l o' l') room (XW room o l ds o' l'):=by
 unfold XV XW;split
 ·rename_i q;obtain ⟨rfl,hz,_⟩:=VZ q;refine ⟨hz,h.fits,?_,?_⟩
  ·rw [QY _ _ h.fits.1];exact Int.min_le_right _ _
  ·intro d hd;rcases List.mem_append.1 (List.mem_of_mem_drop hd) with hd | hd
   ·exact h.each d hd
   ·rw [List.mem_singleton.1 hd];exact WA h.zone hz
 ·exact h
theorem JOk.small {l:List RSet} {room:Int} {ds:List DeltaR} (h:JOk o l room ds):l.length≤100000∧(∀ s ∈ l,s.data.length≤1000000)∧(∀ s ∈ l,∀ d ∈ s.data,d.length≤4611686018427387904)∧ds.length≤1000∧(∀ d ∈ ds,d.gone.length≤100000∧d.new.length≤100000):=by
 obtain ⟨a,b,c,_⟩:=QL h.zone;have hl:=h.len;have hr:=h.fits;refine ⟨aC,fun s hs=>by have:=b s hs;omega,fun s hs d hd=>by have:=c s hs d hd;omega,aC,fun d hd=>by have:=h.each d hd;omega⟩
structure NodeI (wL w:World) (M:NodeM) (S:NodeR):Prop where
 ov:M.ov=.slice none 0 0
 out:S.out=[]
 w:NodeW wL w.heap.size w M S
theorem NodeW.idle {wL:World} {Bo:Nat} {M:NodeM} {S:NodeR} (h:NodeW wL Bo w M S) (h1:M.ov=.slice none 0 0) (h2:S.out=[]):NodeI wL w M S:=by
 refine ⟨h1,h2,h.ext,⟨h.nod.ge,h.nod.blk,?_,h.ext.size,Nat.le_refl _⟩,h.rts,h.cac,h.den,h.tab,h.gm,h.map,h.tsk,h.ne⟩;rw [h2,show (M.c S).ov=.slice none 0 0 from h1];exact Own.nil _ _ _ _
theorem NodeI.grow {wL:World} {M:NodeM} {S:NodeR} (h:NodeI wL w M S) (hx:Ext w w'):NodeI wL w' M S:=(h.w.grow hx).idle h.ov h.out
theorem FJ {wL:World} {Bo:Nat} {M:NodeM} {S:NodeR} (h:NodeW wL Bo w M S) :
 Calls Tryz.prog 83 #[.pointer (some ⟨M.nb,0,none⟩)] w (fun e w'=>e=.returned M.ov∧NodeI wL w' { M with ov:=.slice none 0 0 } { S with out:=[] }∧Own Bo 2 175 w' M.ov (kJ S.out)∧Ko Bo w w'∧Bn Bo [M.nb] w w'∧w.heap.size≤w'.heap.size):=by
 refine (ZY h.nod).mono ?_;rintro e w' ⟨rfl,h1,h2,h3,h4,h5⟩;exact ⟨rfl,(h.outs h1 h3 h4).idle rfl rfl,h2,Ko.bf h.nod.blk h5,Bn.bf (Ext.refl _) h5 aX,h4.size⟩
theorem Bn.trans {Bo:Nat} {l:List Nat} {a b c:World} (h:Bn Bo l a b) (hs:a.heap.size≤b.heap.size) (k:Bn Bo l b c):Bn Bo l a c:=fun j h1 h2 h3=>(k j (Nat.lt_of_lt_of_le h1 hs) h2 h3).trans (h j h1 h2 h3)
theorem Bn.of {Bo:Nat} {l:List Nat} (h:Ext w w'):Bn Bo l w w':=fun j h1 _ _=>h.block j h1
theorem Bn.mono {Bo:Nat} {l l':List Nat} (h:Bn Bo l w w') (hl:∀ j ∈ l,j ∈ l'):Bn Bo l' w w':=fun j h1 h2 h3=>h j h1 h2 fun e=>h3 (hl j e)
def IH (wL w:World) (M:NodeM) (S':NodeR) (P:Prop) (l:List Nat) (e:Ending) (w':World):Prop :=
 ∃ r M',e=.returned r∧M'.nb=M.nb∧NodeI wL w' M' { S' with out:=[] }∧Own w.heap.size 2 175 w' r (kJ S'.out)∧Ko w.heap.size w w'∧(P→Bn w.heap.size (M.nb :: l) w w'∧(l=[]→M'.tb=M.tb∧M'.tm=M.tm∧M'.mb=M.mb))∧w.heap.size≤w'.heap.size
theorem LX {wL:World} {M:NodeM} {S S':NodeR} (h:NodeI wL w M S) {P:Prop} {l:List Nat} (src now:Int) (s:List UInt8) (hs:s.length≤1000000) (c1:0≤src∧src≤99) (c2:0≤now∧now≤1099511627776) {m:MsgR} (hd:cO s=(m,0))
 (hq:∀ w2 q a u x,Ext w w2→NodeW wL w.heap.size w2 M S→MsgW w.heap.size w2 m q a u x→Calls Tryz.prog (if m.resp then 81 else 82) #[.pointer (some ⟨M.nb,0,none⟩), .int .i64 src, .agg (aO m q a u x).toArray, .int .i64 now] w2 (fun e w3=>e=.returned (.tuple #[])∧∃ M',M'.nb=M.nb∧NodeW wL w.heap.size w3 M' S'∧Ko w.heap.size w2 w3∧(P→Bn w.heap.size (M.nb :: l) w2 w3∧(l=[]→M'.tb=M.tb∧M'.tm=M.tm∧M'.mb=M.mb))∧w2.heap.size≤w3.heap.size)) :
 Calls Tryz.prog 40 #[.pointer (some ⟨M.nb,0,none⟩), .int .i64 src,aE s, .int .i64 now] w (IH wL w M S' P l):=by
 have cD:=vP (w:=w) s hs;unfold xZ at cD;rw [hd] at cD;go_enter Tryz.func40,Tryz.ntmps40
 refine_lift bK fun _ _ => ?_;refine gI cD ?_;rintro _ w1 ⟨q,a,u,x,rfl,⟨o1,o2,o3,o4⟩,x1⟩;refine ⟨_,rfl,?_⟩;refine aB ?_;have hm1:MsgW w.heap.size w1 m q a u x:=⟨o1,o2,o3,o4⟩;refine_lift aR ?_;refine dT (z:=iV) fun w2 x2 s2 b2 => ?_;refine aB ?_;refine dH (v:=.agg (aO m q a u x).toArray) b2 (dP (hm1.msg.ext x2)) fun w3 p3 => ?_;have x13:=cB x2 p3;have hpm:=aA (cs:=aO m q a u x) p3.this;unfold aO at hpm;refine_lift mP fun _ _ _ _ => ?_;refine bZ (rC c1 _) fun w4 x4 => ?_;refine_lift aR ?_;refine bZ (rC c2 _) fun w5 x5 => ?_;have x35:=x4.trans x5;have hpm5:=hpm.ext x35;have x15:=x13.trans x35;have x05:=x1.trans x15;have hm5:=hm1.ext x15;have hn5:NodeW wL w.heap.size w5 M S:=h.w.grow x05;have hQ:=hq w5 q a u x x05 hn5 hm5;have z05:=x05.size;clear hpm;cases hres:m.resp with
 | true =>
  rw [if_pos hres] at hQ;unfold aO at hQ;rw [hres] at hQ hpm5;refine_lift bK fun _ _ => ?_;refine gI hQ ?_;rintro _ w6 ⟨rfl,M',hnb,h6,k6,f6,z6⟩;refine ⟨_,rfl,?_⟩;refine aB ?_;refine_lift bK fun _ _ => ?_;have hT:=FJ h6;rw [hnb] at hT;refine gI hT ?_;rintro _ w7 ⟨rfl,h7,o7,k7,f7,z7⟩;refine ⟨_,rfl,?_⟩;refine aB ?_;refine_lift aR ?_;go_ret;exact ⟨_,⟨M.nb,M'.rv, .slice none 0 0,M'.cb,M'.em,M'.db,M'.tb,M'.tm,M'.mb,M'.sb⟩,rfl,rfl,h7,o7,(Ko.of x05).trans (k6.trans k7),fun hP=>⟨(Bn.of x05).trans z05 ((f6 hP).1.trans z6 (f7.mono aX)),(f6 hP).2⟩,aC⟩
 | false =>
  rw [if_neg (by rw [hres];simp)] at hQ;unfold aO at hQ;rw [hres] at hQ hpm5;refine_lift bK fun _ _ => ?_;refine gI hQ ?_;rintro _ w6 ⟨rfl,M',hnb,h6,k6,f6,z6⟩;refine ⟨_,rfl,?_⟩;refine aB ?_;refine_lift bK fun _ _ => ?_;have hT:=FJ h6;rw [hnb] at hT;refine gI hT ?_;rintro _ w7 ⟨rfl,h7,o7,k7,f7,z7⟩;refine ⟨_,rfl,?_⟩;refine aB ?_;refine_lift aR ?_;go_ret;exact ⟨_,⟨M.nb,M'.rv, .slice none 0 0,M'.cb,M'.em,M'.db,M'.tb,M'.tm,M'.mb,M'.sb⟩,rfl,rfl,h7,o7,(Ko.of x05).trans (k6.trans k7),fun hP=>⟨(Bn.of x05).trans z05 ((f6 hP).1.trans z6 (f7.mono aX)),(f6 hP).2⟩,aC⟩
section
variable {P:Program} {w w':World} {a:Act} {d:Option Nat} {ty:TypeId} {ps:String} {af:Array Edge} {g:Option (Nat × Bool)}
end
def Ee (up:Bool):List HldR:=[⟨[1,97],Bz,[1,97],up⟩]
theorem HldsAt.nil (w:World):HldsAt w (.slice none 0 0) []:=⟨[],Sl.nil _ _,rfl,fun i h e=>by simp at e⟩
theorem HldsAt.one {z:Value} {up:Bool} (h:Sl k w v [[aE [1,97],z,aE [1,97], .bool up]]) (hk:k=4) (hz:SetsAt w z Bz):HldsAt w v (Ee up):=by
 subst hk;refine ⟨_,h,rfl,fun i x e => ?_⟩;cases i with
 | zero =>
  simp only [Ee,List.getElem?_cons_zero,Option.some.injEq] at e;subst e;exact ⟨z,rfl,hz⟩
 | succ i=>simp [Ee] at e
def Stands (s:List UInt8) (p:Nat) (y:List UInt8):Prop:=∃ a b,s=a ++ y ++ b∧a.length=p
theorem Stands.mono (h:Stands s p y) (hp:s <+: t):Stands t p y:=by
 obtain ⟨a,b,rfl,ha⟩:=h;obtain ⟨u,rfl⟩:=hp;exact ⟨a,b ++ u,aX,ha⟩
theorem Stands.left (h:Stands s p (y ++ z)):Stands s p y:=by
 obtain ⟨a,b,rfl,ha⟩:=h;exact ⟨a,z ++ b,aX,ha⟩
theorem Stands.right (h:Stands s p (y ++ z)):Stands s (p + y.length) z:=by
 obtain ⟨a,b,rfl,ha⟩:=h;exact ⟨a ++ y,b,aX,by simp [ha]⟩
theorem Stands.le (h:Stands s p y):p + y.length≤s.length:=by
 obtain ⟨a,b,rfl,ha⟩:=h;simp [ha]
theorem Stands.end_ (h:l ++ y <+: t):Stands t l.length y:=Stands.mono ⟨l,[],aX,rfl⟩ h
theorem Stands.get (h:Stands s p y):(s.drop p).take y.length=y:=by
 obtain ⟨a,b,rfl,rfl⟩:=h;rw [List.append_assoc,List.drop_left,List.take_left]
theorem Stands.take (h:Stands s p y) (k:Nat) (hk:y.length=k):RdS.take s ⟨(p:Nat),0⟩ (k:Nat)=(y,⟨((p + k:Nat):Int),0⟩):=by
 have h1:=h.le;subst hk;unfold RdS.take;rw [if_neg aX,if_neg (by dsimp only;omega)];dsimp only;rw [Int.toNat_natCast,Int.toNat_natCast,h.get,Int.natCast_add]
theorem Stands.number (h:Stands s p y) (k:Nat) (hk:y.length=k):RdS.number s ⟨(p:Nat),0⟩ (k:Nat)=(ET y,⟨((p + k:Nat):Int),0⟩):=by
 unfold RdS.number;rw [h.take k hk]
inductive NameAt (s:List UInt8):Nat→Nat→List (List UInt8)→Nat→Prop
 | nil {p B:Nat}:Stands s p [0]→NameAt s p B [] (p + 1)
 | lab {p B e:Nat} {x:List UInt8} {ls:List (List UInt8)}:lL x=true→Stands s p (mQ x)→NameAt s (p + 1 + x.length) B ls e→NameAt s p B (x :: ls) e
 | ptr {p B to e:Nat} {ls:List (List UInt8)}:Stands s p (bP (49152 ||| to))→to < 16384→to < B→NameAt s to to ls e→NameAt s p B ls (p + 2)
theorem NameAt.mono (hp:s <+: t) (h:NameAt s p B ls e):NameAt t p B ls e:=by
 induction h with
 | nil h=>exact .nil (h.mono hp)
 | lab hx h _ ih=>exact .lab hx (h.mono hp) ih
 | ptr h h1 h2 _ ih=>exact .ptr (h.mono hp) h1 h2 ih
theorem NameAt.lt (h:NameAt s p B ls e):p < s.length:=by
 cases h with
 | nil h=>have:=h.le;simp at this;omega
 | lab _ h _=>have:=h.le;simp [mQ] at this;omega
 | ptr h=>have:=h.le;simp [bP] at this;omega
def PlOk (s:List UInt8) (p:List UInt8 × Nat):Prop:=∃ ls e,p.1=enc ls∧ls.all lL=true∧NameAt s p.2 p.2 ls e
theorem PlOk.mono (hp:s <+: t) {p:List UInt8 × Nat} (h:PlOk s p):PlOk t p:=by
 obtain ⟨ls,e,h1,h2,h3⟩:=h;exact ⟨ls,e,h1,h2,h3.mono hp⟩
def Good (x:RO):Prop:=∀ p ∈ x.2,PlOk x.1 p
theorem Good.mono {l':List UInt8} (h:Good (l,ps)) (hp:l <+: l'):Good (l',ps):=fun p hm=>(h p hm).mono hp
def xN (w:World) (n:Nat):World:={ w with heap:=w.heap.extract 0 n }
theorem cM {n:Nat} (h:n≤w.heap.size):(xN w n).heap.size=n:=by
 simp [xN];omega
theorem kW {n:Nat} (h:n≤w.heap.size):Ext (xN w n) w :=
 ⟨rfl,rfl,rfl,by rw [cM h];exact h,fun k hk=>by
  rw [cM h] at hk;simp [xN,Array.getElem?_extract];omega,Nat.le_refl _⟩
theorem Ext.cutW {n:Nat} (h:Ext w0 w) (hn:w0.heap.size≤n) (hw:n≤w.heap.size):Ext w0 (xN w n) :=
 ⟨h.os,h.tape,h.output,by rw [cM hw];exact hn,fun k hk=>by
  rw [← h.block k hk,← (kW hw).block k (by rw [cM hw];omega)],h.drawn⟩
theorem NodeI.other {wL:World} {M:NodeM} {S:NodeR} (h:NodeI wL w M S) (hn:S.nt=none) (ht:S.tt=none) {L:List Nat} (hB:Bn w.heap.size L w w') (hL:∀ j ∈ L,j < wL.heap.size) (hs:w.heap.size≤w'.heap.size):NodeI (xN w' wL.heap.size) w' M S:=by
 have st:∀ j,wL.heap.size≤j→j < w.heap.size→w'.heap[j]? = w.heap[j]? := fun j h1 h2=>hB j h2 h2 (fun e=>by have:=hL j e;omega);have e0:=cM (w:=w') (n:=wL.heap.size) (Nat.le_trans h.w.ext.size hs);have a':∀ {j:Nat} {o:Obj},wL.heap.size≤j→w.heap[j]? = some o→w'.heap[j]? = some o:=fun h1 h2=>by
  rw [st _ h1 (Array.getElem?_eq_some_iff.1 h2).1];exact h2
 obtain ⟨h1,h2,h⟩:=h;refine ⟨h1,h2,kW (Nat.le_trans h.ext.size hs),?_,?_,?_,?_,?_,?_,?_,?_,h.ne⟩
 ·rw [e0];refine ⟨h.nod.ge,a' h.nod.ge h.nod.blk,?_,Nat.le_trans h.ext.size hs,Nat.le_refl _⟩;rw [h2,show (M.c S).ov=.slice none 0 0 from h1];exact Own.nil _ _ _ _
 ·rw [e0];exact h.rts.same fun r hr=>st r (h.rts.block r hr).1 (h.rts.block r hr).2
 ·rw [e0];obtain ⟨gs,a⟩:=h.cac;refine ⟨gs,a.ge,a.eq,a' a.ge.1 a.blk,a.map.at fun es c e=>a' a.ge.2 e,fun g hg => ?_,a.apart,a.keys⟩;have b:=a.ents g hg;exact ⟨b.ge,a' b.ge b.blk,b.row.same fun r hr=>st r (b.row.block r hr).1 (b.row.block r hr).2,b.len,b.ok⟩
 ·rw [e0];exact ⟨h.den.ge,a' h.den.ge h.den.blk⟩
 ·rw [e0];obtain ⟨tbk,a⟩:=h.tab;refine ⟨tbk,a.ge,a.eq,a' a.ge.1 a.blk,a.map.at fun es c e=>a' a.ge.2 e,fun x b e => ?_⟩;have:=a.eq;rw [ht,e] at this;cases this
 ·rw [e0];exact h.gm
 ·exact h.map.at fun es c e=>a' h.gm e
 ·intro x e;rw [hn] at e;cases e
abbrev XX:List TypeId:=[155,3,228,321,9,231,234,328,251,273,201,37,198,25]
theorem NodeI.kf {wL:World} {M:NodeM} {S:NodeR} {T:List TypeId} (h:NodeI wL w M S) (hk:Kf T [] w w') (hT:∀ t ∈ XX,t ∉ T) (hs:w.heap.size≤w'.heap.size):NodeI (xN w' wL.heap.size) w' M S:=by
 obtain ⟨h1,h2,h⟩:=h;have hle:wL.heap.size≤w'.heap.size:=Nat.le_trans h.ext.size hs;have e0:=cM hle;have hx:=kW hle;have tt:∀ t,t ∈ XX→t ∉ T:=hT;refine ⟨h1,h2,hx,?_,?_,?_,?_,?_,?_,h.map.keep hk aX,?_,h.ne⟩
 ·rw [e0];refine ⟨h.nod.ge,hk.cells _ _ _ _ h.nod.blk (tt _ aJ),?_,hle,Nat.le_refl _⟩;rw [h2,show (M.c S).ov=.slice none 0 0 from h1];exact Own.nil _ _ _ _
 ·rw [e0];exact h.rts.keep hk.keep (tt _ aJ)
 ·rw [e0];exact h.cac.keep hk aX (tt _ aJ) (tt _ aJ) (tt _ aJ)
 ·rw [e0];exact h.den.keep hk (tt _ aJ)
 ·rw [e0];exact h.tab.keep hk aX (tt _ aJ) (tt _ aJ) (tt _ aJ)
 ·rw [e0];exact h.gm
 ·intro x e;obtain ⟨rb,qv,a⟩:=h.tsk x e;refine ⟨rb,qv,by rw [e0];exact a.ge,hk.cells _ _ _ _ a.blk (tt _ aJ),?_,by rw [e0];exact a.row.keep hk.keep (tt _ aJ),a.nil⟩;obtain ⟨rv,sv,gv,ev,b⟩:=a.tsk;refine ⟨rv,sv,gv,ev,by rw [e0];exact b.ge,hx,hk.cells _ _ _ _ b.blk (tt _ aJ),by rw [e0];exact b.rs.keep hk.keep (tt _ aJ),by rw [e0];exact b.ss.keep hk.keep (tt _ aJ),by rw [e0];exact b.gs.keep hk.keep (tt _ aJ),by rw [e0];exact b.es.keep hk (tt _ aJ) (tt _ aJ)⟩
theorem NodeI.here {wL:World} {M:NodeM} {S:NodeR} (h:NodeI wL w M S):NodeI (xN w wL.heap.size) w M S:=h.kf (T:=[]) (Kf.of (Ext.refl _)) aX (Nat.le_refl _)
theorem Lo.cut {n:Nat} (h:Ext (xN w n) w') (hn:n≤w.heap.size) (hs:w.heap.size≤w'.heap.size):Lo n w w' :=
 ⟨h.os,h.tape,h.output,hs,fun j _ hj=>by rw [h.block j (by rw [cM hn];exact hj),← (kW hn).block j (by rw [cM hn];exact hj)],h.drawn⟩
def Mid (a b:Nat) (w w':World):Prop:=∀ g,a≤g→g < b→w'.heap[g]? = w.heap[g]?
theorem Mid.trans {u v:World} (h:Mid a b u v) (k:Mid a b v w):Mid a b u w:=fun g g1 g2=>(k g g1 g2).trans (h g g1 g2)
theorem Mid.lo {n:Nat} (h:Lo n w w') (hb:b≤n) (hw:b≤w.heap.size):Mid a b w w':=fun g _ g2=>h.block g aC aC
theorem Mid.of (h:Ext w w') (hw:b≤w.heap.size):Mid a b w w':=fun g _ g2=>h.block g aC
theorem SetsO.upper {l:List RSet} (h:SetsO B w v l) (ha:∀ g,B≤g→g < w.heap.size→w'.heap[g]? = w.heap[g]?):SetsO B w' v l:=by
 obtain ⟨css,h1,h2,h3,h4⟩:=h;exact ⟨css,h1.upper h2 ha,h2,⟨h3.len,fun i s hi=>let ⟨x,a,b⟩:=h3.at' i s hi;⟨x,a,b.upper (h4 _ (List.mem_of_getElem? a) _ aX) ha⟩⟩,h4⟩
structure HldsO (B:Nat) (w:World) (v:Value) (hs:List HldR):Prop where
 out:∃ css,Sl 4 w v css∧From B v∧css.length=hs.length∧∀ (i:Nat) (h:HldR),hs[i]? = some h→∃ x,css[i]? = some [aE h.o,x,aE h.org, .bool h.up]∧SetsO B w x h.l
theorem HldsO.upper {hs:List HldR} (h:HldsO B w v hs) (ha:∀ g,B≤g→g < w.heap.size→w'.heap[g]? = w.heap[g]?):HldsO B w' v hs:=by
 obtain ⟨css,h1,h2,h3,h4⟩:=h;exact ⟨css,h1.upper h2 ha,h2,h3,fun i s hi=>let ⟨x,a,b⟩:=h4 i s hi;⟨x,a,b.upper ha⟩⟩
theorem HldsO.ext {hs:List HldR} (h:HldsO B w v hs) (hx:Ext w w'):HldsO B w' v hs:=h.upper fun g _ g2=>hx.block g g2
theorem HldsO.at {hs:List HldR} (h:HldsO B w v hs):HldsAt w v hs:=by
 obtain ⟨css,h1,_,h3,h4⟩:=h;exact ⟨css,h1,h3,fun i s hi=>let ⟨x,a,b⟩:=h4 i s hi;⟨x,a,b.sets⟩⟩
theorem TB (o:List UInt8) (v:Value) (l:List RSet) (w:World) (hv:SetsAt w v l) (hl:l.length≤100000) (hb:∀ s ∈ l,s.data.length≤1000000) :
 Calls Tryz.prog 33 #[.agg #[aE o,v]] w (kX w fun r w'=>∃ y,r=.agg #[aE o,y]∧SetsV w.heap.size w' y l):=by
 obtain ⟨css0,hv0,hvs⟩:=hv.rows;have hlen0:=hvs.len;go_enter Tryz.func33,Tryz.ntmps33
 refine_lift rW ?_;intro _ _ _;refine jP (vs:=[aE o,v]) fun w1 x1 s1 hz1 => ?_;refine aB ?_;refine dT (z:=iP) fun w2 x2 s2 h2 => ?_;refine aB ?_;have hz2:=x2.at hz1;have hx2:=x1.trans x2;have hp2:=aA hz2;have z1:=x1.size;refine_lift fM fun _ _ => ?_;refine gR (QD v css0 _ (hv0.ext hx2) (hvs.ext hx2).cell (by rw [hlen0];omega)) fun y w8 x8 ho8 => ?_;have hx8:=hx2.trans x8;have h8:=x8.at h2;have hz8:=x8.at hz2;have hp8:=aA hz8;refine aB ?_;refine_lift cL ?_;refine eZ 1 _ hz8 ho8.one fun w9 p9 => ?_;have hx9:=cB hx8 p9;have hz9:w9.heap[w.heap.size]? = some (.cells [aE o,y].toArray 70 (0,0)):=p9.this;have h9:=p9.at h8 aC;have ho9:=eJ ho8 p9 hz8;have hzB:w1.heap.size < w2.heap.size:=aC;have hzW:=hx2.size;have hB9:w2.heap.size≤w9.heap.size:=by have a1:=x8.size;have a2:=p9.size;omega
 have hne:w.heap.size≠w1.heap.size:=aC;have hsl9:=ho9.sl;have hpz9:=aA hz9;clear p9 hz8 hp8 h8 ho8 hp2 hz2 hz1 h2;refine_lift fM fun _ _ => ?_;generalize hrb:w1.heap.size=rb at *;generalize w2.heap.size=B at *;clear hpz9 hsl9;go_loopw [3,4,12] (fun _ _ i wr=>∃ (k:Nat) (css:List (List Value)),k≤l.length∧i=.int .i64 k∧Ext w wr∧B≤wr.heap.size∧wr.heap[w.heap.size]? = some (.cells [aE o,y].toArray 70 (0,0))∧wr.heap[rb]? = some (.cells iP.toArray 70 (0,0))∧Own B 4 136 wr y css∧SetsN B wr css0 css l k) (fun _ _ i _=>l.length - (intOf i).toNat)
 case atStart=>exact ⟨0,css0,Nat.zero_le _,rfl,hx9,hB9,hz9,h9,ho9,⟨hlen0,aC,fun i _=>rfl⟩⟩
 case round =>
  obtain ⟨k,css,hk,rfl,hx,hBr,hbz,hbr,ho,hs⟩:=hrel;have hpz:=aA hbz;have hsl:=ho.sl;have hlen:=hs.len;by_cases hlt:k < l.length
  ·obtain ⟨x,hc0,hxd0⟩:=hvs.at' k _ (List.getElem?_eq_getElem hlt);have hc:css[k]? = some [aE l[k].name, .int .i64 l[k].kind, .int .i64 l[k].ttl,x]:=by rw [hs.old k (Nat.le_refl _)];exact hc0
   have hxd:=hxd0.ext hx;have hpe:=hsl.elem hc;have hbk:=hb _ (List.getElem_mem hlt);refine_lift IR ?_;intro _ _ _ _ _ _;refine dT (z:=gS) fun w10 x10 s10 h10 => ?_;refine aB ?_;refine_lift cL ?_;refine dH (v:=.agg #[aE l[k].name, .int .i64 l[k].kind, .int .i64 l[k].ttl,x]) h10 (gB rfl rfl rfl hxd.one) fun w11 p11 => ?_;have x11:=cB x10 p11;have hbs:w11.heap[wr.heap.size]? = some (.cells [aE l[k].name, .int .i64 l[k].kind, .int .i64 l[k].ttl,x].toArray 136 (0,0)):=p11.this;have hx11:=hx.trans x11;have hbz11:=x11.at hbz;have hbr11:=x11.at hbr;have ho11:=ho.ext x11;have hs11:=hs.ext x11;have hps:=aA hbs;have hpz11:=aA hbz11;have hsl11:=ho11.sl;have hpe11:=hsl11.elem hc;have hxd11:=hxd.ext x11;clear p11 h10 x10 hpe hpz hsl;refine_lift cL ?_;refine aP 8 (Ext w11) zDk ?_;intro w12 x12 _;refine ⟨x12,?_⟩;refine yO 0 ?_;refine yO 1 ?_;refine yO 2 ?_;refine yO 3 ?_;refine yO 4 ?_;refine dM 5 ?_;refine rP (Di x l[k].data _ (hxd11.ext x12) aC) fun u w13 x13 ou => ?_;have x1113:=x12.trans x13;refine aD ⟨aS x1113,?_⟩;refine yO 6 ?_;refine yO 7 ?_;refine dM 8 ?_;have ho13:=ho11.ext x1113;refine kU (i:=k) (j:=3) rfl rfl rfl ho13 hc aJ zDk ou.one ?_;intro w14 o14 m14;refine aD ⟨aN rfl,?_⟩;refine kK ?_;have hx13:=hx11.trans x1113;have x14:Ext w w14:=ho13.mvx m14 hx13 hzW;have hbz14:=m14.at (x1113.at hbz11) (fun e=>ho13.neBlock (x1113.at hbz11) aJ e.symm);have hbr14:=m14.at (x1113.at hbr11) (fun e=>ho13.neBlock (x1113.at hbr11) aJ e.symm);have ou14:=ou.mv m14 (ou.ne ho13 aJ);have hs14:=(hs11.ext x1113).mv m14 (fun x es hx=>hx.ne ho13 aJ);have hB14:B≤w14.heap.size:=by have a1:=x1113.size;have a2:=m14.size;have a3:=x11.size;omega
   have ouk:Own B 1 9 w14 u (aH l[k].data):=ou14.weaken (by have a1:=x12.size;have a2:=x11.size;omega);clear hps hpz11 hsl11 hpe11 hbs hbz11 hbr11 hs11 ho13 ho11 hxd11;refine_lift cL ?_;exact ⟨⟨k + 1,_,aC,by go_num,x14,hB14,hbz14,hbr14,o14,hs14.step hlt ouk⟩,by simp [intOf];omega⟩
  ·have:k=l.length:=aC;subst this;refine_lift KW fun _ _ _ => ?_;refine dH (v:=.agg #[aE o,y]) hbr (zV ho.one) fun w11 p11 => ?_;have x11:=cB hx p11;have hfin:SetsV w.heap.size w11 y l:=by
    have:SetsV B wr y l:=⟨css,ho,hs.done⟩;exact (this.put hbr aJ aJ p11).weaken hzW
   refine_lift cL ?_;exact bodyPost_ret (fG (cs:=[aE o,y]) rfl rfl p11.this (zDk:eE Tryz.prog 70 2=true)) rfl ⟨_,rfl,x11,y,rfl,hfin⟩
theorem TC (n:Int):Instr.sameBits 10000 (.int .i64 n) (.int .i64 n)=true:=by
 rw [Instr.sameBits];simp
theorem AU {α β:Type} (f:α→β) (g:α→α):∀ (l:List α) (i:Nat),(l.modify i g).map f=match l[i]? with | some a=>(l.map f).set i (f (g a)) | none=>l.map f
 | [],i=>by simp
 | a :: l,0=>by simp
 | a :: l,i + 1=>by
   have:=AU f g l i;simp only [List.modify_succ_cons,List.map_cons,List.getElem?_cons_succ,this];cases l[i]? <;> simp
section
variable {P:Program} {ok:Value→Prop} {w:World} {kt et t:TypeId} {m:Nat} {ents:List (Value × Value)}
theorem II (law:KL P kt ok) (ht:eG P t kt et=true) (hm:MapS ok w m ents) {n:Int} (hx:ok (.int .i64 n)) (hi:ents[i]? = some (.int .i64 n,u)) (hu:ents.Pairwise (fun a b=>a.1≠b.1)) :
 ∃ w' o,(Instr.mapUpdate t (.map (some m)) (.int .i64 n) v).run P w=.ok () w'∧Put w w' m o∧MapS ok w' m (ents.set i (.int .i64 n,v)):=by
 obtain ⟨es,c,h1,h2,h3⟩:=hm;have hc:=law.check w false hx;have hty:=gK ht;have hgo:(getObj m).run P w=.ok (.map es c) w:=by simp [getObj,Sem.run,h1]
 rcases rJ (w:=w) law hx h2 (fun e he=>(h3 e he).1) with ⟨j,v',hj,hf⟩ | ⟨hn,_⟩
 ·have hij:i=j:=by
   obtain ⟨g1,g2⟩:=List.getElem?_eq_some_iff.1 hi;obtain ⟨g3,g4⟩:=List.getElem?_eq_some_iff.1 hj;rcases Nat.lt_trichotomy i j with h | h | h
   ·exact absurd (by rw [g2,g4]) (List.pairwise_iff_getElem.1 hu i j g1 g3 h)
   ·exact h
   ·exact absurd (by rw [g2,g4]) (List.pairwise_iff_getElem.1 hu j i g3 g1 h)
  subst hij;obtain ⟨e,he,hek⟩:∃ e,es.toList[i]? = some e∧(e.key,e.val)=(.int .i64 n,v'):=by
   rw [← h2,List.getElem?_map] at hj;obtain ⟨e,he,h⟩:=Option.map_eq_some_iff.1 hj;exact ⟨e,he,h⟩
  have hkey:e.key=.int .i64 n:=congrArg Prod.fst hek;have hes:es[i]? = some e:=by rw [← Array.getElem?_toList];exact he
  have hp:=fK (o':=.map (es.modify i fun e=>{ e with key:=.int .i64 n,val:=v }) c) h1;have hso:(setObj m (.map (es.modify i fun e=>{ e with key:=.int .i64 n,val:=v }) c)).run P w=.ok () (w.putObj m (.map (es.modify i fun e=>{ e with key:=.int .i64 n,val:=v }) c)):=by
   simp [setObj,Sem.run,h1,World.putObj]
  refine ⟨_,_,?_,hp,⟨_,_,hp.this,?_,?_⟩⟩
  ·have hk:(((es[i]?).map (·.key)).getD (Value.int .i64 n))=.int .i64 n:=by rw [hes];simpa using hkey
   have hs:(Instr.keyThatStays (.int .i64 n) (.int .i64 n)).run P w=.ok (.int .i64 n) w:=by
    unfold Instr.keyThatStays;rw [if_pos (TC n)];rfl
   simp only [Instr.mapUpdate,Sem.run_bind,run_underlying hty,Result.andThen_ok,hgo,hc,hf,hk,hs,hso]
  ·rw [Array.toList_modify,AU,he];dsimp only;rw [h2]
  ·intro x hx';rw [Array.toList_modify] at hx';obtain ⟨k,hk⟩:=List.mem_iff_getElem?.1 hx';rw [List.getElem?_modify] at hk;obtain ⟨y,hy,rfl⟩:=Option.map_eq_some_iff.1 hk;have:=h3 y (List.mem_of_getElem? hy);split
   ·exact ⟨hx,this.2⟩
   ·exact this
 ·exact absurd rfl (hn _ (List.mem_of_getElem? hi))
end
end Go.Proofs.X
namespace Go.Proofs.X
open Go.RowKit
structure SrvR where
 node:Int
 o:List UInt8
 l:List RSet
structure SrvsAt (w:World) (v:Value) (ss:List SrvR):Prop where
 out:∃ css,Sl 2 w v css∧css.length=ss.length∧∀ (i:Nat) (s:SrvR),ss[i]? = some s→∃ u,css[i]? = some [.int .i64 s.node,u]∧ZonesAt w u [(s.o,s.l)]
theorem SrvsAt.ext {w w':World} {v:Value} {ss:List SrvR} (h:SrvsAt w v ss) (hx:Ext w w'):SrvsAt w' v ss:=by
 obtain ⟨css,h1,h2,h3⟩:=h;exact ⟨css,h1.ext hx,h2,fun i z hi=>let ⟨u,a,b⟩:=h3 i z hi;⟨u,a,b.ext hx⟩⟩
def SrvR.held (s:SrvR):HldR:={ o:=s.o,l:=s.l,org:=s.o,up:=true }
def iS (ss:List SrvR) (vs:List Value):List (Value × Value):=(ss.zip vs).map fun p=>(.int .i64 p.1.node,p.2)
structure SrvOk (ss:List SrvR):Prop where
 len:ss.length≤20
 node:∀ s ∈ ss,0≤s.node∧s.node < 90
 two:(ss.map (·.node)).Nodup
 zone:∀ s ∈ ss,cV s.o s.l=0
 small:∀ s ∈ ss,s.l.length≤100000∧∀ x ∈ s.l,x.data.length≤1000000
structure TierM where
 tb:Nat
 hm:Nat
 nb:Nat
 M:NodeM
 Bh:Nat
 Hn:Nat
 L:Nat
structure HeldV (w:World) (hm Bh Hn:Nat) (ss:List SrvR):Prop where
 out:∃ vs,MapS BN w hm (iS ss vs)∧vs.length=ss.length∧∀ (i:Nat) (s:SrvR) (v:Value),ss[i]? = some s→vs[i]? = some v→HldsO Bh (xN w Hn) v [s.held]
structure TierW (b0:Nat) (w:World) (Y:TierM) (ss:List SrvR) (room:Int) (S:NodeR) (ps:List iW) (pv hv:Value) (now:Int):Prop where
 b0:b0≤Y.tb∧b0≤Y.hm∧Y.tb < Y.Bh∧Y.hm < Y.Bh
 le:Y.Bh≤Y.Hn∧Y.Hn≤Y.nb∧Y.nb < Y.L∧Y.L≤w.heap.size
 blk:w.heap[Y.tb]? = some (.cells #[.pointer (some ⟨Y.nb,0,none⟩), .pointer (some ⟨Y.M.nb,0,none⟩), .map (some Y.hm),hv, .int .i64 now] 92 (0,0))
 net:NetV Y.Hn w Y.nb 100 room pv ps
 nod:∃ wL,wL.heap.size=Y.L∧NodeI wL w Y.M S
 held:HeldV w Y.hm Y.Bh Y.Hn ss
theorem DP {ss:List SrvR} {vs:List Value} {n:Int} (h:∀ s ∈ ss,s.node≠n):∀ e ∈ iS ss vs,e.1≠.int .i64 n:=by
 intro e he;obtain ⟨p,hp,rfl⟩:=List.mem_map.1 he;have:=h p.1 (List.of_mem_zip hp).1;simp [this]
theorem pO {ss:List SrvR} {vs:List Value} {s:SrvR} {v:Value} (h:vs.length=ss.length):iS (ss ++ [s]) (vs ++ [v])=iS ss vs ++ [(.int .i64 s.node,v)]:=by
 unfold iS;rw [List.zip_append h.symm,List.map_append];rfl
theorem rN {ss:List SrvR} {vs:List Value} (h:vs.length=ss.length):(iS ss vs).length=ss.length:=by
 simp [iS,h]
theorem AV {ss:List SrvR} {vs:List Value} (h:vs.length=ss.length) (hn:(ss.map (·.node)).Nodup):(iS ss vs).Pairwise (fun a b=>a.1≠b.1):=by
 have e:(iS ss vs).map (·.1)=ss.map fun s=>.int .i64 s.node:=by
  unfold iS;rw [List.map_map];have:((fun x:Value × Value=>x.1) ∘ fun p:SrvR × Value=>(Value.int .i64 p.1.node,p.2))=(fun s:SrvR=>Value.int .i64 s.node) ∘ Prod.fst:=rfl;rw [this,← List.map_map,List.map_fst_zip (Nat.le_of_eq h.symm)]
 rw [← List.pairwise_map (f:=fun x:Value × Value=>x.1) (R:=fun a b=>a≠b),e,List.pairwise_map];rw [List.nodup_iff_pairwise_ne,List.pairwise_map] at hn;exact hn.imp fun h=>by simpa using h
theorem MapS.mvx {ok:Value→Prop} {w w':World} {m:Nat} {ents:List (Value × Value)} (h:MapS ok w m ents) (hx:Kf [] [] w w'):MapS ok w' m ents:=h.keep hx aX
theorem TD {ss:List SrvR} {vs:List Value} {s:SrvR} {v:Value} {k:Nat} (h:vs.length=ss.length) (hk:ss.length=k):(iS (ss ++ [s]) (vs ++ [v]))[k]? = some (.int .i64 s.node,v):=by
 rw [pO h,List.getElem?_append_right (by rw [rN h];omega),rN h,hk];simp
theorem OM {ss:List SrvR} {vs:List Value} {s:SrvR} {v u:Value} {k:Nat} (h:vs.length=ss.length) (hk:ss.length=k):(iS (ss ++ [s]) (vs ++ [v])).set k (.int .i64 s.node,u)=iS (ss ++ [s]) (vs ++ [u]):=by
 rw [pO h,pO h,List.set_append_right _ _ (by rw [rN h];omega),rN h,hk];simp
structure CfgOk (w:World) (a:Value) (rl:List Int) (bud rm most wt:Int):Prop where
 sl:Sl 1 w a (bI rl)
 c1:1≤rl.length∧rl.length≤20
 c2:1≤bud∧bud≤100
 c3:1≤rm∧rm≤200
 c4:1≤most∧most≤2147483647
 c5:1≤wt∧wt≤2147483647
 c6:rl.any (fun n => !(decide (0≤n) && decide (n≤99)))=false
theorem LY (lv:Value) (ss:List SrvR) (w:World) (hs:SrvsAt w lv ss) (ok:SrvOk ss) (a:Value) (bud rm most wt room:Int) (hr:1≤room∧room≤1000) (rl:List Int) (hg:CfgOk w a rl bud rm most wt∨(a=.slice none 0 0∧bud=0∧rm=0∧most=0∧wt=0)) :
 Calls Tryz.prog 14 #[lv, .agg #[a, .int .i64 bud, .int .i64 rm, .int .i64 most, .int .i64 wt], .int .i64 room] w (fun e w'=>Ext w w'∧((∃ Y,1≤bud∧e=.returned (.tuple #[.pointer (some ⟨Y.tb,0,none⟩), .int .i64 0])∧TierW w.heap.size w' Y ss room (NodeR.new rl bud rm most wt) [] (.slice none 0 0) (.slice none 0 0) 0)∨(bud=0∧e=.returned (.tuple #[.pointer none, .int .i64 1])))):=by
 obtain ⟨css,hsl,hlen,hss⟩:=hs;have hle:=ok.len;have htm:eG Tryz.prog 88 3 93=true:=zDk;have hzv:∀ w,(zeroValue 93).run Tryz.prog w=.ok (.slice none 0 0) w:=fun w=>by kernel_rfl
 go_enter Tryz.func14,Tryz.ntmps14
 refine_lift rW ?_;intro _ _ _;refine jP (vs:=[a, .int .i64 bud, .int .i64 rm, .int .i64 most, .int .i64 wt]) fun w1 x1 s1 b1 => ?_;refine aB ?_;have hsl1:=hsl.ext x1;refine_lift lI fun _ _ _ => ?_;refine lS (ok:=BN) rfl ?_;intro w2 x2 s2 m2;refine aB ?_;refine aG (v:=.agg #[.pointer none, .pointer none, .map (some w1.heap.size), .slice none 0 0, .int .i64 0]) (Runs.build (vals:=[(2, .map (some w1.heap.size))]) rfl (by kernel_rfl)) ?_;refine aB ?_;refine jP (vs:=[.pointer none, .pointer none, .map (some w1.heap.size), .slice none 0 0, .int .i64 0]) fun w3 x3 s3 b3 => ?_;refine aB ?_;have m3:=m2.ext x3;have x13:=x2.trans x3;have hsl3:=hsl1.ext x13;clear hsl1;refine_lift bK fun _ _ => ?_;have z1:=x1.size;have e0:Ext w w3:=x1.trans x13;go_loopw [25] (fun iv wr=>∃ (k:Nat) (vs:List Value),k≤ss.length∧iv=.int .i64 k∧vs.length=k∧MapS BN wr w1.heap.size (iS (ss.take k) vs)∧(∀ (i:Nat) (s:SrvR) (v:Value),ss[i]? = some s→vs[i]? = some v→HldsO w3.heap.size wr v [s.held])∧Mv (some w1.heap.size) w3 wr) (fun iv _=>ss.length - (intOf iv).toNat)
 case atStart=>exact ⟨0,[],Nat.zero_le _,rfl,rfl,m3,(fun i s v _ h=>by simp at h),(Ext.refl _).mv _⟩
 case round =>
  obtain ⟨k,vs,hk,rfl,hvl,hm,hh,hmv⟩:=hrel;have hbw:=hmv.at b3 (by intro e;have:=Option.some.inj e;omega);have hxr:Ext w wr:=e0.move hmv (by rintro k ⟨⟩;omega);have hpw:=aA (cs:=[.pointer none, .pointer none, .map (some w1.heap.size), .slice none 0 0, .int .i64 0]) hbw;have slr:=hsl.ext hxr;have zr:=hmv.size;clear hsl3;by_cases hlt:k < ss.length
  ·obtain ⟨u,hcu,hz⟩:=hss k ss[k] (List.getElem?_eq_getElem hlt);have hel:=slr.elem hcu;have hnd:=ok.node _ (List.getElem_mem hlt);have hzk:=ok.zone _ (List.getElem_mem hlt);have hsm:=ok.small _ (List.getElem_mem hlt);have htk:ss.take (k + 1)=ss.take k ++ [ss[k]]:=List.take_succ_eq_append_getElem hlt;have htl:(ss.take k).length=k:=by rw [List.length_take];omega
   have hnod:((ss.take (k + 1)).map (·.node)).Nodup:=ok.two.sublist ((List.take_sublist _ _).map _);have hfr:∀ s ∈ ss.take k,s.node≠ss[k].node:=by
    intro s hs e;rw [htk,List.map_append,List.nodup_append] at hnod;exact hnod.2.2 _ (List.mem_map.2 ⟨s,hs,rfl⟩) _ aX e
   obtain ⟨zcs,hzs0,hzl,hze⟩:=hz.out;have hzs:=hzs0.ext hxr;obtain ⟨y,hzc,hsets⟩:=hze 0 _ rfl;have hzlen:zcs.length=1:=hzl;have hss':∀ (i:Nat) (v:Value),vs[i]? = some v→i < k:=fun i v h=>by have:=(List.getElem?_eq_some_iff.1 h).1;omega
   obtain ⟨ua,uc,hu⟩:∃ a c,u=.slice a 1 c:=by
    obtain ⟨a,c,e,_⟩:=hzs;exact ⟨a,c,by rw [e,hzlen]⟩
   subst hu;have hsk:ss[k]? = some ss[k]:=List.getElem?_eq_getElem hlt;generalize ss[k]=s at *;refine_lift rS ?_;intro _ _ _ _ _ _;refine dT (z:=[.int .i64 0, .slice none 0 0]) fun w4 x4 s4 b4 => ?_;refine aB ?_;refine dH (v:=.agg #[.int .i64 s.node, .slice ua 1 uc]) b4 (by simp [Value.cells,Value.oneCell']) fun w5 p5 => ?_;have xr5:=cB x4 p5;have hps:=aA (cs:=[.int .i64 s.node, .slice ua 1 uc]) p5.this;have hpw5:=hpw.ext xr5;have hm5:=hm.ext xr5;have bs5:=p5.this;clear hel slr hpw;refine_lift bK fun _ _ => ?_;refine cY zDk zDk ?_;refine_lift uV ?_;refine fL (v:=.tuple #[.slice none 0 0, .bool false]) (fun w' x'=>Runs.lookup rfl rfl (lC kI htm hzv (hm5.ext x') ⟨_,rfl⟩ (DP hfr) true)) ?_;refine aB ?_;refine_lift uV ?_;intro w6 x6;have hps6:=hps.ext x6;have hpw6:=hpw5.ext x6;have hm6:=hm5.ext x6;have hzs6:=(hzs.ext xr5).ext x6;clear hps hpw5
   (repeat' first | ((with_reducible refine bH ?_);go_step) | ((with_reducible refine aV ?_);first | refine dR ?_ | (refine bO ?_ ?_ <;> intro hc)) | fail)
   rotate_left
   ·exact absurd hnd.2 (Int.not_lt.2 hc)
   ·exact absurd hnd.1 (Int.not_le.2 hc)
   refine aP 6 (Ext w6) zDk ?_;intro w7 x7 _;refine ⟨x7,?_⟩;refine dC 0 ?_;refine dC 1 ?_;refine dC 2 ?_;refine bE 3 ?_;refine bE 4 ?_;refine bE 5 ?_;refine dM 6 ?_;obtain ⟨w8,o8,hr8,p8,m8⟩:=nE kI htm (hm6.ext x7) (v:=.slice none 0 0) ⟨s.node,rfl⟩ (DP hfr);refine eO rfl rfl rfl rfl hr8 ?_;refine aD ⟨aN rfl,?_⟩;refine kK ?_;have x57:=x6.trans x7;have xr7:=xr5.trans x57;have xw8:=cB (hxr.trans xr7) p8;have hbw7:=xr7.at hbw;have bs7:=x57.at bs5;have z7:=xr7.size;have z8:=p8.size;have ls:wr.heap.size < w7.heap.size:=(Array.getElem?_eq_some_iff.1 bs7).1;have hbw8:=(p8.other _ (by omega:w2.heap.size≠w1.heap.size)).trans hbw7;have bs8:=(p8.other _ (by omega:wr.heap.size≠w1.heap.size)).trans bs7;have hps8:=aA (cs:=[.int .i64 s.node, .slice ua 1 uc]) bs8;have hzs8:=hzs0.ext xw8;clear hps6 hpw6 hm6 hzs6;refine_lift aR ?_;rw [← pO aC,← htk] at m8;have hh8:∀ (i:Nat) (s:SrvR) (v:Value),ss[i]? = some s→vs[i]? = some v→HldsO w3.heap.size w8 v [s.held]:=fun i s v h1 h2=>(hh i s v h1 h2).upper fun g g1 g2=>by rw [p8.other g aC,xr7.block g g2]
   have hmv8:Mv (some w1.heap.size) w3 w8:=hmv.trans ((xr7.mv _).trans p8.mv);go_loopw [65] (fun iv wq=>(iv=.int .i64 0∧wq=w8)∨(iv=.int .i64 1∧∃ v,MapS BN wq w1.heap.size (iS (ss.take (k + 1)) (vs ++ [v]))∧HldsO w3.heap.size wq v [s.held]∧Mv (some w1.heap.size) w8 wq)) (fun iv _=>1 - (intOf iv).toNat)
   case atStart=>exact .inl ⟨rfl,rfl⟩
   case round =>
    rcases hrel with ⟨rfl,rfl⟩ | ⟨rfl,v,mq,hq,vq⟩
    ·have hel:=hzs8.elem hzc;obtain ⟨ya,yl,yc,hy⟩:∃ a n c,y=.slice a n c:=by
      obtain ⟨_,g,_⟩:=hsets.sl;obtain ⟨a,c,e,_⟩:=g;exact ⟨_,_,_,e⟩
     subst hy;refine_lift rS ?_;intro _ _ _ _ _ _;refine dT (z:=iP) fun w9 x9 s9 b9 => ?_;refine aB ?_;refine dH (v:=.agg #[aE s.o, .slice ya yl yc]) b9 (by simp [Value.cells,aE,Value.oneCell']) fun w10 p10 => ?_;have x10:=cB x9 p10;have xw10:=xw8.trans x10;have hpz:=aA (cs:=[aE s.o, .slice ya yl yc]) p10.this;have bz10:=p10.this;have hps10:=hps8.ext x10;have bs10:=x10.at bs8;have hbw10:=x10.at hbw8;have m10:=m8.ext x10;clear hel hps8;refine_lift mP fun _ _ _ _ => ?_;refine bZ (tZ s.o (.slice ya yl yc) s.l _ (hsets.ext xw10) hsm.2) fun w11 x11 => ?_;rw [hzk];have hpz11:=hpz.ext x11;have hps11:=hps10.ext x11;have hpw11:=aA (cs:=[.pointer none, .pointer none, .map (some w1.heap.size), .slice none 0 0, .int .i64 0]) (x11.at hbw10);have m11:=m10.ext x11;clear hpz hps10;refine_lift aR ?_;have hvk:vs.length=(ss.take k).length:=aC;have hen:(iS (ss.take (k + 1)) (vs ++ [.slice none 0 0]))[k]? = some (.int .i64 s.node, .slice none 0 0):=by
      rw [htk];exact TD hvk htl
     have hun:(iS (ss.take (k + 1)) (vs ++ [.slice none 0 0])).Pairwise (fun a b=>a.1≠b.1):=AV (by rw [htk];simp;omega) hnod;have xw11:=xw10.trans x11;refine aP 20 (Ext w11) zDk ?_;intro w12 x12 _;refine ⟨x12,?_⟩;refine dC 0 ?_;refine dC 1 ?_;refine dC 2 ?_;refine bE 3 ?_;refine bE 4 ?_;refine bE 5 ?_;refine dC 6 ?_;refine dC 7 ?_;refine dC 8 ?_;refine bE 9 ?_;refine bE 10 ?_;refine bE 11 ?_;refine rQ (i:=12) (v:=.slice none 0 0) rfl rfl (fun w' hF=>Runs.lookup rfl rfl (eR (i:=k) kI htm hzv (m11.ext hF) ⟨_,rfl⟩ hen hun false)) ?_;refine aB ?_;refine bE 13 ?_;refine bE 15 ?_;refine bE 16 ?_;refine dM 14 ?_;refine gR (TB s.o (.slice ya yl yc) s.l _ (hsets.ext (xw11.trans x12)) hsm.1 hsm.2) ?_;rintro _ w13 x13' ⟨y',rfl,hsv⟩;refine aB ?_;have x1113:=x12.trans x13';refine aD ⟨aS x1113,?_⟩;obtain ⟨yb,ym,yd,hy'⟩:∃ a n c,y'=.slice a n c:=by
      obtain ⟨_,g,_⟩:=hsv.out;obtain ⟨a,c,e,_⟩:=g.sl;exact ⟨_,_,_,e⟩
     subst hy';refine xG (i:=17) (v:=.agg #[aE s.o, .slice yb ym yd,aE s.o, .bool true]) rfl rfl (fun _=>Runs.build (vals:=[(0, .agg #[aE s.o, .slice yb ym yd]),(1,aE s.o),(2, .bool true)]) rfl (by kernel_rfl)) ?_;refine aB ?_;refine dM 18 ?_;refine oN (e:=98) (k:=4) (bytes:=64) (xs:=[.agg #[aE s.o, .slice yb ym yd,aE s.o, .bool true]]) (by simp [Value.cells]) fun v14 w14 x14 _ sl14 _ => ?_;refine aB ?_;have x1114:=x1113.trans x14;refine aD ⟨aS x1114,?_⟩;refine dM 19 ?_;refine bW (B:=w14.heap.size) (e:=98) (k:=4) rfl (Own.nil _ _ _ _) rfl sl14 (by simp [Value.cells,aE,Value.oneCell']) (Nat.le_refl _) aX ?_;intro v15 w15 o15 m15 _;refine aB ?_;have x15:Ext w14 w15:=(Own.nil w14.heap.size 4 98 w14).mvx m15 (Ext.refl _) (Nat.le_refl _);have x1115:=x1114.trans x15;refine aD ⟨aS x1115,?_⟩;refine dM 20 ?_;obtain ⟨w16,o16,hr16,p16,m16⟩:=II kI htm (m11.ext x1115) (v:=v15) ⟨s.node,rfl⟩ hen hun;refine eO rfl rfl rfl rfl hr16 ?_;refine aD ⟨aN rfl,?_⟩;refine kK ?_;refine_lift aR ?_;have z10:=x10.size;have z11:=x11.size;have z12:=x12.size;have z13:=x13'.size;have z14:=x14.size;have e16:(iS (ss.take (k + 1)) (vs ++ [.slice none 0 0])).set k (.int .i64 s.node,v15)=iS (ss.take (k + 1)) (vs ++ [v15]):=by
      rw [htk];exact OM hvk htl
     rw [e16] at m16;have ob:=o15.block;have o16':=o15.mv p16.mv (.inr fun e=>by have:=(ob _ e).1;omega);have hso:SetsO w3.heap.size w16 (.slice yb ym yd) s.l:=(((hsv.toO aC).ext (x14.trans x15)).put p16 aC);refine ⟨.inr ⟨rfl,v15,m16,⟨_,o16'.sl,o16'.from' aC,rfl,?_⟩,((x10.trans (x11.trans x1115)).mv _).trans p16.mv⟩,by simp [intOf]⟩;intro i h hi
     match i,hi with
     | 0,hi =>
      cases hi
      exact ⟨.slice yb ym yd,rfl,hso⟩
    ·refine_lift iX fun _ => ?_;refine ⟨⟨k + 1,vs ++ [v],aC,by go_num,by simp [hvl],mq,?_,hmv8.trans vq⟩,by simp [intOf];omega⟩;intro i s' v' h1 h2;by_cases hi:i < vs.length
     ·rw [List.getElem?_append_left hi] at h2;exact (hh8 i s' v' h1 h2).upper fun g g1 g2=>vq.block g g2 (by intro e;have:=Option.some.inj e;omega)
     ·have hi2:i=k:=by
       have:=(List.getElem?_eq_some_iff.1 h2).1;rw [List.length_append] at this;simp at this;omega
      subst hi2;rw [List.getElem?_append_right aC] at h2;simp [hvl] at h2;rw [hsk] at h1;cases h1
      subst h2;exact hq
  ·have hkn:k=ss.length:=aC;subst hkn;rw [List.take_length] at hm;have bc:=hmv.at ((x13.at b1)) (by intro e;have:=Option.some.inj e;omega);clear slr hpw;refine_lift lI fun _ _ _ => ?_;refine gR (Dd 100 room _ aJ hr) ?_;rintro _ w4 x4 ⟨nb,rfl,hn4⟩;refine aB ?_;have z4:=x4.size;refine_lift aR ?_;refine eZ 0 (.pointer (some ⟨nb,0,none⟩)) (x4.at hbw) rfl fun w5 p5 => ?_;have z5:=p5.size;have b5:=p5.this;have bc5:=(p5.other _ (by omega:w.heap.size≠w2.heap.size)).trans (x4.at bc);have hpc:=aA (cs:=[a, .int .i64 bud, .int .i64 rm, .int .i64 most, .int .i64 wt]) bc5;have lnb:nb < w4.heap.size:=(Array.getElem?_eq_some_iff.1 hn4.blk).1;have hge:=hn4.ge;have xw5:=cB (hxr.trans x4) p5;rcases hg with hg | ⟨rfl,rfl,rfl,rfl,rfl⟩
   ·refine_lift bK fun _ _ => ?_;refine gR (Cl a rl bud rm most wt w5 (hg.sl.ext xw5) hg.c1 hg.c2 hg.c3 hg.c4 hg.c5 hg.c6) ?_;rintro _ w6 x6 ⟨M,rfl,hov,h6⟩;refine aB ?_;have h6:NodeI w5 w6 M (NodeR.new rl bud rm most wt):=h6.idle hov rfl;refine_lift aR ?_;refine eZ 1 (.pointer (some ⟨M.nb,0,none⟩)) (x6.at b5) rfl fun w7 p7 => ?_;refine_lift aR ?_;have z6:=x6.size;have z7:=p7.size;have hst:∀ g,g < w4.heap.size→g≠w2.heap.size→w7.heap[g]? = w4.heap[g]? := fun g g1 g2=>by rw [p7.other g g2,x6.block g aC,p5.other g g2]
    refine bodyPost_ret (results_tmp2 rfl _ _ _) rfl ⟨(xw5.trans x6).move p7.mv (by rintro k ⟨⟩;omega), .inl ⟨⟨w2.heap.size,w1.heap.size,nb,M,w3.heap.size,wr.heap.size,w5.heap.size⟩,hg.c2.1,rfl,⟨?_,?_,p7.this,?_,?_,?_⟩⟩⟩
    ·refine ⟨?_,?_,?_,?_⟩ <;> dsimp only <;> omega
    ·refine ⟨zr,hge,?_,?_⟩ <;> dsimp only <;> omega
    ·exact ⟨hge,(hst nb lnb aC).trans hn4.blk,Own.nil _ _ _ _⟩
    ·exact ⟨_,cM (w:=w7) (n:=w5.heap.size) aC,h6.kf (T:=[92]) (Kf.put p7 (x6.at b5) aX) aJ aC⟩
    ·refine ⟨vs,hm.at fun es c e => ?_,hvl,fun i s v h1 h2=>(hh i s v h1 h2).upper fun g g1 g2 => ?_⟩
     ·have e4:=x4.at e;have l4:=(Array.getElem?_eq_some_iff.1 e4).1;exact (hst _ l4 aC).trans e4
     ·dsimp only;rw [(kW (w:=w7) (n:=wr.heap.size) aC).block g (by rw [cM aC];exact g2) |>.symm,hst g aC aC,x4.block g g2]
   ·refine_lift bK fun _ _ => ?_;refine bZ (Ac _) fun w6 x6 => ?_;refine_lift aR ?_;refine eZ 1 (.pointer none) (x6.at b5) rfl fun w7 p7 => ?_;refine_lift iX fun _ => ?_;exact bodyPost_ret (results_tmp2 rfl _ _ _) rfl ⟨(xw5.trans x6).move p7.mv (by rintro k ⟨⟩;omega), .inr ⟨rfl,rfl⟩⟩
variable {cs:Array Value} {held:Bool} {qt:Int} {ps rs:List (List UInt8 × Nat)} {ls:List (List UInt8)} {css css0 es:List (List Value)} {d l m n o qn s t x y z:List UInt8} {B a b base c e fuel i j k p q:Nat} {fz:Nat × Nat} {row:Option Nat} {r u v:Value} {w w' w0 w1 w2:World}
abbrev WB:=List UInt8 × List RSet
abbrev TE:=Int × List WB
structure SvsAt (w:World) (v:Value) (ss:List TE):Prop where
 out:∃ css,Sl 2 w v css∧css.length=ss.length∧∀ (i:Nat) (s:TE),ss[i]? = some s→∃ u,css[i]? = some [.int .i64 s.1,u]∧ZonesAt w u s.2
theorem SvsAt.ext {ss:List TE} (h:SvsAt w v ss) (hx:Ext w w'):SvsAt w' v ss:=by
 obtain ⟨css,h1,h2,h3⟩:=h;exact ⟨css,h1.ext hx,h2,fun i z hi=>let ⟨u,a,b⟩:=h3 i z hi;⟨u,a,b.ext hx⟩⟩
def TF (z:WB):Int:=(((aM z.1).getD []).length:Nat)
def pY (n:List UInt8) (st:WB × Int) (z:WB):WB × Int:=if bY n z.1=true∧st.2 < TF z then (z,TF z) else st
def jO (n:List UInt8) (ss:List TE):WB × Int:=ss.foldl (fun st s=>s.2.foldl (pY n) st) (([],[]),-1)
theorem Ef (lv:Value) (ss:List TE) (n:List UInt8) (w:World) (hs:SvsAt w lv ss) (hl:∀ s ∈ ss,∀ z ∈ s.2,((aM z.1).getD []).length≤1000000) :
 Calls Tryz.prog 25 #[lv,aE n] w (kX w fun r w'=>∃ u,r=.tuple #[.agg #[aE (jO n ss).1.1,u], .bool (decide (0≤(jO n ss).2))]∧SetsAt w u (jO n ss).1.2):=by
 obtain ⟨css,hsl,hlen,hss⟩:=hs;have hle:=hsl.le;go_enter Tryz.func25,Tryz.ntmps25
 refine_lift lI ?_;intro _ _ _;refine dT (z:=iP) fun w1 x1 s1 b1 => ?_;refine aB ?_;have z1:=x1.size;refine_lift bK fun _ _ => ?_;go_loopw [6,14] (fun mv iv wr=>∃ (k:Nat) (u:Value),k≤ss.length∧iv=.int .i64 k∧mv=.int .i64 (jO n (ss.take k)).2∧Ext w wr∧wr.heap[w.heap.size]? = some (.cells [aE (jO n (ss.take k)).1.1,u].toArray 70 (0,0))∧SetsAt w u (jO n (ss.take k)).1.2) (fun _ iv _=>ss.length - (intOf iv).toNat)
 case atStart=>exact ⟨0, .slice none 0 0,Nat.zero_le _,rfl,rfl,x1,b1,(SetsO.nil 0 w).sets⟩
 case round =>
  obtain ⟨k,u,hk,rfl,rfl,hx,hb,hu⟩:=hrel;have slr:=hsl.ext hx;by_cases hlt:k < ss.length
  ·obtain ⟨zv,hcu,hz⟩:=hss k ss[k] (List.getElem?_eq_getElem hlt);have hel:=slr.elem hcu;have hlz:=hl _ (List.getElem_mem hlt);have htk:jO n (ss.take (k + 1))=ss[k].2.foldl (pY n) (jO n (ss.take k)):=by
    unfold jO;rw [List.take_succ_eq_append_getElem hlt,List.foldl_append];rfl
   obtain ⟨zcs,hzs0,hzl,hze⟩:=hz.out;have hzs:=hzs0.ext hx;have hzle:=hzs0.le;obtain ⟨za,zn,zc,hzv⟩:∃ a n c,zv=.slice a n c:=by
    obtain ⟨a,c,e,_⟩:=hzs;exact ⟨_,_,_,e⟩
   subst hzv;generalize ss[k]=s at *;generalize jO n (ss.take k)=st0 at *;refine_lift rS ?_;intro _ _ _ _ _ _;refine dT (z:=[.int .i64 0, .slice none 0 0]) fun w2 x2 s2 b2 => ?_;refine aB ?_;refine dH (v:=.agg #[.int .i64 s.1, .slice za zn zc]) b2 (by simp [Value.cells,Value.oneCell']) fun w3 p3 => ?_;have x3:=cB x2 p3;have hps:=aA (cs:=[.int .i64 s.1, .slice za zn zc]) p3.this;have hb3:=x3.at hb;have hx3:=hx.trans x3;have hzs3:=hzs0.ext hx3;clear hel slr;refine_lift aR ?_;go_loopw [6,21] (fun mv iv wq=>∃ (j:Nat) (u:Value),j≤s.2.length∧iv=.int .i64 j∧mv=.int .i64 ((s.2.take j).foldl (pY n) st0).2∧Ext w wq∧wq.heap[w.heap.size]? = some (.cells [aE ((s.2.take j).foldl (pY n) st0).1.1,u].toArray 70 (0,0))∧SetsAt w u ((s.2.take j).foldl (pY n) st0).1.2) (fun _ iv _=>s.2.length - (intOf iv).toNat)
   case atStart=>exact ⟨0,u,Nat.zero_le _,rfl,rfl,hx3,hb3,hu⟩
   case round =>
    obtain ⟨j,uj,hj,rfl,rfl,hxq,hbq,huq⟩:=hrel;have zsq:=hzs0.ext hxq;by_cases hjl:j < s.2.length
    ·obtain ⟨y,hzc,hsets⟩:=hze j _ (List.getElem?_eq_getElem hjl);have helz:=zsq.elem hzc;have hlj:=hlz _ (List.getElem_mem hjl);have htj:(s.2.take (j + 1)).foldl (pY n) st0=pY n ((s.2.take j).foldl (pY n) st0) s.2[j]:=by
      rw [List.take_succ_eq_append_getElem hjl,List.foldl_append];rfl
     obtain ⟨ya,yl,yc,hy⟩:∃ a n c,y=.slice a n c:=by
      obtain ⟨_,g,_⟩:=hsets.sl;obtain ⟨a,c,e,_⟩:=g;exact ⟨_,_,_,e⟩
     subst hy;generalize s.2[j]=z at *;generalize (s.2.take j).foldl (pY n) st0=st at *;refine_lift rS ?_;intro _ _ _ _ _ _;refine dT (z:=iP) fun w4 x4 s4 b4 => ?_;refine aB ?_;refine dH (v:=.agg #[aE z.1, .slice ya yl yc]) b4 (by simp [Value.cells,aE,Value.oneCell']) fun w5 p5 => ?_;have x5:=cB x4 p5;have hpz:=aA (cs:=[aE z.1, .slice ya yl yc]) p5.this;have hx5:=hxq.trans x5;have hb5:=x5.at hbq;clear helz zsq;refine_lift bK fun _ _ => ?_;refine gR (uD z.1 _) fun v6 w6 x6 o6 => ?_;refine aB ?_;have sl6:=o6.sl;have hpz6:=hpz.ext x6;have ltl:(aH ((aM z.1).getD [])).length=((aM z.1).getD []).length:=List.length_map ..;clear hpz;refine_lift bK fun _ _ => ?_;refine bZ (jI n z.1 _) fun w7 x7 => ?_;have hpz7:=hpz6.ext x7;have x57:=x6.trans x7;have hb7:=x57.at hb5;have hx7:=hx5.trans x57;clear hpz6 sl6;have ecnt:(((aH ((aM z.1).getD [])).length:Nat):Int)=TF z:=by rw [ltl];rfl
     rw [ecnt];have hpzq:=hpz7;by_cases hbet:bY n z.1=true∧st.2 < TF z
     ·have ebet:pY n st z=(z,TF z):=if_pos hbet;rw [hbet.1];refine_lift iX fun _ => ?_
      ·refine dH (v:=.agg #[aE z.1, .slice ya yl yc]) hb7 (by simp [Value.cells,aE,Value.oneCell']) fun w8 p8 => ?_;refine_lift aR ?_;refine ⟨⟨j + 1, .slice ya yl yc,aC,by go_num,?_,cB hx7 p8,?_,?_⟩,by simp [intOf];omega⟩
       ·rw [htj,ebet]
       ·rw [htj,ebet];exact p8.this
       ·rw [htj,ebet];exact hsets
     ·have ebet:pY n st z=st:=if_neg hbet;cases hU:bY n z.1
      ·refine_lift aR ?_;refine ⟨⟨j + 1,uj,aC,by go_num,?_,hx7,?_,?_⟩,by simp [intOf];omega⟩
       ·rw [htj,ebet]
       ·rw [htj,ebet];exact hb7
       ·rw [htj,ebet];exact huq
      ·refine_lift jD (fun _ => ?_) (fun _ => ?_)
       ·exact absurd ⟨hU,by assumption⟩ hbet
       ·refine ⟨⟨j + 1,uj,aC,by go_num,?_,hx7,?_,?_⟩,by simp [intOf];omega⟩
        ·rw [htj,ebet]
        ·rw [htj,ebet];exact hb7
        ·rw [htj,ebet];exact huq
    ·have hjn:j=s.2.length:=aC;subst hjn;rw [List.take_length] at hbq huq ⊢;refine_lift iX fun _ => ?_;refine ⟨⟨k + 1,uj,aC,by go_num,?_,hxq,?_,?_⟩,by simp [intOf];omega⟩
     ·rw [htk]
     ·rw [htk];exact hbq
     ·rw [htk];exact huq
  ·have hkn:k=ss.length:=aC;subst hkn;rw [List.take_length] at hb hu ⊢;obtain ⟨ua,ul,uc,hue⟩:∃ a n c,u=.slice a n c:=by
    obtain ⟨_,g,_⟩:=hu.sl;obtain ⟨a,c,e,_⟩:=g;exact ⟨_,_,_,e⟩
   subst hue;have hpb:=aA (cs:=[aE (jO n ss).1.1, .slice ua ul uc]) hb;refine_lift lI fun _ _ _ => ?_;refine dH (v:=.agg #[aE (jO n ss).1.1, .slice ua ul uc]) hb (by simp [Value.cells,aE,Value.oneCell']) fun w8 p8 => ?_;refine_lift aR ?_;exact bodyPost_ret (fQ (cs:=[aE (jO n ss).1.1, .slice ua ul uc]) rfl rfl p8.this (zDk:eE Tryz.prog 70 2=true)) rfl ⟨_,rfl,cB hx p8, .slice ua ul uc,rfl,hu⟩
def rD (o:List UInt8) (k:Int) (l:List Rec):List UInt8 × Bool :=
 match l.getLast? with
 | none=>([],false)
 | some r=>if k=5∨k=255 then ([],false) else ((aQ 5 r.data).1,decide (r.kind=5) && (decide ((aQ 5 r.data).2=0) && !bY (aQ 5 r.data).1 o))
theorem Af (o:List UInt8) (u:Value) (k:Int) (v:Value) (l:List Rec) (w:World) (hu:∃ a n c,u=.slice a n c) (hv:Sl 4 w v (aF l)) (hd:∀ r ∈ l,r.data.length≤9223372036854775807) :
 Calls Tryz.prog 27 #[.agg #[aE o,u], .int .i64 k,v] w (aY w (.tuple #[aE (rD o k l).1, .bool (rD o k l).2])):=by
 obtain ⟨ua,ul,uc,rfl⟩:=hu;have hlen:=aK l;have hle:=hv.le;go_enter Tryz.func27,Tryz.ntmps27
 refine_lift mO fun _ _ => ?_;refine jP (vs:=[aE o, .slice ua ul uc]) fun w1 x1 s1 b1 => ?_;refine aB ?_;have hpz:=aA (cs:=[aE o, .slice ua ul uc]) b1;have hv1:=hv.ext x1;by_cases hn:l.length=0
 ·have hl0:l=[]:=List.length_eq_zero_iff.1 hn;subst hl0;have h0:(aF ([]:List Rec)).length=0:=rfl;refine_lift aR ?_;exact bodyPost_ret (results_tmp2 rfl _ _ _) rfl ⟨rfl,x1⟩
 ·have hlast:l.getLast? = some l[l.length - 1]:=by rw [List.getLast?_eq_getElem?,List.getElem?_eq_getElem aC]
  have hel:=hv1.elem (eU (show l.length - 1 < l.length by omega));have hdl:=hd _ (List.getElem_mem (show l.length - 1 < l.length by omega));have hnx:rD o k l=if k=5∨k=255 then ([],false) else ((aQ 5 l[l.length - 1].data).1,decide (l[l.length - 1].kind=5) && (decide ((aQ 5 l[l.length - 1].data).2=0) && !bY (aQ 5 l[l.length - 1].data).1 o)):=by
   unfold rD;rw [hlast]
  generalize l[l.length - 1]=r at *;have hel:Pts w1 (cJ v (((((aF l).length:Nat):Int) - 1).toNat * 4)) [aE r.name, .int .i64 r.kind, .int .i64 r.ttl,aE r.data]:=by
   rw [show ((((aF l).length:Nat):Int) - 1).toNat=l.length - 1 by omega];exact hel
  by_cases hk:k=5∨k=255
  ·(repeat' first | ((with_reducible refine bH ?_);go_step) | ((with_reducible refine aV ?_);first | refine dR ?_ | (refine bO ?_ ?_ <;> intro hc)) | fail)
   all_goals first
    | (exact bodyPost_ret (results_tmp2 rfl _ _ _) rfl ⟨by rw [hnx,if_pos hk];rfl,x1⟩)
    | (exact absurd hk aC)
    | (exact absurd (by assumption) hn)
  ·(repeat' first | ((with_reducible refine bH ?_);go_step) | ((with_reducible refine aV ?_);first | refine dR ?_ | (refine bO ?_ ?_ <;> intro hc)) | fail)
   rotate_left
   all_goals try (exact absurd aC hk)
   refine dT (z:=[aE [], .int .i64 0, .int .i64 0,aE []]) fun w2 x2 s2 b2 => ?_;refine aB ?_;refine dH (v:=.agg #[aE r.name, .int .i64 r.kind, .int .i64 r.ttl,aE r.data]) b2 (by simp [Value.cells,aE,Value.oneCell']) fun w3 p3 => ?_;have x3:=cB x2 p3;have hpr:=aA (cs:=[aE r.name, .int .i64 r.kind, .int .i64 r.ttl,aE r.data]) p3.this;have hpz3:=hpz.ext x3;clear hpz hel hv1;refine_lift bK fun _ _ => ?_;refine bZ (YK 5 r.data _ hdl) fun w4 x4 => ?_;have hpr4:=hpr.ext x4;have hpz4:=hpz3.ext x4;have x14:=x1.trans (x3.trans x4);clear hpr hpz3;have hnx':=hnx.trans (if_neg hk);generalize aQ 5 r.data=P at *;by_cases h5:r.kind=5∧P.2=0
   ·have e5:rD o k l=(P.1,!bY P.1 o):=by rw [hnx',decide_eq_true h5.1,decide_eq_true h5.2];rfl
    refine_lift WQ (fun hc hc => ?_) (fun hc => ?_) (fun _ _ hc hc => ?_)
    all_goals first
     | (refine bZ (jI P.1 o _) fun w5 x5 => ?_
        refine_lift aR ?_;exact bodyPost_ret (results_tmp2 rfl _ _ _) rfl ⟨by rw [e5];rfl,x14.trans x5⟩)
     | (exact absurd h5.1 (by assumption))
     | (exact absurd h5.2 (by assumption))
   ·have e5:rD o k l=(P.1,false):=by
     rw [hnx'];by_cases h6:r.kind=5
     ·rw [decide_eq_false (fun h=>h5 ⟨h6,h⟩)];simp
     ·rw [decide_eq_false h6];simp
    refine_lift WQ (fun hc hc => ?_) (fun hc => ?_) (fun _ _ hc hc => ?_)
    all_goals first
     | (exact absurd ⟨by assumption,by assumption⟩ h5)
     | (exact bodyPost_ret (results_tmp2 rfl _ _ _) rfl ⟨by rw [e5];rfl,x14⟩)
theorem WC {wL:World} {M:NodeM} {S:NodeR} (h:NodeI wL w M S) (src now:Int) (s:List UInt8) (hs:s.length≤1000000) (c1:0≤src∧src≤99) (c2:0≤now∧now≤1099511627776) {m:MsgR} (hd:cO s=(m,0)) (hr:m.resp=false) (q:mH) (hop:m.op=0) (hqs:m.qs=[q]) (ok:AskOk S q now) :
 Calls Tryz.prog 40 #[.pointer (some ⟨M.nb,0,none⟩), .int .i64 src,aE s, .int .i64 now] w (IH wL w M (S.ask ⟨src,m.id,q.1⟩ q now) (S.C.l=[]∧S.tt=none) [M.tb,M.tm,M.mb]):=by
 refine LX h src now s hs c1 c2 hd fun w2 qv a u x hx hn hm => ?_;rw [if_neg (by rw [hr];simp)];refine (Cg hn src now m qv a u x hm.msg q hop hqs ok).mono ?_;rintro e w3 ⟨rfl,M',h1,h2,h3,h4,h5⟩;exact ⟨rfl,M',h1,h2,h3,fun hP=>⟨h5 hP.1 hP.2,fun h=>by cases h⟩,h4.size⟩
theorem LZ {wL:World} {M:NodeM} {S:NodeR} (h:NodeI wL w M S) (now:Int) (s:List UInt8) (hs:s.length≤1000000) {x:NTask} (hx:S.nt=some x) (c1:0≤x.to∧x.to≤99) (c2:0≤now∧now≤1099511627776) {m:MsgR} (hd:cO s=(m,0)) (hr:m.resp=true)
 {y:WaitR} (hy:S.tt=some y) (hn:y.n=x.n) {n:Nat} (hmt:IE x.q m=true) (hB:TaskB x.t n) (hnn:n≤100000) (h1:m.an.length≤300) (h2:m.au.length≤300) (h3:m.ex.length≤300)
 (hd1:∀ z,∀ r ∈ x.t.of m.au z 2,r.data.length≤9223372036854775807) (hd2:∀ n,∀ r ∈ x.t.of m.ex n 1,r.data.length≤9223372036854775807) {t:TaskR} {ac:ActR} {ls:List LrnR} (hrp:x.t.reply m=(t,ac,ls)) (hk:ac.kind=1∨ac.kind=2∧ac.auth=[]) (hwt:0≤S.wt∧S.wt≤2147483647) (hst:S.sent≤1000000) (hl:y.l.length≤10)
 (hpo:tA S.C ls now=true) (hls:ls.length≤100000) :
 Calls Tryz.prog 40 #[.pointer (some ⟨M.nb,0,none⟩), .int .i64 x.to,aE s, .int .i64 now] w (IH wL w M (S.tolds x y t ac ls now) False []):=by
 refine LX h x.to now s hs c1 c2 hd fun w2 qv a u e hx2 hn2 hm => ?_;rw [if_pos hr];refine (VT hn2 hx hy hn m qv a u e hm hmt hB hnn h1 h2 h3 hd1 hd2 hrp hk hwt hst hl (by rw [h.out];simp) now c2.1 c2.2 hpo hls).mono ?_;rintro e w3 ⟨rfl,M',g1,g2,g3,g4⟩;exact ⟨rfl,M',g1,g2,g3,fun hP=>hP.elim,g4⟩
theorem Own.ko (h:Own B k e w v es) (hk:Ko w.heap.size w w') (he:e ∉ kT):Own B k e w' v es:=h.same fun r hr=>by
 obtain ⟨cur,fz,hq⟩:=h.type hr;rw [hq,hk r _ _ _ (Array.getElem?_eq_some_iff.1 hq).1 he hq]
theorem HeldV.mid {hm Bh Hn:Nat} {ss:List SrvR} (h:HeldV w hm Bh Hn ss) (h1:∀ es c,w.heap[hm]? = some (.map es c)→w'.heap[hm]? = some (.map es c)) (h2:Mid Bh Hn w w') (l1:Hn≤w.heap.size) (l2:Hn≤w'.heap.size):HeldV w' hm Bh Hn ss:=by
 obtain ⟨vs,g1,g2,g3⟩:=h;refine ⟨vs,g1.at h1,g2,fun i s v a b=>(g3 i s v a b).upper fun g e1 e2 => ?_⟩;rw [cM l1] at e2;rw [← (kW l2).block g (by rw [cM l2];exact e2),h2 g e1 e2,(kW l1).block g (by rw [cM l1];exact e2)]
theorem HeldV.lo {n:Nat} {hm Bh Hn:Nat} {ss:List SrvR} (h:HeldV w hm Bh Hn ss) (hl:Lo n w w') (h1:hm < n) (h2:Hn≤n) (l1:Hn≤w.heap.size):HeldV w' hm Bh Hn ss :=
 h.mid (fun es c e=>by rw [hl.block hm (Array.getElem?_eq_some_iff.1 e).1 h1];exact e) (Mid.lo hl h2 l1) l1 (Nat.le_trans l1 hl.size)
theorem HeldV.get {hm Bh Hn:Nat} {ss:List SrvR} (h:HeldV w hm Bh Hn ss) (l1:Hn≤w.heap.size) {s:SrvR} (hi:ss[i]? = some s):∃ ents v,MapS BN w hm ents∧ents[i]? = some (.int .i64 s.node,v)∧HldsAt w v [s.held]∧((ss.map (·.node)).Nodup→ents.Pairwise (fun a b=>a.1≠b.1)):=by
 obtain ⟨vs,g1,g2,g3⟩:=h;have hl:=(List.getElem?_eq_some_iff.1 hi).1;have hv:vs[i]? = some (vs[i]'(aC)):=List.getElem?_eq_getElem aC;refine ⟨_,_,g1,?_,((g3 i s _ hi hv).ext (kW l1)).at,fun hn=>AV g2 hn⟩;unfold iS;have hz:(ss.zip vs)[i]? = some (s,vs[i]'(aC)):=List.getElem?_zip_eq_some.2 ⟨hi,hv⟩;rw [List.getElem?_map,hz];rfl
theorem TierW.ext {b0:Nat} {Y:TierM} {ss:List SrvR} {room now:Int} {S:NodeR} {ps:List iW} {pv hv:Value} (h:TierW b0 w Y ss room S ps pv hv now) (hx:Ext w w'):TierW b0 w' Y ss room S ps pv hv now:=by
 obtain ⟨wL,e,hn⟩:=h.nod;have hle:=h.le;exact ⟨h.b0,⟨hle.1,hle.2.1,hle.2.2.1,Nat.le_trans hle.2.2.2 hx.size⟩,hx.at h.blk,h.net.ext hx,⟨wL,e,hn.grow hx⟩,h.held.mid (fun _ _=>hx.at) (Mid.of hx aC) aC (by have:=hx.size;omega)⟩
def xO (os:List vR):List iW:=os.map fun o=>(90,o.1,o.2)
theorem MA {tb nb:Nat} {rp mp hv:Value} {now room:Int} {pv:Value} {ps:List iW} (hb:w.heap[tb]? = some (.cells #[.pointer (some ⟨nb,0,none⟩),rp,mp,hv, .int .i64 now] 92 (0,0))) (hn:NetV B w nb 100 room pv ps) (hB:B≤w.heap.size) (htb:tb < B) {Bo:Nat} {os:List vR} (ho:Own Bo 2 175 w v (kJ os)) (hos:∀ o ∈ os,(0≤o.1∧o.1≤99)∧1≤o.2.length∧o.2.length≤65535) (hroom:(ps.length:Int) + os.length≤room) (hr:room≤1000) :
 Calls Tryz.prog 39 #[.pointer (some ⟨tb,0,none⟩),v] w (fun e w'=>e=.returned (.tuple #[])∧∃ pv',NetV B w' nb 100 room pv' (ps ++ xO os)∧Kf [147,107] [] w w'∧Lo B w w'):=by
 have sl:=ho.sl;have hlen:(kJ os).length=os.length:=List.length_map ..;have hle:=sl.le;go_enter Tryz.func39,Tryz.ntmps39
 refine_lift iX ?_;intro _;go_loopw [8] (fun iv wr=>∃ (k:Nat) (pv':Value),k≤os.length∧iv=.int .i64 k∧NetV B wr nb 100 room pv' (ps ++ xO (os.take k))∧Kf [147,107] [] w wr∧Lo B w wr) (fun iv _=>os.length - (intOf iv).toNat)
 case atStart=>exact ⟨0,pv,Nat.zero_le _,rfl,by rw [show ps ++ xO (os.take 0)=ps by simp [xO]];exact hn,Kf.of (Ext.refl _),Lo.of (Ext.refl _)⟩
 case round =>
  obtain ⟨k,pv',hk,rfl,hN,hK,hL⟩:=hrel;have slr:=(ho.keep hK.keep aJ).sl;have zr:=hL.size;by_cases hlt:k < os.length
  ·have hel:=slr.elem (show (kJ os)[k]? = some [.int .i64 os[k].1,aE os[k].2] by simp [kJ,hlt]);have hok:=hos _ (List.getElem_mem hlt);have htk:xO (os.take (k + 1))=xO (os.take k) ++ [(90,os[k].1,os[k].2)]:=by
    unfold xO;rw [List.take_succ_eq_append_getElem hlt,List.map_append];rfl
   have hpl:(ps ++ xO (os.take k)).length=ps.length + k:=by simp [xO];omega
   generalize os[k]=o at *;clear sl;refine_lift rS ?_;intro _ _ _ _ _ _;refine dT (z:=[.int .i64 0,aE []]) fun w1 x1 s1 b1 => ?_;refine aB ?_;refine dH (v:=.agg #[.int .i64 o.1,aE o.2]) b1 (by simp [Value.cells,aE,Value.oneCell']) fun w2 p2 => ?_;have x2:=cB x1 p2;have hpo:=aA (cs:=[.int .i64 o.1,aE o.2]) p2.this;have hb2:=x2.at (hK.cells _ _ _ _ hb aJ);have hpt:=aA (cs:=[.pointer (some ⟨nb,0,none⟩),rp,mp,hv, .int .i64 now]) hb2;clear hel;refine_lift WM ?_;refine aP 9 (Ext w2) zDk ?_;intro w3 x3 _;refine ⟨x3,?_⟩;refine dC 0 ?_;refine dC 1 ?_;refine dC 2 ?_;refine bE 3 ?_;refine bE 4 ?_;refine bE 5 ?_;refine bE 6 ?_;refine bE 7 ?_;refine xG (i:=8) (v:=.agg #[.int .i64 90, .int .i64 o.1,aE o.2]) rfl rfl (fun _=>Runs.build (vals:=[(0, .int .i64 90),(1, .int .i64 o.1),(2,aE o.2)]) rfl (by kernel_rfl)) ?_;refine aB ?_;refine dM 9 ?_;have x23:=x2.trans x3;have z23:=x23.size;refine gI (KI (hN.ext x23) aC (90,o.1,o.2) (by show (0:Int)≤90∧(90:Int)≤100 - 1;decide) (by show 0≤o.1∧o.1≤100 - 1;omega) hok.2 (by rw [hpl];omega) hr aJ) ?_;rintro _ w4 ⟨rfl,pv4,n4,k4,l4,_⟩;refine ⟨_,rfl,?_⟩;refine aB ?_;refine aD ⟨aN rfl,?_⟩;refine kK ?_;refine_lift aR ?_;refine ⟨⟨k + 1,pv4,aC,by go_num,?_,hK.trans ((Kf.of x23).trans k4),hL.trans ((Lo.of x23).trans l4)⟩,by simp [intOf];omega⟩;rw [htk,← List.append_assoc];exact n4
  ·have hkn:k=os.length:=aC;subst hkn;rw [List.take_length] at hN;refine_lift iX fun _ => ?_
   go_end0
   exact ⟨rfl,pv',hN,hK,hL⟩
theorem tC {b0:Nat} {Y:TierM} {ss:List SrvR} {room now:Int} {S S':NodeR} {p:iW} {pv hv:Value} (h:TierW b0 w Y ss room S [p] pv hv now) (hp:p.2.1=90) (hr:room≤1000) {Pr:Prop} {L:List Nat}
 (hH:∀ wL w',NodeI wL w' Y.M S→Calls Tryz.prog 40 #[.pointer (some ⟨Y.M.nb,0,none⟩), .int .i64 p.1,aE p.2.2, .int .i64 now] w' (IH wL w' Y.M S' Pr L))
 (hos:∀ o ∈ S'.out,(0≤o.1∧o.1≤99)∧1≤o.2.length∧o.2.length≤65535) (hroom:(S'.out.length:Int)≤room) :
 Calls Tryz.prog 17 #[.pointer (some ⟨Y.tb,0,none⟩), .int .i64 0] w (fun e w'=>e=.returned (.bool true)∧Lo b0 w w'∧∃ M' pv',TierW b0 w' { Y with M:=M' } ss room { S' with out:=[] } (xO S'.out) pv' hv now):=by
 obtain ⟨q1,q2,q3⟩:=p;have hq:q2=90:=hp;subst hq;have hb:=h.blk;have hpt:=aA (cs:=[.pointer (some ⟨Y.nb,0,none⟩), .pointer (some ⟨Y.M.nb,0,none⟩), .map (some Y.hm),hv, .int .i64 now]) hb;obtain ⟨l1,l2,l3,l4⟩:=h.le;obtain ⟨d1,d2,d3,d4⟩:=h.b0;obtain ⟨wL,eL,hN⟩:=h.nod;go_enter Tryz.func17,Tryz.ntmps17
 refine_lift lI ?_;intro _ _ _;refine gI (FI h.net aC) ?_;rintro _ w1 ⟨rfl,pv1,n1,k1,lo1,_⟩;refine ⟨_,rfl,?_⟩;refine aB ?_;have z1:=lo1.size;have b1:=k1.cells _ _ _ _ hb aJ;refine_lift aR ?_;refine dT (z:=iL) fun w2 x2 s2 b2 => ?_;refine aB ?_;refine dH (v:=.agg #[.int .i64 q1, .int .i64 90,aE q3]) b2 (by simp [Value.cells,aE,Value.oneCell']) fun w3 p3 => ?_;have x13:=cB x2 p3;have hpp:=aA (cs:=[.int .i64 q1, .int .i64 90,aE q3]) p3.this;have hpt3:=aA (cs:=[.pointer (some ⟨Y.nb,0,none⟩), .pointer (some ⟨Y.M.nb,0,none⟩), .map (some Y.hm),hv, .int .i64 now]) (x13.at b1);clear hpt;refine_lift bK fun _ _ => ?_;have hN1:=hN.kf (T:=[147,107]) k1 aJ z1;rw [eL] at hN1;have hH1:=h.held.lo lo1 aC (Nat.le_refl _) aC;have z13:=x13.size;refine aP 13 (Ext w3) zDk ?_;intro w4 x4 _;refine ⟨x4,?_⟩;refine dC 0 ?_;refine dC 1 ?_;refine dC 2 ?_;refine dC 3 ?_;refine bE 4 ?_;refine bE 5 ?_;refine bE 6 ?_;refine bE 7 ?_;refine bE 8 ?_;refine dC 9 ?_;refine dC 10 ?_;refine dC 11 ?_;refine bE 12 ?_;refine dM 13 ?_;have x14:=x13.trans x4;have z4:=x14.size;have hN4:=(hN1.grow x14).here;rw [cM aC] at hN4;refine gI (hH _ _ hN4) ?_;rintro _ w5 ⟨r,M',rfl,nM,hN5,o5,ko5,_,z5⟩;refine ⟨_,rfl,?_⟩;refine aB ?_;refine aD ⟨aN rfl,?_⟩;have lo5:Lo Y.L w4 w5:=Lo.cut hN5.w.ext aC z5;have b4:=x14.at b1;have b5:w5.heap[Y.tb]? = some (.cells #[.pointer (some ⟨Y.nb,0,none⟩), .pointer (some ⟨Y.M.nb,0,none⟩), .map (some Y.hm),hv, .int .i64 now] 92 (0,0)):=by
  rw [lo5.block _ (Array.getElem?_eq_some_iff.1 b4).1 aC];exact b4
 have n4:=n1.ext x14;have n5:NetV Y.Hn w5 Y.nb 100 room pv1 []:=⟨n4.ge,by rw [lo5.block _ (Array.getElem?_eq_some_iff.1 n4.blk).1 l3];exact n4.blk,n4.row.ko ko5 aJ⟩;refine dM 14 ?_;refine gI (MA (ps:=[]) b5 n5 aC aC o5 hos (by simpa using hroom) hr) ?_;rintro _ w6 ⟨rfl,pv6,n6,k6,lo6⟩;refine ⟨_,rfl,?_⟩;refine aB ?_;refine aD ⟨aN rfl,?_⟩;refine kK ?_;refine_lift aR ?_;go_ret;have z6:=lo6.size;have hH4:=hH1.mid (w':=w4) (fun _ _=>x14.at) (Mid.of x14 aC) aC aC;have hH6:=(hH4.lo lo5 aC aC aC).lo lo6 aC (Nat.le_refl _) aC;have hN6:=hN5.kf (T:=[147,107]) k6 aJ z6;have eN:(xN w4 Y.L).heap.size=Y.L:=cM aC;rw [eN] at hN6;have hlo:Lo b0 w w6:=(lo1.mono aC).trans ((Lo.of x14).trans ((lo5.mono aC).trans (lo6.mono aC)));refine ⟨rfl,hlo,M',pv6,h.b0,⟨l1,l2,l3,by dsimp only;omega⟩,?_,n6,⟨_,cM (w:=w6) (n:=Y.L) aC,hN6⟩,hH6⟩;have:=k6.cells _ _ _ _ b5 aJ;dsimp only;rw [nM];exact this
theorem AW {b0:Nat} {Y:TierM} {ss:List SrvR} {room now:Int} {S:NodeR} {p:iW} {pv hv:Value} (h:TierW b0 w Y ss room S [p] pv hv now) (ok:SrvOk ss) {s:SrvR} (hi:ss[i]? = some s) (hp:p.2.1=s.node) (hf:0≤p.1∧p.1≤99) (hr:1≤room∧room≤1000) (hl:p.2.2.length≤1000000) {b:List UInt8} (hs:iK [s.held] p.2.2 false=(b,true)) (hb:1≤b.length∧b.length≤65535) :
 Calls Tryz.prog 17 #[.pointer (some ⟨Y.tb,0,none⟩), .int .i64 0] w (fun e w'=>e=.returned (.bool true)∧Lo b0 w w'∧∃ pv',TierW b0 w' Y ss room S [(p.2.1,p.1,b)] pv' hv now):=by
 obtain ⟨q1,q2,q3⟩:=p;have hq:q2=s.node:=hp;subst hq;have hnd:=ok.node s (List.mem_of_getElem? hi);have hsm:=ok.small s (List.mem_of_getElem? hi);have hblk:=h.blk;obtain ⟨l1,l2,l3,l4⟩:=h.le;obtain ⟨d1,d2,d3,d4⟩:=h.b0;obtain ⟨wL,eL,hN⟩:=h.nod;have htm:eG Tryz.prog 88 3 93=true:=zDk;have hzv:∀ w,(zeroValue 93).run Tryz.prog w=.ok (.slice none 0 0) w:=fun w=>by kernel_rfl
 have g90:¬ s.node=90:=aC;have g91:¬ s.node=91:=aC;go_enter Tryz.func17,Tryz.ntmps17
 have hpt:=aA (cs:=[.pointer (some ⟨Y.nb,0,none⟩), .pointer (some ⟨Y.M.nb,0,none⟩), .map (some Y.hm),hv, .int .i64 now]) hblk;refine_lift lI ?_;intro _ _ _;refine gI (FI h.net aC) ?_;rintro _ w1 ⟨rfl,pv1,n1,k1,lo1,_⟩;refine ⟨_,rfl,?_⟩;refine aB ?_;have z1:=lo1.size;have b1:=k1.cells _ _ _ _ hblk aJ;refine_lift aR ?_;refine dT (z:=iL) fun w2 x2 s2 b2 => ?_;refine aB ?_;refine dH (v:=.agg #[.int .i64 q1, .int .i64 s.node,aE q3]) b2 (by simp [Value.cells,aE,Value.oneCell']) fun w3 p3 => ?_;have x13:=cB x2 p3;have hpp:=aA (cs:=[.int .i64 q1, .int .i64 s.node,aE q3]) p3.this;have hpt3:=aA (cs:=[.pointer (some ⟨Y.nb,0,none⟩), .pointer (some ⟨Y.M.nb,0,none⟩), .map (some Y.hm),hv, .int .i64 now]) (x13.at b1);have hN1:=hN.kf (T:=[147,107]) k1 aJ z1;rw [eL] at hN1;have hH1:=h.held.lo lo1 aC (Nat.le_refl _) aC;obtain ⟨ents,hvv,m1,e1,hld,hun⟩:=hH1.get aC hi;have m3:=m1.ext x13;clear hpt;refine_lift rS fun _ _ _ _ _ _ => ?_;refine cY zDk zDk ?_;refine_lift uV ?_;refine fL (v:=.tuple #[hvv, .bool true]) (fun w' x'=>Runs.lookup rfl rfl (eR (i:=i) kI htm hzv (m3.ext x') ⟨_,rfl⟩ e1 (hun ok.two) true)) ?_;refine aB ?_;refine_lift uV ?_;intro w4 x4;have hpp4:=hpp.ext x4;have x14:=x13.trans x4;clear hpt3 hpp;refine_lift bK fun _ _ => ?_;refine bZ (VU hvv [s.held] q3 false _ (hld.ext x14) aX (fun x hx y hy=>hsm.2 y (by rw [List.mem_singleton.1 hx] at hy;exact hy)) hl) fun w5 x5 => ?_;rw [hs];have hpp5:=hpp4.ext x5;have x15:=x14.trans x5;have hpt5:=aA (cs:=[.pointer (some ⟨Y.nb,0,none⟩), .pointer (some ⟨Y.M.nb,0,none⟩), .map (some Y.hm),hv, .int .i64 now]) (x15.at b1);clear hpp4;refine_lift iX fun _ => ?_;refine aP 10 (Ext w5) zDk ?_;intro w6 x6 _;refine ⟨x6,?_⟩;refine dC 0 ?_;refine dC 1 ?_;refine dC 2 ?_;refine bE 3 ?_;refine bE 4 ?_;refine bE 5 ?_;refine bE 6 ?_;refine bE 7 ?_;refine dC 8 ?_;refine xG (i:=9) (v:=.agg #[.int .i64 s.node, .int .i64 q1,aE b]) rfl rfl (fun _=>Runs.build (vals:=[(0, .int .i64 s.node),(1, .int .i64 q1),(2,aE b)]) rfl (by kernel_rfl)) ?_;refine aB ?_;refine dM 10 ?_;have x16:=x15.trans x6;have z6:=x16.size;refine gI (KI (n1.ext x16) aC (s.node,q1,b) (by show 0≤s.node∧s.node≤100 - 1;omega) (by show 0≤q1∧q1≤100 - 1;omega) hb (by show ((0:Nat):Int) < room;omega) hr.2 aJ) ?_;rintro _ w7 ⟨rfl,pv7,n7,k7,lo7,_⟩;refine ⟨_,rfl,?_⟩;refine aB ?_;refine aD ⟨aN rfl,?_⟩;refine kK ?_;refine_lift aR ?_;go_ret;have z7:=lo7.size;have hH6:=hH1.mid (w':=w6) (fun _ _=>x16.at) (Mid.of x16 aC) aC aC;have hH7:=hH6.lo lo7 aC (Nat.le_refl _) aC;have hN7:=(hN1.grow x16).kf (T:=[147,107]) k7 aJ z7;rw [cM aC] at hN7;have hlo:Lo b0 w w7:=(lo1.mono aC).trans ((Lo.of x16).trans (lo7.mono aC));exact ⟨rfl,hlo,pv7,h.b0,⟨l1,l2,l3,aC⟩,k7.cells _ _ _ _ (x16.at b1) aJ,n7,⟨_,cM (w:=w7) (n:=Y.L) aC,hN7⟩,hH7⟩
theorem AX {b0:Nat} {Y:TierM} {ss:List SrvR} {room now:Int} {S:NodeR} {pv hv:Value} (h:TierW b0 w Y ss room S [] pv hv now) (i:Int):Calls Tryz.prog 17 #[.pointer (some ⟨Y.tb,0,none⟩), .int .i64 i] w (aY w (.bool false)):=by
 have hpt:=aA (cs:=[.pointer (some ⟨Y.nb,0,none⟩), .pointer (some ⟨Y.M.nb,0,none⟩), .map (some Y.hm),hv, .int .i64 now]) h.blk;go_enter Tryz.func17,Tryz.ntmps17
 refine_lift bK fun _ _ => ?_;refine bZ (LW h.net i) fun w1 x1 => ?_;refine_lift aR ?_;refine dT (z:=iL) fun w2 x2 s2 b2 => ?_;refine aB ?_;refine dH (v:=.agg iL.toArray) b2 (by simp [iL,Value.cells,aE,Value.oneCell']) fun w3 p3 => ?_;refine_lift aR ?_;go_ret;exact ⟨rfl,x1.trans (cB x2 p3)⟩
end Go.Proofs.X
