/- Laws and walks that the proof of the statement is made of (part 14). -/
import Derived.Test.YtfkckeaadnoeiaaGreatP13
set_option linter.unusedSimpArgs false
set_option linter.unusedVariables false
set_option maxRecDepth 100000
set_option maxHeartbeats 20000000
namespace Go.Proofs.X
open Go.RowKit
variable {cs:Array Value} {held:Bool} {qt:Int} {ps rs:List (List UInt8×Nat)} {ls:List (List UInt8)} {css css0 es:List (List Value)} {d l m n o qn s t x y z:List UInt8} {B a b base c e fuel i j k p q:Nat} {fz:Nat×Nat} {row:Option Nat} {r u v:Value} {w w' w0 w1 w2:World}
def PG:List UInt8:=[0,0,0,0,0,5,0,0,0,10,0,0,0,3,0,0,0,100,0,0,0,4]
def BQ:List Rec:=[⟨[],6,9,PG⟩,⟨[],2,9,[1,114,0]⟩,⟨[1,97],2,9,[1,110,1,97,0]⟩,⟨[1,110,1,97],1,9,[10,0,0,1]⟩]
def qF (l:List Rec):List Rec:=[⟨[1,97],6,9,PG⟩,⟨[1,97],2,9,[1,110,1,97,0]⟩,⟨[1,110,1,97],1,9,[10,0,0,1]⟩]++l
def gG:Rec:=⟨[1,120,1,97],1,7,[49,50,51,52]⟩
def Bw:List RSet:=pX [] BQ
def Bx (l:List Rec):List RSet:=pX [1,97] (qF l)
theorem Di:jT [] BQ=0:=zDk
theorem Dj:jT [1,97] (qF [gG])=0:=zDk
def hR:HldR:={ o:=[],l:=Bw,org:=[],up:=true }
def hA (l:List Rec):HldR:={ o:=[1,97],l:=Bx l,org:=[1,97],up:=true }
def tq:mU:=([1,88,1,97],1)
def Ex:NodeR:=NodeR.new [0] 20 50 1000 5
def tS1:NodeR:=Ex.ask ⟨91,5,tq.1⟩ tq 0
def PH:NodeR:={ tS1 with out:=[] }
def JK:NTask:=tS1.nt.getD ⟨0,eG [] 0 [] 0,[],0,[],0,0,zeroM,0⟩
theorem Dk:cP (qB 5 tq)=(qM 5 tq,0):=zDk
theorem TO:tS1.out=[(0,(bP JK.q).1)]:=zDk
def YJ:List UInt8:=(iN [hR] (bP JK.q).1 false).1
theorem Dl:(iN [hR] (bP JK.q).1 false).2=true:=zDk
def YK:MsgR:=(cP YJ).1
theorem Dm:(cP YJ).2=0:=zDk
theorem YL:YK.resp=true∧JJ JK.q YK=true:=zDk
def PI:=JK.t.reply YK
theorem TP:PI.2.1.kind=1∧PI.2.1.to=1∧PI.2.2.length=2:=zDk
def tY:WaitR:=⟨1,fold tq.1,1,[⟨91,5,tq.1⟩]⟩
theorem Dn:PH.tt=some tY:=rfl
theorem Do:PH.nt=some JK:=rfl
def tS2:NodeR:=PH.tolds JK tY PI.1 PI.2.1 PI.2.2 0
def WU:NodeR:={ tS2 with out:=[] }
def GY:NTask:=tS2.nt.getD ⟨0,eG [] 0 [] 0,[],0,[],0,0,zeroM,0⟩
theorem Dp:tI PH.C PI.2.2 0=true:=zDk
theorem TQ:tS2.nt.isSome=true∧JK.to=0∧GY.to=1∧GY.n=1:=zDk
theorem TR:tS2.out=[(1,(bP GY.q).1)]:=zDk
theorem Dq:WU.tt=some tY:=by
 show (PH.tolds JK tY PI.1 PI.2.1 PI.2.2 0).tt=_;rw [NodeR.tolds,if_pos TP.1];rfl
def YM:List UInt8:=(iN [hA [gG]] (bP GY.q).1 false).1
theorem Dr:(iN [hA [gG]] (bP GY.q).1 false).2=true:=zDk
def YN:MsgR:=(cP YM).1
theorem Ds:(cP YM).2=0:=zDk
theorem YO:YN.resp=true∧JJ GY.q YN=true:=zDk
def UJ:=GY.t.reply YN
theorem TS:UJ.2.1.kind=2∧UJ.2.1.auth=[]∧UJ.2.2.length=1:=zDk
theorem Dt:tI WU.C UJ.2.2 0=true:=zDk
def tS3:NodeR:=WU.tolds GY tY UJ.1 UJ.2.1 UJ.2.2 0
def WV:NodeR:={ tS3 with out:=[] }
theorem Du:tS3.out.map (·.1)=[91]:=zDk
def YP:List UInt8:=(tS3.out.headD (0,[])).2
def TT:MsgR:=(cP YP).1
theorem Dv:(cP YP).2=0:=zDk
theorem TU:TT.resp=true∧TT.id=5∧TT.an=[gG]:=zDk
theorem Dw:WV.nt.isSome=false:=zDk
abbrev jN:=Int×Int×List UInt8
def eB (l:List jN):List (List Value):=l.map fun p=>[.int .i64 p.1, .int .i64 p.2.1,aE p.2.2]
theorem kU (l:List jN):(eB l).length=l.length:=List.length_map ..
theorem LH {l:List jN}:∀ f∈eB l,∀ u∈f,u.oneCell'=true:=by
 intro f hf u hu;obtain ⟨r,_,rfl⟩:=List.mem_map.1 hf;simp only [List.mem_cons,List.not_mem_nil,or_false]at hu;rcases hu with rfl|rfl|rfl<;>rfl
theorem TV {l:List jN} (h:Own B 3 107 w v (eB l)) (hi:i<l.length) (hl:l.length≤1000000):Calls Tryz.prog 80 #[v, .int .i64 i, .int .i64 (i+1:Nat)] w fun e w'=>∃ v',e=.returned v'∧Own B 3 107 w' v' (eB (l.eraseIdx i))∧Mv v.ownBlock w w'∧v'.ownBlock=v.ownBlock:=by
 have hlen:=kU l;have h1c:=LH (l:=l);rcases h.form with ⟨rfl,hn⟩|⟨g,cap,rfl,hg,hb,hc,_⟩
 ·exfalso
  rw [hn]at hlen;simp at hlen;omega
 ·have hs:=h.sl;rw [hlen]at hc;have hs':=hs;rw [hlen]at hs';go_enter Tryz.func80,Tryz.ntmps80
  refine_lift lQ ?_;intro _ _ _;refine aG (Runs.cut3 (k:=3) (m:=i) (n:=i+1) (p:=l.length) (l:=(eB l).length) (c:=cap) (ad:=some ⟨g,0,none⟩) rfl rfl rfl (by rw [← hlen];rfl) aC aC hc zDk) ?_;refine aB ?_;refine_lift lQ fun _ _ _=>?_;refine aO 6 (fun w'=>Sl 3 w' (Value.slice (some ⟨g,0,none⟩) (eB l).length cap) (eB l)) zDk ?_;intro w1 x1 _;refine ⟨hs.ext x1,?_⟩;refine bE 0 ?_;refine bE 1 ?_;refine bE 2 ?_;refine bE 3 ?_;refine bE 4 ?_;refine bE 5 ?_;have e22:dD (Value.slice (some ⟨g,0,none⟩) (eB l).length cap) 3 0 i=.slice (some ⟨g,0,none⟩) i cap:=by simp [dD,cY]
  obtain ⟨ad,e25⟩:∃ ad,dD (Value.slice (some ⟨g,0,none⟩) (eB l).length cap) 3 (i+1) (eB l).length=.slice (some ad) ((eB l).length - (i+1)) (cap - (i+1)):=by
   by_cases hq:cap=i+1
   ·exact ⟨⟨g,0,none⟩,by simp [dD,hq]⟩
   ·exact ⟨_,by simp only [dD,if_neg hq];rfl⟩
  have hcut:=(hs.ext x1).cut (m:=i+1) (n:=(eB l).length) aC (Nat.le_refl _);rw [e25,List.take_length]at hcut;refine dH 6 ?_;refine HN (i:=i) (j:=i+1) (h.ext x1) e22 e25 hcut aC aC h1c ?_;intro w2 o2 m2;refine aB ?_;refine aD ⟨aN rfl,?_⟩;refine cZ 7 ?_;refine jP ?_;obtain ⟨m,hm⟩:∃ m,i+((eB l).length - (i+1))=m:=⟨_,rfl⟩;rw [hm]at o2 ⊢;have ee:(eB l).take i++(eB l).drop (i+1)=eB (l.eraseIdx i):=by
   rw [List.eraseIdx_eq_take_drop_succ];simp [eB,List.map_take,List.map_drop]
  rw [ee]at o2;have hml:(eB (l.eraseIdx i)).length=m:=by rw [kU,List.length_eraseIdx_of_lt hi];omega
  have h2l:(eB (l.eraseIdx i)++(eB l).drop m).length=(eB l).length:=by rw [List.length_append,hml,List.length_drop];omega
  have hsh:=o2;rw [← h2l]at hsh;have hsh:=hsh.short (m:=m) aC;rw [List.take_left' hml]at hsh;have hs2:=hsh.sl;refine_lift bU fun _ _=>?_;refine aG (Runs.cutC (k:=3) (m:=m) (n:=l.length) (l:=m) (c:=cap) (ad:=some ⟨g,0,none⟩) rfl (by rw [← hml];rfl) (by rw [← hlen];rfl) aC hc zDk) ?_;refine aB ?_;have e31:(if cap=m then some (⟨g,0,none⟩:Addr)else Option.map (fun x:Addr=>x.add (m*3)) (some (⟨g,0,none⟩:Addr)))=some (⟨g,m*3,none⟩:Addr):=by
   rw [if_neg aC];simp [cY]
  rw [e31];rw [← h2l]at o2;have h2l':(eB (l.eraseIdx i)++(eB l).drop m).length=l.length:=aC;refine zM (m:=m) (z:=[.int .i64 0, .int .i64 0,aE []]) o2 (by rw [h2l'];rfl) aC ?_;intro w3 o3 m3;rw [List.take_left' hml]at o3;refine_lift aT ?_;go_ret;exact ⟨_,rfl,o3,(x1.mv (some g)).trans (m2.trans m3),rfl⟩
theorem JL (n a b:Int) (w:World):Calls Tryz.prog 65 #[.int .i64 n, .int .i64 a, .int .i64 b] w (bC w (.bool (decide (a≤n)&&decide (n≤b)))):=by
 go_enter Tryz.func65,Tryz.ntmps65
 refine_lift lP (fun hc=>?_) (fun hc=>?_)
 all_goals
  go_ret;refine ⟨?_,Ext.refl _⟩;simp;omega
structure NetV (B:Nat) (w:World) (nb:Nat) (nodes room:Int) (pv:Value) (ps:List jN):Prop where
 ge:B≤nb
 blk:w.heap[nb]? = some (.cells #[.int .i64 nodes, .int .i64 room,pv] 147 (0,0))
 row:Own B 3 107 w pv (eB ps)
theorem NetV.ext {nb:Nat} {nodes room:Int} {pv:Value} {ps:List jN} (h:NetV B w nb nodes room pv ps) (hx:Ext w w'):NetV B w' nb nodes room pv ps:=⟨h.ge,hx.at h.blk,h.row.ext hx⟩
theorem Dx (nodes room:Int) (w:World) (h1:1≤nodes∧nodes≤100) (h2:1≤room∧room≤1000):Calls Tryz.prog 34 #[.int .i64 nodes, .int .i64 room] w (kZ w fun r w'=>∃ nb,r=.tuple #[.pointer (some ⟨nb,0,none⟩), .int .i64 0]∧NetV w.heap.size w' nb nodes room (.slice none 0 0) []):=by
 have e1:(decide (1≤nodes)&&decide (nodes≤100))=true:=by simp;omega
 have e2:(decide (1≤room)&&decide (room≤1000))=true:=by simp;omega
 go_enter Tryz.func34,Tryz.ntmps34
 refine_lift EZ ?_;intro _ _ _ _ _;refine cB (JL nodes 1 100 _) fun w1 x1=>?_;rw [e1];refine_lift aT ?_;refine cB (JL room 1 1000 _) fun w2 x2=>?_;rw [e2];refine_lift bU fun _ _=>?_;refine aG (v:=.agg #[.int .i64 nodes, .int .i64 room, .slice none 0 0]) (Runs.build (vals:=[(0, .int .i64 nodes),(1, .int .i64 room)]) rfl (by kernel_rfl)) ?_;refine aB ?_;refine jO (vs:=[.int .i64 nodes, .int .i64 room, .slice none 0 0]) fun w3 x3 s3 b3=>?_;refine aB ?_;refine_lift aT ?_;refine bodyPost_ret (results_tmp2 rfl _ _ _) rfl ?_;have x02:=x1.trans x2;exact ⟨_,rfl,x02.trans x3,_,rfl,x02.size,b3,Own.nil _ _ _ _⟩
theorem TW {nb:Nat} {nodes room:Int} {pv:Value} {ps:List jN} (h:NetV B w nb nodes room pv ps):Calls Tryz.prog 46 #[.pointer (some ⟨nb,0,none⟩)] w (bC w (.int .i64 ps.length)):=by
 have hp:=aA (cs:=[.int .i64 nodes, .int .i64 room,pv]) h.blk;have hs:=h.row.sl;have hlen:=kU ps;go_enter Tryz.func46,Tryz.ntmps46
 refine_lift aT ?_;go_ret;rw [hlen];exact ⟨rfl,Ext.refl _⟩
def lH:List Value:=[.int .i64 0, .int .i64 0,aE []]
theorem WW {nb:Nat} {nodes room:Int} {pv:Value} (h:NetV B w nb nodes room pv []) (i:Int):Calls Tryz.prog 79 #[.pointer (some ⟨nb,0,none⟩), .int .i64 i] w (bC w (.tuple #[.agg lH.toArray, .bool false])):=by
 have e1:(decide (0≤i)&&decide (i≤(([]:List jN).length:Nat) - 1))=false:=by simp;omega
 have h0:([]:List jN).length=0:=rfl;go_enter Tryz.func79,Tryz.ntmps79
 refine_lift bU fun _ _=>?_;refine dX (z:=lH) fun w1 x1 s1 b1=>?_;refine aB ?_;refine_lift mH fun _ _ _ _=>?_;refine cB (TW (h.ext x1)) fun w2 x2=>?_;refine_lift aT ?_;refine cB (JL i 0 ((([]:List jN).length:Nat) - 1) _) fun w3 x3=>?_;rw [e1];refine_lift bU fun _ _=>?_;refine aG (v:=.agg lH.toArray) (Runs.build0 (by kernel_rfl)) ?_;refine aB ?_;have x13:=x2.trans x3;refine dL (v:=.agg lH.toArray) (x13.at b1) (by simp [lH,Value.cells,aE,Value.oneCell']) fun w4 p4=>?_;refine_lift aT ?_;exact bodyPost_ret (fS (cs:=lH) rfl rfl p4.this zDk) rfl ⟨rfl,cJ (x1.trans x13) p4⟩
theorem WX {nb:Nat} {nodes room:Int} {pv:Value} {p:jN} (h:NetV B w nb nodes room pv [p]):Calls Tryz.prog 79 #[.pointer (some ⟨nb,0,none⟩), .int .i64 0] w (bC w (.tuple #[.agg #[.int .i64 p.1, .int .i64 p.2.1,aE p.2.2], .bool true])):=by
 have hp:=aA (cs:=[.int .i64 nodes, .int .i64 room,pv]) h.blk;have e1:(decide ((0:Int)≤0)&&decide ((0:Int)≤(([p]:List jN).length:Nat) - 1))=true:=aX;have h0:([p]:List jN).length=1:=rfl;have hs:=h.row.sl;go_enter Tryz.func79,Tryz.ntmps79
 refine_lift bU fun _ _=>?_;refine dX (z:=lH) fun w1 x1 s1 b1=>?_;refine aB ?_;refine_lift mH fun _ _ _ _=>?_;refine cB (TW (h.ext x1)) fun w2 x2=>?_;refine_lift aT ?_;refine cB (JL 0 0 ((([p]:List jN).length:Nat) - 1) _) fun w3 x3=>?_;rw [e1];have x13:=x2.trans x3;have x03:=x1.trans x13;have hp3:=hp.ext x03;have hel:Pts w3 (cC pv (0*3)) [.int .i64 p.1, .int .i64 p.2.1,aE p.2.2]:=(hs.ext x03).elem (i:=0) rfl;have hs3:=hs.ext x03;have h1:(eB [p]).length=1:=rfl;clear hp;refine_lift bU fun _ _=>?_;refine dL (v:=.agg #[.int .i64 p.1, .int .i64 p.2.1,aE p.2.2]) (x13.at b1) (by simp [Value.cells,aE,Value.oneCell']) fun w4 p4=>?_;refine_lift aT ?_;exact bodyPost_ret (fS (cs:=[.int .i64 p.1, .int .i64 p.2.1,aE p.2.2]) rfl rfl p4.this (zDk:eF Tryz.prog 107 3=true)) rfl ⟨rfl,cJ x03 p4⟩
theorem WY {nb:Nat} {nodes room:Int} {pv:Value} (h:NetV B w nb nodes room pv []) (i:Int):Calls Tryz.prog 38 #[.pointer (some ⟨nb,0,none⟩), .int .i64 i] w (bC w (.tuple #[.agg lH.toArray, .bool false])):=by
 go_enter Tryz.func38,Tryz.ntmps38
 refine_lift bU fun _ _=>?_;refine dX (z:=lH) fun w1 x1 s1 b1=>?_;refine aB ?_;refine_lift bU fun _ _=>?_;refine cB (WW (h.ext x1) i) fun w2 x2=>?_;refine_lift aT ?_;refine dX (z:=lH) fun w3 x3 s3 b3=>?_;refine aB ?_;refine dL (v:=.agg lH.toArray) b3 (by simp [lH,Value.cells,aE,Value.oneCell']) fun w4 p4=>?_;have x24:=cJ x3 p4;have x14:=x2.trans x24;have hp4:=aA (cs:=lH) p4.this;unfold lH at hp4;refine_lift lQ fun _ _ _=>?_;refine dL (v:=.agg lH.toArray) (x14.at b1) (by simp [lH,Value.cells,aE,Value.oneCell']) fun w5 p5=>?_;refine_lift aT ?_;exact bodyPost_ret (fS (cs:=lH) rfl rfl p5.this zDk) rfl ⟨rfl,cJ (x1.trans x14) p5⟩
theorem GK {nb:Nat} {nodes room:Int} {pv:Value} {p:jN} (h:NetV B w nb nodes room pv [p]) (hB:B≤w.heap.size):Calls Tryz.prog 38 #[.pointer (some ⟨nb,0,none⟩), .int .i64 0] w (fun e w'=>e=.returned (.tuple #[.agg #[.int .i64 p.1, .int .i64 p.2.1,aE p.2.2], .bool true])∧∃ pv',NetV B w' nb nodes room pv' []∧Kf [147,107] [] w w'∧Lo B w w'∧∀ c,c<w.heap.size→c≠nb→some c≠pv.ownBlock→w'.heap[c]? = w.heap[c]?):=by
 have hp:=aA (cs:=[.int .i64 nodes, .int .i64 room,pv]) h.blk;go_enter Tryz.func38,Tryz.ntmps38
 refine_lift lQ ?_;intro _ _ _;refine dX (z:=lH) fun w1 x1 s1 b1=>?_;refine aB ?_;refine_lift bU fun _ _=>?_;refine cB (WX (h.ext x1)) fun w2 x2=>?_;refine_lift aT ?_;refine dX (z:=lH) fun w3 x3 s3 b3=>?_;refine aB ?_;refine dL (v:=.agg #[.int .i64 p.1, .int .i64 p.2.1,aE p.2.2]) b3 (by simp [Value.cells,aE,Value.oneCell']) fun w4 p4=>?_;have x24:=cJ x3 p4;have x14:=x2.trans x24;have x04:=x1.trans x14;have hp4:=hp.ext x04;have h4:=h.ext x04;have b4:=p4.this;clear hp;refine_lift lQ fun _ _ _=>?_;refine gS (TV (i:=0) (l:=[p]) h4.row aX aX) ?_;rintro _ w5 ⟨pv',rfl,o5,m5,e5⟩;refine ⟨_,rfl,?_⟩;refine aB ?_;have n5:=m5.at h4.blk (fun e=>h4.row.neBlock h4.blk aK e.symm);have z1:=x1.size;have z2:=x2.size;have hob0:=h.row.block;have q5:=m5.at b4 (fun e=>by have:=(hob0 _ e.symm).2;omega);have c5:=m5.at (x14.at b1) (fun e=>by have:=(hob0 _ e.symm).2;omega);have hpn5:=aA (cs:=[.int .i64 nodes, .int .i64 room,pv]) n5;clear hp4;refine_lift aT ?_;refine fA 2 pv' n5 o5.one fun w6 p6=>?_;have lb:nb<w.heap.size:=(Array.getElem?_eq_some_iff.1 h.blk).1;have z24:=x24.size;have z5:=m5.size;have z6:=p6.size;have q6:=(p6.other _ (by omega:w2.heap.size≠nb)).trans q5;have c6:=(p6.other _ (by omega:w.heap.size≠nb)).trans c5;have hpq6:=aA (cs:=[.int .i64 p.1, .int .i64 p.2.1,aE p.2.2]) q6;clear hpn5;refine_lift bU fun _ _=>?_;refine dL (v:=.agg #[.int .i64 p.1, .int .i64 p.2.1,aE p.2.2]) c6 (by simp [Value.cells,aE,Value.oneCell']) fun w7 p7=>?_;refine_lift aT ?_;have z7:=p7.size;have hge:=h.ge;have e0:eB (([p]:List jN).eraseIdx 0)=eB []:=rfl;rw [e0]at o5;have hob:=h4.row.block;refine uC (cs:=[.int .i64 p.1, .int .i64 p.2.1,aE p.2.2]) p7.this ⟨rfl,pv',⟨hge,(p7.other _ aC).trans p6.this,(eM o5 p6 n5).mv p7.mv (.inr fun e=>by rw [e5]at e;have:=(hob0 _ e).2;omega)⟩,?_,?_,fun c g1 g2 g3=>?_⟩
 ·exact (Kf.of x04).trans ((Kf.row h4.row m5 aX).trans ((Kf.put p6 n5 aX).trans (Kf.put p7 c6 aX)))
 ·exact (Lo.of x04).trans ((Lo.mv m5 fun k hk=>(hob k hk).1).trans ((Lo.put p6 hge).trans (Lo.put p7 hB)))
 ·rw [p7.other c aC,p6.other c g2,m5.block c (by have:=x04.size;omega) g3,x04.block c g1]
theorem LI {n a b:Int} (h:a≤n∧n≤b) (w:World):Calls Tryz.prog 65 #[.int .i64 n, .int .i64 a, .int .i64 b] w (bC w (.bool true)):=by
 have:=JL n a b w;rw [decide_eq_true h.1,decide_eq_true h.2]at this;exact this
theorem LJ {nb:Nat} {nodes room:Int} {pv:Value} {ps:List jN} (h:NetV B w nb nodes room pv ps) (hB:B≤w.heap.size) (p:jN) (c1:0≤p.1∧p.1≤nodes - 1) (c2:0≤p.2.1∧p.2.1≤nodes - 1) (c3:1≤p.2.2.length∧p.2.2.length≤65535) (c4:(ps.length:Int)<room) (c5:room≤1000) (c6:nodes≤100) :
 Calls Tryz.prog 37 #[.pointer (some ⟨nb,0,none⟩), .agg #[.int .i64 p.1, .int .i64 p.2.1,aE p.2.2]] w (fun e w'=>e=.returned (.int .i64 0)∧∃ pv',NetV B w' nb nodes room pv' (ps ++ [p])∧Kf [147,107] [] w w'∧Lo B w w'∧∀ c,c<w.heap.size→c≠nb→some c≠pv.ownBlock→w'.heap[c]? = w.heap[c]?):=by
 have hp:=aA (cs:=[.int .i64 nodes, .int .i64 room,pv]) h.blk;have hs:=h.row.sl;have hlen:=kU ps;go_enter Tryz.func37,Tryz.ntmps37
 refine_lift sF ?_;intro _ _ _;refine jO (vs:=[.int .i64 p.1, .int .i64 p.2.1,aE p.2.2]) fun w1 x1 s1 b1=>?_;refine aB ?_;have hp1:=hp.ext x1;have hq1:=aA (cs:=[.int .i64 p.1, .int .i64 p.2.1,aE p.2.2]) b1;clear hp;refine_lift mH fun _ _ _ _=>?_;refine dA zDk zDk ?_;refine_lift vO ?_;refine hO (enters_of Tryz.func65 rfl rfl) rfl rfl (fun w' x'=>LI (a:=0) c1 w') ?_;refine aB ?_;refine_lift vO ?_;refine hO (enters_of Tryz.func65 rfl rfl) rfl rfl (fun w' x'=>LI (a:=0) c2 w') ?_;refine aB ?_;refine_lift vO ?_;refine hO (enters_of Tryz.func65 rfl rfl) rfl rfl (fun w' x'=>LI (n:=(p.2.2.length:Nat)) (a:=1) (b:=65535) aC w') ?_;refine aB ?_;refine_lift vO ?_;intro w2 x2;have hp2:=hp1.ext x2;have hq2:=hq1.ext x2;have hs2:=(hs.ext x1).ext x2;clear hp1 hq1;refine_lift bU fun _ _=>?_;refine dA zDk zDk ?_;refine_lift vO ?_;intro w3 x3;have hp3:=hp2.ext x3;have hq3:=hq2.ext x3;clear hp2 hq2 hs2;refine_lift lQ fun _ _ _=>?_;have x03:=x1.trans (x2.trans x3);have b3:=(x2.trans x3).at b1;have h3:=h.ext x03;refine aO 7 (Ext w3) zDk ?_;intro w4 x4 _;refine ⟨x4,?_⟩;refine cZ 0 ?_;refine cZ 1 ?_;refine cZ 2 ?_;refine cZ 3 ?_;refine bE 4 ?_;refine bE 5 ?_;refine dH 6 ?_;refine oD (e:=107) (k:=3) (bytes:=32) (xs:=[.agg #[.int .i64 p.1, .int .i64 p.2.1,aE p.2.2]]) (by simp [Value.cells]) fun v5 w5 x5 _ sl5 _=>?_;refine aB ?_;have x35:=x4.trans x5;refine aD ⟨aR x35,?_⟩;refine dH 7 ?_;have h5:=h3.ext x35;have x05:=x03.trans x35;have z5:=x05.size;refine bV (e:=107) (k:=3) rfl h5.row rfl sl5 (by simp [Value.cells,aE,Value.oneCell']) aC (by simp [eB];omega) ?_;intro v6 w6 o6 m6 _;refine aB ?_;refine aD ⟨aN rfl,?_⟩;refine cZ 8 ?_;refine cZ 9 ?_;refine dH 10 ?_;have n6:=m6.at h5.blk (fun e=>h5.row.neBlock h5.blk aK e.symm);refine fA 2 v6 n6 o6.one fun w7 p7=>?_;refine aD ⟨aN rfl,?_⟩;refine jP ?_;refine_lift aT ?_;go_ret;have hob:=h5.row.block;refine ⟨rfl,v6,⟨h.ge,p7.this,?_⟩,?_,?_,fun c g1 g2 g3=>?_⟩
 ·rw [show eB (ps ++ [p])=eB ps ++ [[.int .i64 p.1, .int .i64 p.2.1,aE p.2.2]] by simp [eB]];exact eM o6 p7 n6
 ·exact (Kf.of x05).trans ((Kf.row h5.row m6 aX).trans (Kf.put p7 n6 aX))
 ·exact (Lo.of x05).trans ((Lo.mv m6 fun k hk=>(hob k hk).1).trans (Lo.put p7 h.ge))
 ·rw [p7.other c g2,m6.block c aC g3,x05.block c g1]
structure ZonesAt (w:World) (v:Value) (zs:List (List UInt8×List RSet)):Prop where
 out:∃ css,Sl 2 w v css∧css.length=zs.length∧∀ (i:Nat) (z:List UInt8×List RSet),zs[i]? = some z→∃ u,css[i]? = some [aE z.1,u]∧SetsAt w u z.2
theorem ZonesAt.ext {zs:List (List UInt8×List RSet)} (h:ZonesAt w v zs) (hx:Ext w w'):ZonesAt w' v zs:=by
 obtain ⟨css,h1,h2,h3⟩:=h;exact ⟨css,h1.ext hx,h2,fun i z hi=>let ⟨u,a,b⟩:=h3 i z hi;⟨u,a,b.ext hx⟩⟩
def YQ (o:List UInt8) (l:List RSet) (o':List UInt8) (l':List RSet):List RSet:=if VF o l o' l'=0 then l' else l
def YR (room:Int) (o:List UInt8) (l:List RSet) (ds:List DeltaR) (o':List UInt8) (l':List RSet):List DeltaR:=if VF o l o' l'=0 then RJ room (ds ++ [Co o l o l'])else ds
structure JOk (o:List UInt8) (l:List RSet) (room:Int) (ds:List DeltaR):Prop where
 zone:ZoneOk o l
 fits:0≤room∧room≤20
 len:(ds.length:Int)≤room
 each:∀ d∈ds,d.gone.length≤4000∧d.new.length≤4000
theorem WZ {o':List UInt8} {l l':List RSet} (h:VF o l o' l'=0):o'=o∧ZoneOk o l'∧tD (fO o l').serial (fO o l).serial=true:=by
 unfold VF at h;split at h
 ·rename_i q;exact absurd h q
 ·rename_i q;split at h
  ·cases h
  ·rename_i q2;have e:o'=o:=by simpa using q2
   subst e;split at h
   ·cases h
   ·rename_i q3;exact ⟨rfl,lT (by simpa using q),by simpa using q3⟩
theorem XA {l l':List RSet} (h:ZoneOk o l) (h':ZoneOk o l'):(Co o l o l').gone.length≤4000∧(Co o l o l').new.length≤4000:=by
 rw [(Cr (ZS h h')).2.2.2];have a:=(RI h).2.2.2;have b:=(RI h').2.2.2;unfold DU;exact ⟨Nat.le_trans (List.length_filter_le _ _) a,Nat.le_trans (List.length_filter_le _ _) b⟩
theorem JOk.next {l:List RSet} {room:Int} {ds:List DeltaR} (h:JOk o l room ds) (o':List UInt8) (l':List RSet):JOk o (YQ o l o' l') room (YR room o l ds o' l'):=by
 unfold YQ YR;split
 ·rename_i q;obtain ⟨rfl,hz,_⟩:=WZ q;refine ⟨hz,h.fits,?_,?_⟩
  ·rw [RU _ _ h.fits.1];exact Int.min_le_right _ _
  ·intro d hd;rcases List.mem_append.1 (List.mem_of_mem_drop hd)with hd|hd
   ·exact h.each d hd
   ·rw [List.mem_singleton.1 hd];exact XA h.zone hz
 ·exact h
theorem JOk.small {l:List RSet} {room:Int} {ds:List DeltaR} (h:JOk o l room ds):l.length≤100000∧(∀ s∈l,s.data.length≤1000000)∧(∀ s∈l,∀ d∈s.data,d.length≤4611686018427387904)∧ds.length≤1000∧(∀ d∈ds,d.gone.length≤100000∧d.new.length≤100000):=by
 obtain ⟨a,b,c,_⟩:=RI h.zone;have hl:=h.len;have hr:=h.fits;refine ⟨aC,fun s hs=>by have:=b s hs;omega,fun s hs d hd=>by have:=c s hs d hd;omega,aC,fun d hd=>by have:=h.each d hd;omega⟩
structure NodeI (wL w:World) (M:NodeM) (S:NodeR):Prop where
 ov:M.ov=.slice none 0 0
 out:S.out=[]
 w:NodeW wL w.heap.size w M S
theorem NodeW.idle {wL:World} {Bo:Nat} {M:NodeM} {S:NodeR} (h:NodeW wL Bo w M S) (h1:M.ov=.slice none 0 0) (h2:S.out=[]):NodeI wL w M S:=by
 refine ⟨h1,h2,h.ext,⟨h.nod.ge,h.nod.blk,?_,h.ext.size,Nat.le_refl _⟩,h.rts,h.cac,h.den,h.tab,h.gm,h.map,h.tsk,h.ne⟩;rw [h2,show (M.c S).ov=.slice none 0 0 from h1];exact Own.nil _ _ _ _
theorem NodeI.grow {wL:World} {M:NodeM} {S:NodeR} (h:NodeI wL w M S) (hx:Ext w w'):NodeI wL w' M S:=(h.w.grow hx).idle h.ov h.out
theorem GL {wL:World} {Bo:Nat} {M:NodeM} {S:NodeR} (h:NodeW wL Bo w M S) :
 Calls Tryz.prog 83 #[.pointer (some ⟨M.nb,0,none⟩)] w (fun e w'=>e=.returned M.ov∧NodeI wL w' { M with ov:=.slice none 0 0 } { S with out:=[] }∧Own Bo 2 175 w' M.ov (kO S.out)∧Ko Bo w w'∧Bn Bo [M.nb] w w'∧w.heap.size≤w'.heap.size):=by
 refine (Au h.nod).mono ?_;rintro e w' ⟨rfl,h1,h2,h3,h4,h5⟩;exact ⟨rfl,(h.outs h1 h3 h4).idle rfl rfl,h2,Ko.bf h.nod.blk h5,Bn.bf (Ext.refl _) h5 aX,h4.size⟩
theorem Bn.trans {Bo:Nat} {l:List Nat} {a b c:World} (h:Bn Bo l a b) (hs:a.heap.size≤b.heap.size) (k:Bn Bo l b c):Bn Bo l a c:=fun j h1 h2 h3=>(k j (Nat.lt_of_lt_of_le h1 hs) h2 h3).trans (h j h1 h2 h3)
theorem Bn.of {Bo:Nat} {l:List Nat} (h:Ext w w'):Bn Bo l w w':=fun j h1 _ _=>h.block j h1
theorem Bn.mono {Bo:Nat} {l l':List Nat} (h:Bn Bo l w w') (hl:∀ j∈l,j∈l'):Bn Bo l' w w':=fun j h1 h2 h3=>h j h1 h2 fun e=>h3 (hl j e)
def JM (wL w:World) (M:NodeM) (S':NodeR) (P:Prop) (l:List Nat) (e:Ending) (w':World):Prop :=
 ∃ r M',e=.returned r∧M'.nb=M.nb∧NodeI wL w' M' { S' with out:=[] }∧Own w.heap.size 2 175 w' r (kO S'.out)∧Ko w.heap.size w w'∧(P→Bn w.heap.size (M.nb::l) w w'∧(l=[]→M'.tb=M.tb∧M'.tm=M.tm∧M'.mb=M.mb))∧w.heap.size≤w'.heap.size
theorem MX {wL:World} {M:NodeM} {S S':NodeR} (h:NodeI wL w M S) {P:Prop} {l:List Nat} (src now:Int) (s:List UInt8) (hs:s.length≤1000000) (c1:0≤src∧src≤99) (c2:0≤now∧now≤1099511627776) {m:MsgR} (hd:cP s=(m,0))
 (hq:∀ w2 q a u x,Ext w w2→NodeW wL w.heap.size w2 M S→MsgW w.heap.size w2 m q a u x→Calls Tryz.prog (if m.resp then 81 else 82) #[.pointer (some ⟨M.nb,0,none⟩), .int .i64 src, .agg (aP m q a u x).toArray, .int .i64 now] w2 (fun e w3=>e=.returned (.tuple #[])∧∃ M',M'.nb=M.nb∧NodeW wL w.heap.size w3 M' S'∧Ko w.heap.size w2 w3∧(P→Bn w.heap.size (M.nb::l) w2 w3∧(l=[]→M'.tb=M.tb∧M'.tm=M.tm∧M'.mb=M.mb))∧w2.heap.size≤w3.heap.size)) :
 Calls Tryz.prog 40 #[.pointer (some ⟨M.nb,0,none⟩), .int .i64 src,aE s, .int .i64 now] w (JM wL w M S' P l):=by
 have cD:=wJ (w:=w) s hs;unfold yT at cD;rw [hd]at cD;go_enter Tryz.func40,Tryz.ntmps40
 refine_lift bU fun _ _=>?_;refine gS cD ?_;rintro _ w1 ⟨q,a,u,x,rfl,⟨o1,o2,o3,o4⟩,x1⟩;refine ⟨_,rfl,?_⟩;refine aB ?_;have hm1:MsgW w.heap.size w1 m q a u x:=⟨o1,o2,o3,o4⟩;refine_lift aT ?_;refine dX (z:=iW) fun w2 x2 s2 b2=>?_;refine aB ?_;refine dL (v:=.agg (aP m q a u x).toArray) b2 (dR (hm1.msg.ext x2)) fun w3 p3=>?_;have x13:=cJ x2 p3;have hpm:=aA (cs:=aP m q a u x) p3.this;unfold aP at hpm;refine_lift mH fun _ _ _ _=>?_;refine cB (rJ c1 _) fun w4 x4=>?_;refine_lift aT ?_;refine cB (rJ c2 _) fun w5 x5=>?_;have x35:=x4.trans x5;have hpm5:=hpm.ext x35;have x15:=x13.trans x35;have x05:=x1.trans x15;have hm5:=hm1.ext x15;have hn5:NodeW wL w.heap.size w5 M S:=h.w.grow x05;have hQ:=hq w5 q a u x x05 hn5 hm5;have z05:=x05.size;clear hpm;cases hres:m.resp with
 | true =>
  rw [if_pos hres]at hQ;unfold aP at hQ;rw [hres]at hQ hpm5;refine_lift bU fun _ _=>?_;refine gS hQ ?_;rintro _ w6 ⟨rfl,M',hnb,h6,k6,f6,z6⟩;refine ⟨_,rfl,?_⟩;refine aB ?_;refine_lift bU fun _ _=>?_;have hT:=GL h6;rw [hnb]at hT;refine gS hT ?_;rintro _ w7 ⟨rfl,h7,o7,k7,f7,z7⟩;refine ⟨_,rfl,?_⟩;refine aB ?_;refine_lift aT ?_;go_ret;exact ⟨_,⟨M.nb,M'.rv, .slice none 0 0,M'.cb,M'.em,M'.db,M'.tb,M'.tm,M'.mb,M'.sb⟩,rfl,rfl,h7,o7,(Ko.of x05).trans (k6.trans k7),fun hP=>⟨(Bn.of x05).trans z05 ((f6 hP).1.trans z6 (f7.mono aX)),(f6 hP).2⟩,aC⟩
 | false =>
  rw [if_neg (by rw [hres];simp)]at hQ;unfold aP at hQ;rw [hres]at hQ hpm5;refine_lift bU fun _ _=>?_;refine gS hQ ?_;rintro _ w6 ⟨rfl,M',hnb,h6,k6,f6,z6⟩;refine ⟨_,rfl,?_⟩;refine aB ?_;refine_lift bU fun _ _=>?_;have hT:=GL h6;rw [hnb]at hT;refine gS hT ?_;rintro _ w7 ⟨rfl,h7,o7,k7,f7,z7⟩;refine ⟨_,rfl,?_⟩;refine aB ?_;refine_lift aT ?_;go_ret;exact ⟨_,⟨M.nb,M'.rv, .slice none 0 0,M'.cb,M'.em,M'.db,M'.tb,M'.tm,M'.mb,M'.sb⟩,rfl,rfl,h7,o7,(Ko.of x05).trans (k6.trans k7),fun hP=>⟨(Bn.of x05).trans z05 ((f6 hP).1.trans z6 (f7.mono aX)),(f6 hP).2⟩,aC⟩
theorem Ey {l:List RSet} (h:(decide ((o.length:Int)≤300)&&yC l)=true):l.length≤25∧(∀ s∈l,s.data.length≤1000000)∧(∀ s∈l,∀ d∈s.data,d.length≤4611686018427387904)∧o.length≤300∧(∀ s∈l,s.data.length≤12)∧(∀ s∈l,∀ d∈s.data,d.length≤300):=by
 simp only [Bool.and_eq_true,decide_eq_true_eq]at h;obtain ⟨b1,b2,b3,b4⟩:=KT h.2;exact ⟨b1,fun s hs=>by have:=b2 s hs;omega,fun s hs d hd=>by have:=b4 s hs d hd;omega,aC,b2,b4⟩
section
variable {P:Program} {w w':World} {a:Act} {d:Option Nat} {ty:TypeId} {ps:String} {af:Array Edge} {g:Option (Nat×Bool)}
end
def Ez (up:Bool):List HldR:=[⟨[1,97],Cv,[1,97],up⟩]
theorem HldsAt.nil (w:World):HldsAt w (.slice none 0 0) []:=⟨[],Sl.nil _ _,rfl,fun i h e=>by simp at e⟩
theorem HldsAt.one {z:Value} {up:Bool} (h:Sl k w v [[aE [1,97],z,aE [1,97], .bool up]]) (hk:k=4) (hz:SetsAt w z Cv):HldsAt w v (Ez up):=by
 subst hk;refine ⟨_,h,rfl,fun i x e=>?_⟩;cases i with
 | zero =>
  simp only [Ez,List.getElem?_cons_zero,Option.some.injEq]at e;subst e;exact ⟨z,rfl,hz⟩
 | succ i=>simp [Ez]at e
def Stands (s:List UInt8) (p:Nat) (y:List UInt8):Prop:=∃ a b,s=a++y++b∧a.length=p
theorem Stands.mono (h:Stands s p y) (hp:s <+: t):Stands t p y:=by
 obtain ⟨a,b,rfl,ha⟩:=h;obtain ⟨u,rfl⟩:=hp;exact ⟨a,b++u,aX,ha⟩
theorem Stands.left (h:Stands s p (y++z)):Stands s p y:=by
 obtain ⟨a,b,rfl,ha⟩:=h;exact ⟨a,z++b,aX,ha⟩
theorem Stands.right (h:Stands s p (y++z)):Stands s (p+y.length) z:=by
 obtain ⟨a,b,rfl,ha⟩:=h;exact ⟨a++y,b,aX,by simp [ha]⟩
theorem Stands.le (h:Stands s p y):p+y.length≤s.length:=by
 obtain ⟨a,b,rfl,ha⟩:=h;simp [ha]
theorem Stands.end_ (h:l++y <+: t):Stands t l.length y:=Stands.mono ⟨l,[],aX,rfl⟩ h
theorem Stands.get (h:Stands s p y):(s.drop p).take y.length=y:=by
 obtain ⟨a,b,rfl,rfl⟩:=h;rw [List.append_assoc,List.drop_left,List.take_left]
theorem Stands.take (h:Stands s p y) (k:Nat) (hk:y.length=k):RdS.take s ⟨(p:Nat),0⟩ (k:Nat)=(y,⟨((p+k:Nat):Int),0⟩):=by
 have h1:=h.le;subst hk;unfold RdS.take;rw [if_neg aX,if_neg (by dsimp only;omega)];dsimp only;rw [Int.toNat_natCast,Int.toNat_natCast,h.get,Int.natCast_add]
theorem Stands.number (h:Stands s p y) (k:Nat) (hk:y.length=k):RdS.number s ⟨(p:Nat),0⟩ (k:Nat)=(FV y,⟨((p+k:Nat):Int),0⟩):=by
 unfold RdS.number;rw [h.take k hk]
inductive NameAt (s:List UInt8):Nat→Nat→List (List UInt8)→Nat→Prop
 | nil {p B:Nat}:Stands s p [0]→NameAt s p B [] (p+1)
 | lab {p B e:Nat} {x:List UInt8} {ls:List (List UInt8)}:jB x=true→Stands s p (mX x)→NameAt s (p+1+x.length) B ls e→NameAt s p B (x::ls) e
 | ptr {p B to e:Nat} {ls:List (List UInt8)}:Stands s p (bQ (49152 ||| to))→to<16384→to<B→NameAt s to to ls e→NameAt s p B ls (p+2)
theorem NameAt.mono (hp:s <+: t) (h:NameAt s p B ls e):NameAt t p B ls e:=by
 induction h with
 | nil h=>exact .nil (h.mono hp)
 | lab hx h _ ih=>exact .lab hx (h.mono hp) ih
 | ptr h h1 h2 _ ih=>exact .ptr (h.mono hp) h1 h2 ih
theorem NameAt.lt (h:NameAt s p B ls e):p<s.length:=by
 cases h with
 | nil h=>have:=h.le;simp at this;omega
 | lab _ h _=>have:=h.le;simp [mX]at this;omega
 | ptr h=>have:=h.le;simp [bQ]at this;omega
def PlOk (s:List UInt8) (p:List UInt8×Nat):Prop:=∃ ls e,p.1=enc ls∧ls.all jB=true∧NameAt s p.2 p.2 ls e
theorem PlOk.mono (hp:s <+: t) {p:List UInt8×Nat} (h:PlOk s p):PlOk t p:=by
 obtain ⟨ls,e,h1,h2,h3⟩:=h;exact ⟨ls,e,h1,h2,h3.mono hp⟩
def Good (x:SK):Prop:=∀ p∈x.2,PlOk x.1 p
theorem Good.mono {l':List UInt8} (h:Good (l,ps)) (hp:l <+: l'):Good (l',ps):=fun p hm=>(h p hm).mono hp
def yI (w:World) (n:Nat):World:={ w with heap:=w.heap.extract 0 n }
theorem cM {n:Nat} (h:n≤w.heap.size):(yI w n).heap.size=n:=by
 simp [yI];omega
theorem kY {n:Nat} (h:n≤w.heap.size):Ext (yI w n) w :=
 ⟨rfl,rfl,rfl,by rw [cM h];exact h,fun k hk=>by
  rw [cM h]at hk;simp [yI,Array.getElem?_extract];omega,Nat.le_refl _⟩
theorem Ext.cutW {n:Nat} (h:Ext w0 w) (hn:w0.heap.size≤n) (hw:n≤w.heap.size):Ext w0 (yI w n) :=
 ⟨h.os,h.tape,h.output,by rw [cM hw];exact hn,fun k hk=>by
  rw [← h.block k hk,← (kY hw).block k (by rw [cM hw];omega)],h.drawn⟩
theorem NodeI.other {wL:World} {M:NodeM} {S:NodeR} (h:NodeI wL w M S) (hn:S.nt=none) (ht:S.tt=none) {L:List Nat} (hB:Bn w.heap.size L w w') (hL:∀ j∈L,j<wL.heap.size) (hs:w.heap.size≤w'.heap.size):NodeI (yI w' wL.heap.size) w' M S:=by
 have st:∀ j,wL.heap.size≤j→j<w.heap.size→w'.heap[j]? = w.heap[j]? := fun j h1 h2=>hB j h2 h2 (fun e=>by have:=hL j e;omega);have e0:=cM (w:=w') (n:=wL.heap.size) (Nat.le_trans h.w.ext.size hs);have a':∀ {j:Nat} {o:Obj},wL.heap.size≤j→w.heap[j]? = some o→w'.heap[j]? = some o:=fun h1 h2=>by
  rw [st _ h1 (Array.getElem?_eq_some_iff.1 h2).1];exact h2
 obtain ⟨h1,h2,h⟩:=h;refine ⟨h1,h2,kY (Nat.le_trans h.ext.size hs),?_,?_,?_,?_,?_,?_,?_,?_,h.ne⟩
 ·rw [e0];refine ⟨h.nod.ge,a' h.nod.ge h.nod.blk,?_,Nat.le_trans h.ext.size hs,Nat.le_refl _⟩;rw [h2,show (M.c S).ov=.slice none 0 0 from h1];exact Own.nil _ _ _ _
 ·rw [e0];exact h.rts.same fun r hr=>st r (h.rts.block r hr).1 (h.rts.block r hr).2
 ·rw [e0];obtain ⟨gs,a⟩:=h.cac;refine ⟨gs,a.ge,a.eq,a' a.ge.1 a.blk,a.map.at fun es c e=>a' a.ge.2 e,fun g hg=>?_,a.apart,a.keys⟩;have b:=a.ents g hg;exact ⟨b.ge,a' b.ge b.blk,b.row.same fun r hr=>st r (b.row.block r hr).1 (b.row.block r hr).2,b.len,b.ok⟩
 ·rw [e0];exact ⟨h.den.ge,a' h.den.ge h.den.blk⟩
 ·rw [e0];obtain ⟨tbk,a⟩:=h.tab;refine ⟨tbk,a.ge,a.eq,a' a.ge.1 a.blk,a.map.at fun es c e=>a' a.ge.2 e,fun x b e=>?_⟩;have:=a.eq;rw [ht,e]at this;cases this
 ·rw [e0];exact h.gm
 ·exact h.map.at fun es c e=>a' h.gm e
 ·intro x e;rw [hn]at e;cases e
abbrev YS:List TypeId:=[155,3,228,321,9,231,234,328,251,273,201,37,198,25]
theorem NodeI.kf {wL:World} {M:NodeM} {S:NodeR} {T:List TypeId} (h:NodeI wL w M S) (hk:Kf T [] w w') (hT:∀ t∈YS,t∉T) (hs:w.heap.size≤w'.heap.size):NodeI (yI w' wL.heap.size) w' M S:=by
 obtain ⟨h1,h2,h⟩:=h;have hle:wL.heap.size≤w'.heap.size:=Nat.le_trans h.ext.size hs;have e0:=cM hle;have hx:=kY hle;have tt:∀ t,t∈YS→t∉T:=hT;refine ⟨h1,h2,hx,?_,?_,?_,?_,?_,?_,h.map.keep hk aX,?_,h.ne⟩
 ·rw [e0];refine ⟨h.nod.ge,hk.cells _ _ _ _ h.nod.blk (tt _ aK),?_,hle,Nat.le_refl _⟩;rw [h2,show (M.c S).ov=.slice none 0 0 from h1];exact Own.nil _ _ _ _
 ·rw [e0];exact h.rts.keep hk.keep (tt _ aK)
 ·rw [e0];exact h.cac.keep hk aX (tt _ aK) (tt _ aK) (tt _ aK)
 ·rw [e0];exact h.den.keep hk (tt _ aK)
 ·rw [e0];exact h.tab.keep hk aX (tt _ aK) (tt _ aK) (tt _ aK)
 ·rw [e0];exact h.gm
 ·intro x e;obtain ⟨rb,qv,a⟩:=h.tsk x e;refine ⟨rb,qv,by rw [e0];exact a.ge,hk.cells _ _ _ _ a.blk (tt _ aK),?_,by rw [e0];exact a.row.keep hk.keep (tt _ aK),a.nil⟩;obtain ⟨rv,sv,gv,ev,b⟩:=a.tsk;refine ⟨rv,sv,gv,ev,by rw [e0];exact b.ge,hx,hk.cells _ _ _ _ b.blk (tt _ aK),by rw [e0];exact b.rs.keep hk.keep (tt _ aK),by rw [e0];exact b.ss.keep hk.keep (tt _ aK),by rw [e0];exact b.gs.keep hk.keep (tt _ aK),by rw [e0];exact b.es.keep hk (tt _ aK) (tt _ aK)⟩
theorem NodeI.here {wL:World} {M:NodeM} {S:NodeR} (h:NodeI wL w M S):NodeI (yI w wL.heap.size) w M S:=h.kf (T:=[]) (Kf.of (Ext.refl _)) aX (Nat.le_refl _)
theorem Lo.cut {n:Nat} (h:Ext (yI w n) w') (hn:n≤w.heap.size) (hs:w.heap.size≤w'.heap.size):Lo n w w' :=
 ⟨h.os,h.tape,h.output,hs,fun j _ hj=>by rw [h.block j (by rw [cM hn];exact hj),← (kY hn).block j (by rw [cM hn];exact hj)],h.drawn⟩
def Mid (a b:Nat) (w w':World):Prop:=∀ g,a≤g→g<b→w'.heap[g]? = w.heap[g]?
theorem Mid.trans {u v:World} (h:Mid a b u v) (k:Mid a b v w):Mid a b u w:=fun g g1 g2=>(k g g1 g2).trans (h g g1 g2)
theorem Mid.lo {n:Nat} (h:Lo n w w') (hb:b≤n) (hw:b≤w.heap.size):Mid a b w w':=fun g _ g2=>h.block g aC aC
theorem Mid.of (h:Ext w w') (hw:b≤w.heap.size):Mid a b w w':=fun g _ g2=>h.block g aC
theorem SetsO.upper {l:List RSet} (h:SetsO B w v l) (ha:∀ g,B≤g→g<w.heap.size→w'.heap[g]? = w.heap[g]?):SetsO B w' v l:=by
 obtain ⟨css,h1,h2,h3,h4⟩:=h;exact ⟨css,h1.upper h2 ha,h2,⟨h3.len,fun i s hi=>let ⟨x,a,b⟩:=h3.at' i s hi;⟨x,a,b.upper (h4 _ (List.mem_of_getElem? a) _ aX) ha⟩⟩,h4⟩
structure HldsO (B:Nat) (w:World) (v:Value) (hs:List HldR):Prop where
 out:∃ css,Sl 4 w v css∧From B v∧css.length=hs.length∧∀ (i:Nat) (h:HldR),hs[i]? = some h→∃ x,css[i]? = some [aE h.o,x,aE h.org, .bool h.up]∧SetsO B w x h.l
theorem HldsO.upper {hs:List HldR} (h:HldsO B w v hs) (ha:∀ g,B≤g→g<w.heap.size→w'.heap[g]? = w.heap[g]?):HldsO B w' v hs:=by
 obtain ⟨css,h1,h2,h3,h4⟩:=h;exact ⟨css,h1.upper h2 ha,h2,h3,fun i s hi=>let ⟨x,a,b⟩:=h4 i s hi;⟨x,a,b.upper ha⟩⟩
theorem HldsO.ext {hs:List HldR} (h:HldsO B w v hs) (hx:Ext w w'):HldsO B w' v hs:=h.upper fun g _ g2=>hx.block g g2
theorem HldsO.at {hs:List HldR} (h:HldsO B w v hs):HldsAt w v hs:=by
 obtain ⟨css,h1,_,h3,h4⟩:=h;exact ⟨css,h1,h3,fun i s hi=>let ⟨x,a,b⟩:=h4 i s hi;⟨x,a,b.sets⟩⟩
theorem TX (o:List UInt8) (v:Value) (l:List RSet) (w:World) (hv:SetsAt w v l) (hl:l.length≤100000) (hb:∀ s∈l,s.data.length≤1000000) :
 Calls Tryz.prog 33 #[.agg #[aE o,v]] w (kZ w fun r w'=>∃ y,r=.agg #[aE o,y]∧SetsV w.heap.size w' y l):=by
 obtain ⟨css0,hv0,hvs⟩:=hv.rows;have hlen0:=hvs.len;go_enter Tryz.func33,Tryz.ntmps33
 refine_lift sF ?_;intro _ _ _;refine jO (vs:=[aE o,v]) fun w1 x1 s1 hz1=>?_;refine aB ?_;refine dX (z:=iQ) fun w2 x2 s2 h2=>?_;refine aB ?_;have hz2:=x2.at hz1;have hx2:=x1.trans x2;have hp2:=aA hz2;have z1:=x1.size;refine_lift fN fun _ _=>?_;refine gY (RB v css0 _ (hv0.ext hx2) (hvs.ext hx2).cell (by rw [hlen0];omega)) fun y w8 x8 ho8=>?_;have hx8:=hx2.trans x8;have h8:=x8.at h2;have hz8:=x8.at hz2;have hp8:=aA hz8;refine aB ?_;refine_lift cL ?_;refine fA 1 _ hz8 ho8.one fun w9 p9=>?_;have hx9:=cJ hx8 p9;have hz9:w9.heap[w.heap.size]? = some (.cells [aE o,y].toArray 70 (0,0)):=p9.this;have h9:=p9.at h8 aC;have ho9:=eM ho8 p9 hz8;have hzB:w1.heap.size<w2.heap.size:=aC;have hzW:=hx2.size;have hB9:w2.heap.size≤w9.heap.size:=by have a1:=x8.size;have a2:=p9.size;omega
 have hne:w.heap.size≠w1.heap.size:=aC;have hsl9:=ho9.sl;have hpz9:=aA hz9;clear p9 hz8 hp8 h8 ho8 hp2 hz2 hz1 h2;refine_lift fN fun _ _=>?_;generalize hrb:w1.heap.size=rb at *;generalize w2.heap.size=B at *;clear hpz9 hsl9;go_loopw [3,4,12] (fun _ _ i wr=>∃ (k:Nat) (css:List (List Value)),k≤l.length∧i=.int .i64 k∧Ext w wr∧B≤wr.heap.size∧wr.heap[w.heap.size]? = some (.cells [aE o,y].toArray 70 (0,0))∧wr.heap[rb]? = some (.cells iQ.toArray 70 (0,0))∧Own B 4 136 wr y css∧SetsN B wr css0 css l k) (fun _ _ i _=>l.length - (intOf i).toNat)
 case atStart=>exact ⟨0,css0,Nat.zero_le _,rfl,hx9,hB9,hz9,h9,ho9,⟨hlen0,aC,fun i _=>rfl⟩⟩
 case round =>
  obtain ⟨k,css,hk,rfl,hx,hBr,hbz,hbr,ho,hs⟩:=hrel;have hpz:=aA hbz;have hsl:=ho.sl;have hlen:=hs.len;by_cases hlt:k<l.length
  ·obtain ⟨x,hc0,hxd0⟩:=hvs.at' k _ (List.getElem?_eq_getElem hlt);have hc:css[k]? = some [aE l[k].name, .int .i64 l[k].kind, .int .i64 l[k].ttl,x]:=by rw [hs.old k (Nat.le_refl _)];exact hc0
   have hxd:=hxd0.ext hx;have hpe:=hsl.elem hc;have hbk:=hb _ (List.getElem_mem hlt);refine_lift JS ?_;intro _ _ _ _ _ _;refine dX (z:=gT) fun w10 x10 s10 h10=>?_;refine aB ?_;refine_lift cL ?_;refine dL (v:=.agg #[aE l[k].name, .int .i64 l[k].kind, .int .i64 l[k].ttl,x]) h10 (gE rfl rfl rfl hxd.one) fun w11 p11=>?_;have x11:=cJ x10 p11;have hbs:w11.heap[wr.heap.size]? = some (.cells [aE l[k].name, .int .i64 l[k].kind, .int .i64 l[k].ttl,x].toArray 136 (0,0)):=p11.this;have hx11:=hx.trans x11;have hbz11:=x11.at hbz;have hbr11:=x11.at hbr;have ho11:=ho.ext x11;have hs11:=hs.ext x11;have hps:=aA hbs;have hpz11:=aA hbz11;have hsl11:=ho11.sl;have hpe11:=hsl11.elem hc;have hxd11:=hxd.ext x11;clear p11 h10 x10 hpe hpz hsl;refine_lift cL ?_;refine aO 8 (Ext w11) zDk ?_;intro w12 x12 _;refine ⟨x12,?_⟩;refine zG 0 ?_;refine zG 1 ?_;refine zG 2 ?_;refine zG 3 ?_;refine zG 4 ?_;refine dH 5 ?_;refine sC (Ee x l[k].data _ (hxd11.ext x12) aC) fun u w13 x13 ou=>?_;have x1113:=x12.trans x13;refine aD ⟨aR x1113,?_⟩;refine zG 6 ?_;refine zG 7 ?_;refine dH 8 ?_;have ho13:=ho11.ext x1113;refine kW (i:=k) (j:=3) rfl rfl rfl ho13 hc aK zDk ou.one ?_;intro w14 o14 m14;refine aD ⟨aN rfl,?_⟩;refine jP ?_;have hx13:=hx11.trans x1113;have x14:Ext w w14:=ho13.mvx m14 hx13 hzW;have hbz14:=m14.at (x1113.at hbz11) (fun e=>ho13.neBlock (x1113.at hbz11) aK e.symm);have hbr14:=m14.at (x1113.at hbr11) (fun e=>ho13.neBlock (x1113.at hbr11) aK e.symm);have ou14:=ou.mv m14 (ou.ne ho13 aK);have hs14:=(hs11.ext x1113).mv m14 (fun x es hx=>hx.ne ho13 aK);have hB14:B≤w14.heap.size:=by have a1:=x1113.size;have a2:=m14.size;have a3:=x11.size;omega
   have ouk:Own B 1 9 w14 u (aH l[k].data):=ou14.weaken (by have a1:=x12.size;have a2:=x11.size;omega);clear hps hpz11 hsl11 hpe11 hbs hbz11 hbr11 hs11 ho13 ho11 hxd11;refine_lift cL ?_;exact ⟨⟨k+1,_,aC,by go_num,x14,hB14,hbz14,hbr14,o14,hs14.step hlt ouk⟩,by simp [intOf];omega⟩
  ·have:k=l.length:=aC;subst this;refine_lift LZ fun _ _ _=>?_;refine dL (v:=.agg #[aE o,y]) hbr (AR ho.one) fun w11 p11=>?_;have x11:=cJ hx p11;have hfin:SetsV w.heap.size w11 y l:=by
    have:SetsV B wr y l:=⟨css,ho,hs.done⟩;exact (this.put hbr aK aK p11).weaken hzW
   refine_lift cL ?_;exact bodyPost_ret (fG (cs:=[aE o,y]) rfl rfl p11.this (zDk:eF Tryz.prog 70 2=true)) rfl ⟨_,rfl,x11,y,rfl,hfin⟩
theorem TY (n:Int):Instr.sameBits 10000 (.int .i64 n) (.int .i64 n)=true:=by
 rw [Instr.sameBits];simp
theorem BR {α β:Type} (f:α→β) (g:α→α):∀ (l:List α) (i:Nat),(l.modify i g).map f=match l[i]? with|some a=>(l.map f).set i (f (g a))|none=>l.map f
 | [],i=>by simp
 | a::l,0=>by simp
 | a::l,i+1=>by
   have:=BR f g l i;simp only [List.modify_succ_cons,List.map_cons,List.getElem?_cons_succ,this];cases l[i]? <;> simp
section
variable {P:Program} {ok:Value→Prop} {w:World} {kt et t:TypeId} {m:Nat} {ents:List (Value×Value)}
theorem JN (law:KL P kt ok) (ht:eI P t kt et=true) (hm:MapS ok w m ents) {n:Int} (hx:ok (.int .i64 n)) (hi:ents[i]? = some (.int .i64 n,u)) (hu:ents.Pairwise (fun a b=>a.1≠b.1)) :
 ∃ w' o,(Instr.mapUpdate t (.map (some m)) (.int .i64 n) v).run P w=.ok () w'∧Put w w' m o∧MapS ok w' m (ents.set i (.int .i64 n,v)):=by
 obtain ⟨es,c,h1,h2,h3⟩:=hm;have hc:=law.check w false hx;have hty:=gL ht;have hgo:(getObj m).run P w=.ok (.map es c) w:=by simp [getObj,Sem.run,h1]
 rcases rU (w:=w) law hx h2 (fun e he=>(h3 e he).1)with ⟨j,v',hj,hf⟩|⟨hn,_⟩
 ·have hij:i=j:=by
   obtain ⟨g1,g2⟩:=List.getElem?_eq_some_iff.1 hi;obtain ⟨g3,g4⟩:=List.getElem?_eq_some_iff.1 hj;rcases Nat.lt_trichotomy i j with h|h|h
   ·exact absurd (by rw [g2,g4]) (List.pairwise_iff_getElem.1 hu i j g1 g3 h)
   ·exact h
   ·exact absurd (by rw [g2,g4]) (List.pairwise_iff_getElem.1 hu j i g3 g1 h)
  subst hij;obtain ⟨e,he,hek⟩:∃ e,es.toList[i]? = some e∧(e.key,e.val)=(.int .i64 n,v'):=by
   rw [← h2,List.getElem?_map]at hj;obtain ⟨e,he,h⟩:=Option.map_eq_some_iff.1 hj;exact ⟨e,he,h⟩
  have hkey:e.key=.int .i64 n:=congrArg Prod.fst hek;have hes:es[i]? = some e:=by rw [← Array.getElem?_toList];exact he
  have hp:=fK (o':=.map (es.modify i fun e=>{ e with key:=.int .i64 n,val:=v }) c) h1;have hso:(setObj m (.map (es.modify i fun e=>{ e with key:=.int .i64 n,val:=v }) c)).run P w=.ok () (w.putObj m (.map (es.modify i fun e=>{ e with key:=.int .i64 n,val:=v }) c)):=by
   simp [setObj,Sem.run,h1,World.putObj]
  refine ⟨_,_,?_,hp,⟨_,_,hp.this,?_,?_⟩⟩
  ·have hk:(((es[i]?).map (·.key)).getD (Value.int .i64 n))=.int .i64 n:=by rw [hes];simpa using hkey
   have hs:(Instr.keyThatStays (.int .i64 n) (.int .i64 n)).run P w=.ok (.int .i64 n) w:=by
    unfold Instr.keyThatStays;rw [if_pos (TY n)];rfl
   simp only [Instr.mapUpdate,Sem.run_bind,run_underlying hty,Result.andThen_ok,hgo,hc,hf,hk,hs,hso]
  ·rw [Array.toList_modify,BR,he];dsimp only;rw [h2]
  ·intro x hx';rw [Array.toList_modify]at hx';obtain ⟨k,hk⟩:=List.mem_iff_getElem?.1 hx';rw [List.getElem?_modify]at hk;obtain ⟨y,hy,rfl⟩:=Option.map_eq_some_iff.1 hk;have:=h3 y (List.mem_of_getElem? hy);split
   ·exact ⟨hx,this.2⟩
   ·exact this
 ·exact absurd rfl (hn _ (List.mem_of_getElem? hi))
end
end Go.Proofs.X
namespace Go.Proofs.X
open Go.RowKit
structure SrvR where
 node:Int
 o:List UInt8
 l:List RSet
structure SrvsAt (w:World) (v:Value) (ss:List SrvR):Prop where
 out:∃ css,Sl 2 w v css∧css.length=ss.length∧∀ (i:Nat) (s:SrvR),ss[i]? = some s→∃ u,css[i]? = some [.int .i64 s.node,u]∧ZonesAt w u [(s.o,s.l)]
theorem SrvsAt.ext {w w':World} {v:Value} {ss:List SrvR} (h:SrvsAt w v ss) (hx:Ext w w'):SrvsAt w' v ss:=by
 obtain ⟨css,h1,h2,h3⟩:=h;exact ⟨css,h1.ext hx,h2,fun i z hi=>let ⟨u,a,b⟩:=h3 i z hi;⟨u,a,b.ext hx⟩⟩
def SrvR.held (s:SrvR):HldR:={ o:=s.o,l:=s.l,org:=s.o,up:=true }
def iT (ss:List SrvR) (vs:List Value):List (Value×Value):=(ss.zip vs).map fun p=>(.int .i64 p.1.node,p.2)
structure SrvOk (ss:List SrvR):Prop where
 len:ss.length≤20
 node:∀ s∈ss,0≤s.node∧s.node<90
 two:(ss.map (·.node)).Nodup
 zone:∀ s∈ss,cW s.o s.l=0
 small:∀ s∈ss,s.l.length≤100000∧∀ x∈s.l,x.data.length≤1000000
structure TierM where
 tb:Nat
 hm:Nat
 nb:Nat
 M:NodeM
 Bh:Nat
 Hn:Nat
 L:Nat
structure HeldV (w:World) (hm Bh Hn:Nat) (ss:List SrvR):Prop where
 out:∃ vs,MapS CK w hm (iT ss vs)∧vs.length=ss.length∧∀ (i:Nat) (s:SrvR) (v:Value),ss[i]? = some s→vs[i]? = some v→HldsO Bh (yI w Hn) v [s.held]
structure TierW (b0:Nat) (w:World) (Y:TierM) (ss:List SrvR) (room:Int) (S:NodeR) (ps:List jN) (pv hv:Value) (now:Int):Prop where
 b0:b0≤Y.tb∧b0≤Y.hm∧Y.tb<Y.Bh∧Y.hm<Y.Bh
 le:Y.Bh≤Y.Hn∧Y.Hn≤Y.nb∧Y.nb<Y.L∧Y.L≤w.heap.size
 blk:w.heap[Y.tb]? = some (.cells #[.pointer (some ⟨Y.nb,0,none⟩), .pointer (some ⟨Y.M.nb,0,none⟩), .map (some Y.hm),hv, .int .i64 now] 92 (0,0))
 net:NetV Y.Hn w Y.nb 100 room pv ps
 nod:∃ wL,wL.heap.size=Y.L∧NodeI wL w Y.M S
 held:HeldV w Y.hm Y.Bh Y.Hn ss
theorem EO {ss:List SrvR} {vs:List Value} {n:Int} (h:∀ s∈ss,s.node≠n):∀ e∈iT ss vs,e.1≠.int .i64 n:=by
 intro e he;obtain ⟨p,hp,rfl⟩:=List.mem_map.1 he;have:=h p.1 (List.of_mem_zip hp).1;simp [this]
theorem pU {ss:List SrvR} {vs:List Value} {s:SrvR} {v:Value} (h:vs.length=ss.length):iT (ss ++ [s]) (vs ++ [v])=iT ss vs ++ [(.int .i64 s.node,v)]:=by
 unfold iT;rw [List.zip_append h.symm,List.map_append];rfl
theorem rY {ss:List SrvR} {vs:List Value} (h:vs.length=ss.length):(iT ss vs).length=ss.length:=by
 simp [iT,h]
theorem BS {ss:List SrvR} {vs:List Value} (h:vs.length=ss.length) (hn:(ss.map (·.node)).Nodup):(iT ss vs).Pairwise (fun a b=>a.1≠b.1):=by
 have e:(iT ss vs).map (·.1)=ss.map fun s=>.int .i64 s.node:=by
  unfold iT;rw [List.map_map];have:((fun x:Value×Value=>x.1) ∘ fun p:SrvR×Value=>(Value.int .i64 p.1.node,p.2))=(fun s:SrvR=>Value.int .i64 s.node) ∘ Prod.fst:=rfl;rw [this,← List.map_map,List.map_fst_zip (Nat.le_of_eq h.symm)]
 rw [← List.pairwise_map (f:=fun x:Value×Value=>x.1) (R:=fun a b=>a≠b),e,List.pairwise_map];rw [List.nodup_iff_pairwise_ne,List.pairwise_map]at hn;exact hn.imp fun h=>by simpa using h
theorem MapS.mvx {ok:Value→Prop} {w w':World} {m:Nat} {ents:List (Value×Value)} (h:MapS ok w m ents) (hx:Kf [] [] w w'):MapS ok w' m ents:=h.keep hx aX
theorem TZ {ss:List SrvR} {vs:List Value} {s:SrvR} {v:Value} {k:Nat} (h:vs.length=ss.length) (hk:ss.length=k):(iT (ss ++ [s]) (vs ++ [v]))[k]? = some (.int .i64 s.node,v):=by
 rw [pU h,List.getElem?_append_right (by rw [rY h];omega),rY h,hk];simp
theorem PJ {ss:List SrvR} {vs:List Value} {s:SrvR} {v u:Value} {k:Nat} (h:vs.length=ss.length) (hk:ss.length=k):(iT (ss ++ [s]) (vs ++ [v])).set k (.int .i64 s.node,u)=iT (ss ++ [s]) (vs ++ [u]):=by
 rw [pU h,pU h,List.set_append_right _ _ (by rw [rY h];omega),rY h,hk];simp
structure CfgOk (w:World) (a:Value) (rl:List Int) (bud rm most wt:Int):Prop where
 sl:Sl 1 w a (bO rl)
 c1:1≤rl.length∧rl.length≤20
 c2:1≤bud∧bud≤100
 c3:1≤rm∧rm≤200
 c4:1≤most∧most≤2147483647
 c5:1≤wt∧wt≤2147483647
 c6:rl.any (fun n => !(decide (0≤n)&&decide (n≤99)))=false
theorem YT (lv:Value) (ss:List SrvR) (w:World) (hs:SrvsAt w lv ss) (ok:SrvOk ss) (a:Value) (bud rm most wt room:Int) (hr:1≤room∧room≤1000) (rl:List Int) (hg:CfgOk w a rl bud rm most wt∨(a=.slice none 0 0∧bud=0∧rm=0∧most=0∧wt=0)) :
 Calls Tryz.prog 14 #[lv, .agg #[a, .int .i64 bud, .int .i64 rm, .int .i64 most, .int .i64 wt], .int .i64 room] w (fun e w'=>Ext w w'∧((∃ Y,1≤bud∧e=.returned (.tuple #[.pointer (some ⟨Y.tb,0,none⟩), .int .i64 0])∧TierW w.heap.size w' Y ss room (NodeR.new rl bud rm most wt) [] (.slice none 0 0) (.slice none 0 0) 0)∨(bud=0∧e=.returned (.tuple #[.pointer none, .int .i64 1])))):=by
 obtain ⟨css,hsl,hlen,hss⟩:=hs;have hle:=ok.len;have htm:eI Tryz.prog 88 3 93=true:=zDk;have hzv:∀ w,(zeroValue 93).run Tryz.prog w=.ok (.slice none 0 0) w:=fun w=>by kernel_rfl
 go_enter Tryz.func14,Tryz.ntmps14
 refine_lift sF ?_;intro _ _ _;refine jO (vs:=[a, .int .i64 bud, .int .i64 rm, .int .i64 most, .int .i64 wt]) fun w1 x1 s1 b1=>?_;refine aB ?_;have hsl1:=hsl.ext x1;refine_lift lQ fun _ _ _=>?_;refine lV (ok:=CK) rfl ?_;intro w2 x2 s2 m2;refine aB ?_;refine aG (v:=.agg #[.pointer none, .pointer none, .map (some w1.heap.size), .slice none 0 0, .int .i64 0]) (Runs.build (vals:=[(2, .map (some w1.heap.size))]) rfl (by kernel_rfl)) ?_;refine aB ?_;refine jO (vs:=[.pointer none, .pointer none, .map (some w1.heap.size), .slice none 0 0, .int .i64 0]) fun w3 x3 s3 b3=>?_;refine aB ?_;have m3:=m2.ext x3;have x13:=x2.trans x3;have hsl3:=hsl1.ext x13;clear hsl1;refine_lift bU fun _ _=>?_;have z1:=x1.size;have e0:Ext w w3:=x1.trans x13;go_loopw [25] (fun iv wr=>∃ (k:Nat) (vs:List Value),k≤ss.length∧iv=.int .i64 k∧vs.length=k∧MapS CK wr w1.heap.size (iT (ss.take k) vs)∧(∀ (i:Nat) (s:SrvR) (v:Value),ss[i]? = some s→vs[i]? = some v→HldsO w3.heap.size wr v [s.held])∧Mv (some w1.heap.size) w3 wr) (fun iv _=>ss.length - (intOf iv).toNat)
 case atStart=>exact ⟨0,[],Nat.zero_le _,rfl,rfl,m3,(fun i s v _ h=>by simp at h),(Ext.refl _).mv _⟩
 case round =>
  obtain ⟨k,vs,hk,rfl,hvl,hm,hh,hmv⟩:=hrel;have hbw:=hmv.at b3 (by intro e;have:=Option.some.inj e;omega);have hxr:Ext w wr:=e0.move hmv (by rintro k ⟨⟩;omega);have hpw:=aA (cs:=[.pointer none, .pointer none, .map (some w1.heap.size), .slice none 0 0, .int .i64 0]) hbw;have slr:=hsl.ext hxr;have zr:=hmv.size;clear hsl3;by_cases hlt:k<ss.length
  ·obtain ⟨u,hcu,hz⟩:=hss k ss[k] (List.getElem?_eq_getElem hlt);have hel:=slr.elem hcu;have hnd:=ok.node _ (List.getElem_mem hlt);have hzk:=ok.zone _ (List.getElem_mem hlt);have hsm:=ok.small _ (List.getElem_mem hlt);have htk:ss.take (k+1)=ss.take k ++ [ss[k]]:=List.take_succ_eq_append_getElem hlt;have htl:(ss.take k).length=k:=by rw [List.length_take];omega
   have hnod:((ss.take (k+1)).map (·.node)).Nodup:=ok.two.sublist ((List.take_sublist _ _).map _);have hfr:∀ s∈ss.take k,s.node≠ss[k].node:=by
    intro s hs e;rw [htk,List.map_append,List.nodup_append]at hnod;exact hnod.2.2 _ (List.mem_map.2 ⟨s,hs,rfl⟩) _ aX e
   obtain ⟨zcs,hzs0,hzl,hze⟩:=hz.out;have hzs:=hzs0.ext hxr;obtain ⟨y,hzc,hsets⟩:=hze 0 _ rfl;have hzlen:zcs.length=1:=hzl;have hss':∀ (i:Nat) (v:Value),vs[i]? = some v→i<k:=fun i v h=>by have:=(List.getElem?_eq_some_iff.1 h).1;omega
   obtain ⟨ua,uc,hu⟩:∃ a c,u=.slice a 1 c:=by
    obtain ⟨a,c,e,_⟩:=hzs;exact ⟨a,c,by rw [e,hzlen]⟩
   subst hu;have hsk:ss[k]? = some ss[k]:=List.getElem?_eq_getElem hlt;generalize ss[k]=s at *;refine_lift rR ?_;intro _ _ _ _ _ _;refine dX (z:=[.int .i64 0, .slice none 0 0]) fun w4 x4 s4 b4=>?_;refine aB ?_;refine dL (v:=.agg #[.int .i64 s.node, .slice ua 1 uc]) b4 (by simp [Value.cells,Value.oneCell']) fun w5 p5=>?_;have xr5:=cJ x4 p5;have hps:=aA (cs:=[.int .i64 s.node, .slice ua 1 uc]) p5.this;have hpw5:=hpw.ext xr5;have hm5:=hm.ext xr5;have bs5:=p5.this;clear hel slr hpw;refine_lift bU fun _ _=>?_;refine dA zDk zDk ?_;refine_lift vO ?_;refine fL (v:=.tuple #[.slice none 0 0, .bool false]) (fun w' x'=>Runs.lookup rfl rfl (lE kN htm hzv (hm5.ext x') ⟨_,rfl⟩ (EO hfr) true)) ?_;refine aB ?_;refine_lift vO ?_;intro w6 x6;have hps6:=hps.ext x6;have hpw6:=hpw5.ext x6;have hm6:=hm5.ext x6;have hzs6:=(hzs.ext xr5).ext x6;clear hps hpw5
   (repeat' first|((with_reducible refine aZ ?_);go_step)|((with_reducible refine aS ?_);first|refine dN ?_|(refine bG ?_ ?_<;>intro hc))|fail)
   rotate_left
   ·exact absurd hnd.2 (Int.not_lt.2 hc)
   ·exact absurd hnd.1 (Int.not_le.2 hc)
   refine aO 6 (Ext w6) zDk ?_;intro w7 x7 _;refine ⟨x7,?_⟩;refine cZ 0 ?_;refine cZ 1 ?_;refine cZ 2 ?_;refine bE 3 ?_;refine bE 4 ?_;refine bE 5 ?_;refine dH 6 ?_;obtain ⟨w8,o8,hr8,p8,m8⟩:=nK kN htm (hm6.ext x7) (v:=.slice none 0 0) ⟨s.node,rfl⟩ (EO hfr);refine eQ rfl rfl rfl rfl hr8 ?_;refine aD ⟨aN rfl,?_⟩;refine jP ?_;have x57:=x6.trans x7;have xr7:=xr5.trans x57;have xw8:=cJ (hxr.trans xr7) p8;have hbw7:=xr7.at hbw;have bs7:=x57.at bs5;have z7:=xr7.size;have z8:=p8.size;have ls:wr.heap.size<w7.heap.size:=(Array.getElem?_eq_some_iff.1 bs7).1;have hbw8:=(p8.other _ (by omega:w2.heap.size≠w1.heap.size)).trans hbw7;have bs8:=(p8.other _ (by omega:wr.heap.size≠w1.heap.size)).trans bs7;have hps8:=aA (cs:=[.int .i64 s.node, .slice ua 1 uc]) bs8;have hzs8:=hzs0.ext xw8;clear hps6 hpw6 hm6 hzs6;refine_lift aT ?_;rw [← pU aC,← htk]at m8;have hh8:∀ (i:Nat) (s:SrvR) (v:Value),ss[i]? = some s→vs[i]? = some v→HldsO w3.heap.size w8 v [s.held]:=fun i s v h1 h2=>(hh i s v h1 h2).upper fun g g1 g2=>by rw [p8.other g aC,xr7.block g g2]
   have hmv8:Mv (some w1.heap.size) w3 w8:=hmv.trans ((xr7.mv _).trans p8.mv);go_loopw [65] (fun iv wq=>(iv=.int .i64 0∧wq=w8)∨(iv=.int .i64 1∧∃ v,MapS CK wq w1.heap.size (iT (ss.take (k+1)) (vs ++ [v]))∧HldsO w3.heap.size wq v [s.held]∧Mv (some w1.heap.size) w8 wq)) (fun iv _=>1 - (intOf iv).toNat)
   case atStart=>exact .inl ⟨rfl,rfl⟩
   case round =>
    rcases hrel with ⟨rfl,rfl⟩|⟨rfl,v,mq,hq,vq⟩
    ·have hel:=hzs8.elem hzc;obtain ⟨ya,yl,yc,hy⟩:∃ a n c,y=.slice a n c:=by
      obtain ⟨_,g,_⟩:=hsets.sl;obtain ⟨a,c,e,_⟩:=g;exact ⟨_,_,_,e⟩
     subst hy;refine_lift rR ?_;intro _ _ _ _ _ _;refine dX (z:=iQ) fun w9 x9 s9 b9=>?_;refine aB ?_;refine dL (v:=.agg #[aE s.o, .slice ya yl yc]) b9 (by simp [Value.cells,aE,Value.oneCell']) fun w10 p10=>?_;have x10:=cJ x9 p10;have xw10:=xw8.trans x10;have hpz:=aA (cs:=[aE s.o, .slice ya yl yc]) p10.this;have bz10:=p10.this;have hps10:=hps8.ext x10;have bs10:=x10.at bs8;have hbw10:=x10.at hbw8;have m10:=m8.ext x10;clear hel hps8;refine_lift mH fun _ _ _ _=>?_;refine cB (uN s.o (.slice ya yl yc) s.l _ (hsets.ext xw10) hsm.2) fun w11 x11=>?_;rw [hzk];have hpz11:=hpz.ext x11;have hps11:=hps10.ext x11;have hpw11:=aA (cs:=[.pointer none, .pointer none, .map (some w1.heap.size), .slice none 0 0, .int .i64 0]) (x11.at hbw10);have m11:=m10.ext x11;clear hpz hps10;refine_lift aT ?_;have hvk:vs.length=(ss.take k).length:=aC;have hen:(iT (ss.take (k+1)) (vs ++ [.slice none 0 0]))[k]? = some (.int .i64 s.node, .slice none 0 0):=by
      rw [htk];exact TZ hvk htl
     have hun:(iT (ss.take (k+1)) (vs ++ [.slice none 0 0])).Pairwise (fun a b=>a.1≠b.1):=BS (by rw [htk];simp;omega) hnod;have xw11:=xw10.trans x11;refine aO 20 (Ext w11) zDk ?_;intro w12 x12 _;refine ⟨x12,?_⟩;refine cZ 0 ?_;refine cZ 1 ?_;refine cZ 2 ?_;refine bE 3 ?_;refine bE 4 ?_;refine bE 5 ?_;refine cZ 6 ?_;refine cZ 7 ?_;refine cZ 8 ?_;refine bE 9 ?_;refine bE 10 ?_;refine bE 11 ?_;refine oE (i:=12) (v:=.slice none 0 0) rfl rfl (fun w' hF=>Runs.lookup rfl rfl (eU (i:=k) kN htm hzv (m11.ext hF) ⟨_,rfl⟩ hen hun false)) ?_;refine aB ?_;refine bE 13 ?_;refine bE 15 ?_;refine bE 16 ?_;refine dH 14 ?_;refine gY (TX s.o (.slice ya yl yc) s.l _ (hsets.ext (xw11.trans x12)) hsm.1 hsm.2) ?_;rintro _ w13 x13' ⟨y',rfl,hsv⟩;refine aB ?_;have x1113:=x12.trans x13';refine aD ⟨aR x1113,?_⟩;obtain ⟨yb,ym,yd,hy'⟩:∃ a n c,y'=.slice a n c:=by
      obtain ⟨_,g,_⟩:=hsv.out;obtain ⟨a,c,e,_⟩:=g.sl;exact ⟨_,_,_,e⟩
     subst hy';refine yB (i:=17) (v:=.agg #[aE s.o, .slice yb ym yd,aE s.o, .bool true]) rfl rfl (fun _=>Runs.build (vals:=[(0, .agg #[aE s.o, .slice yb ym yd]),(1,aE s.o),(2, .bool true)]) rfl (by kernel_rfl)) ?_;refine aB ?_;refine dH 18 ?_;refine oD (e:=98) (k:=4) (bytes:=64) (xs:=[.agg #[aE s.o, .slice yb ym yd,aE s.o, .bool true]]) (by simp [Value.cells]) fun v14 w14 x14 _ sl14 _=>?_;refine aB ?_;have x1114:=x1113.trans x14;refine aD ⟨aR x1114,?_⟩;refine dH 19 ?_;refine bV (B:=w14.heap.size) (e:=98) (k:=4) rfl (Own.nil _ _ _ _) rfl sl14 (by simp [Value.cells,aE,Value.oneCell']) (Nat.le_refl _) aX ?_;intro v15 w15 o15 m15 _;refine aB ?_;have x15:Ext w14 w15:=(Own.nil w14.heap.size 4 98 w14).mvx m15 (Ext.refl _) (Nat.le_refl _);have x1115:=x1114.trans x15;refine aD ⟨aR x1115,?_⟩;refine dH 20 ?_;obtain ⟨w16,o16,hr16,p16,m16⟩:=JN kN htm (m11.ext x1115) (v:=v15) ⟨s.node,rfl⟩ hen hun;refine eQ rfl rfl rfl rfl hr16 ?_;refine aD ⟨aN rfl,?_⟩;refine jP ?_;refine_lift aT ?_;have z10:=x10.size;have z11:=x11.size;have z12:=x12.size;have z13:=x13'.size;have z14:=x14.size;have e16:(iT (ss.take (k+1)) (vs ++ [.slice none 0 0])).set k (.int .i64 s.node,v15)=iT (ss.take (k+1)) (vs ++ [v15]):=by
      rw [htk];exact PJ hvk htl
     rw [e16]at m16;have ob:=o15.block;have o16':=o15.mv p16.mv (.inr fun e=>by have:=(ob _ e).1;omega);have hso:SetsO w3.heap.size w16 (.slice yb ym yd) s.l:=(((hsv.toO aC).ext (x14.trans x15)).put p16 aC);refine ⟨.inr ⟨rfl,v15,m16,⟨_,o16'.sl,o16'.from' aC,rfl,?_⟩,((x10.trans (x11.trans x1115)).mv _).trans p16.mv⟩,by simp [intOf]⟩;intro i h hi
     match i,hi with
     | 0,hi =>
      cases hi
      exact ⟨.slice yb ym yd,rfl,hso⟩
    ·refine_lift jQ fun _=>?_;refine ⟨⟨k+1,vs ++ [v],aC,by go_num,by simp [hvl],mq,?_,hmv8.trans vq⟩,by simp [intOf];omega⟩;intro i s' v' h1 h2;by_cases hi:i<vs.length
     ·rw [List.getElem?_append_left hi]at h2;exact (hh8 i s' v' h1 h2).upper fun g g1 g2=>vq.block g g2 (by intro e;have:=Option.some.inj e;omega)
     ·have hi2:i=k:=by
       have:=(List.getElem?_eq_some_iff.1 h2).1;rw [List.length_append]at this;simp at this;omega
      subst hi2;rw [List.getElem?_append_right aC]at h2;simp [hvl]at h2;rw [hsk]at h1;cases h1
      subst h2;exact hq
  ·have hkn:k=ss.length:=aC;subst hkn;rw [List.take_length]at hm;have bc:=hmv.at ((x13.at b1)) (by intro e;have:=Option.some.inj e;omega);clear slr hpw;refine_lift lQ fun _ _ _=>?_;refine gY (Dx 100 room _ aK hr) ?_;rintro _ w4 x4 ⟨nb,rfl,hn4⟩;refine aB ?_;have z4:=x4.size;refine_lift aT ?_;refine fA 0 (.pointer (some ⟨nb,0,none⟩)) (x4.at hbw) rfl fun w5 p5=>?_;have z5:=p5.size;have b5:=p5.this;have bc5:=(p5.other _ (by omega:w.heap.size≠w2.heap.size)).trans (x4.at bc);have hpc:=aA (cs:=[a, .int .i64 bud, .int .i64 rm, .int .i64 most, .int .i64 wt]) bc5;have lnb:nb<w4.heap.size:=(Array.getElem?_eq_some_iff.1 hn4.blk).1;have hge:=hn4.ge;have xw5:=cJ (hxr.trans x4) p5;rcases hg with hg|⟨rfl,rfl,rfl,rfl,rfl⟩
   ·refine_lift bU fun _ _=>?_;refine gY (Dg a rl bud rm most wt w5 (hg.sl.ext xw5) hg.c1 hg.c2 hg.c3 hg.c4 hg.c5 hg.c6) ?_;rintro _ w6 x6 ⟨M,rfl,hov,h6⟩;refine aB ?_;have h6:NodeI w5 w6 M (NodeR.new rl bud rm most wt):=h6.idle hov rfl;refine_lift aT ?_;refine fA 1 (.pointer (some ⟨M.nb,0,none⟩)) (x6.at b5) rfl fun w7 p7=>?_;refine_lift aT ?_;have z6:=x6.size;have z7:=p7.size;have hst:∀ g,g<w4.heap.size→g≠w2.heap.size→w7.heap[g]? = w4.heap[g]? := fun g g1 g2=>by rw [p7.other g g2,x6.block g aC,p5.other g g2]
    refine bodyPost_ret (results_tmp2 rfl _ _ _) rfl ⟨(xw5.trans x6).move p7.mv (by rintro k ⟨⟩;omega), .inl ⟨⟨w2.heap.size,w1.heap.size,nb,M,w3.heap.size,wr.heap.size,w5.heap.size⟩,hg.c2.1,rfl,⟨?_,?_,p7.this,?_,?_,?_⟩⟩⟩
    ·refine ⟨?_,?_,?_,?_⟩<;>dsimp only<;>omega
    ·refine ⟨zr,hge,?_,?_⟩<;>dsimp only<;>omega
    ·exact ⟨hge,(hst nb lnb aC).trans hn4.blk,Own.nil _ _ _ _⟩
    ·exact ⟨_,cM (w:=w7) (n:=w5.heap.size) aC,h6.kf (T:=[92]) (Kf.put p7 (x6.at b5) aX) aK aC⟩
    ·refine ⟨vs,hm.at fun es c e=>?_,hvl,fun i s v h1 h2=>(hh i s v h1 h2).upper fun g g1 g2=>?_⟩
     ·have e4:=x4.at e;have l4:=(Array.getElem?_eq_some_iff.1 e4).1;exact (hst _ l4 aC).trans e4
     ·dsimp only;rw [(kY (w:=w7) (n:=wr.heap.size) aC).block g (by rw [cM aC];exact g2) |>.symm,hst g aC aC,x4.block g g2]
   ·refine_lift bU fun _ _=>?_;refine cB (Ay _) fun w6 x6=>?_;refine_lift aT ?_;refine fA 1 (.pointer none) (x6.at b5) rfl fun w7 p7=>?_;refine_lift jQ fun _=>?_;exact bodyPost_ret (results_tmp2 rfl _ _ _) rfl ⟨(xw5.trans x6).move p7.mv (by rintro k ⟨⟩;omega), .inr ⟨rfl,rfl⟩⟩
variable {cs:Array Value} {held:Bool} {qt:Int} {ps rs:List (List UInt8×Nat)} {ls:List (List UInt8)} {css css0 es:List (List Value)} {d l m n o qn s t x y z:List UInt8} {B a b base c e fuel i j k p q:Nat} {fz:Nat×Nat} {row:Option Nat} {r u v:Value} {w w' w0 w1 w2:World}
abbrev UK:=List UInt8×List RSet
abbrev CL:=Int×List UK
structure SvsAt (w:World) (v:Value) (ss:List CL):Prop where
 out:∃ css,Sl 2 w v css∧css.length=ss.length∧∀ (i:Nat) (s:CL),ss[i]? = some s→∃ u,css[i]? = some [.int .i64 s.1,u]∧ZonesAt w u s.2
theorem SvsAt.ext {ss:List CL} (h:SvsAt w v ss) (hx:Ext w w'):SvsAt w' v ss:=by
 obtain ⟨css,h1,h2,h3⟩:=h;exact ⟨css,h1.ext hx,h2,fun i z hi=>let ⟨u,a,b⟩:=h3 i z hi;⟨u,a,b.ext hx⟩⟩
def UA (z:UK):Int:=(((aM z.1).getD []).length:Nat)
def nZ (n:List UInt8) (st:UK×Int) (z:UK):UK×Int:=if bW n z.1=true∧st.2<UA z then (z,UA z)else st
def iU (n:List UInt8) (ss:List CL):UK×Int:=ss.foldl (fun st s=>s.2.foldl (nZ n) st) (([],[]),-1)
theorem Fa (lv:Value) (ss:List CL) (n:List UInt8) (w:World) (hs:SvsAt w lv ss) (hl:∀ s∈ss,∀ z∈s.2,((aM z.1).getD []).length≤1000000) :
 Calls Tryz.prog 25 #[lv,aE n] w (kZ w fun r w'=>∃ u,r=.tuple #[.agg #[aE (iU n ss).1.1,u], .bool (decide (0≤(iU n ss).2))]∧SetsAt w u (iU n ss).1.2):=by
 obtain ⟨css,hsl,hlen,hss⟩:=hs;have hle:=hsl.le;go_enter Tryz.func25,Tryz.ntmps25
 refine_lift lQ ?_;intro _ _ _;refine dX (z:=iQ) fun w1 x1 s1 b1=>?_;refine aB ?_;have z1:=x1.size;refine_lift bU fun _ _=>?_;go_loopw [6,14] (fun mv iv wr=>∃ (k:Nat) (u:Value),k≤ss.length∧iv=.int .i64 k∧mv=.int .i64 (iU n (ss.take k)).2∧Ext w wr∧wr.heap[w.heap.size]? = some (.cells [aE (iU n (ss.take k)).1.1,u].toArray 70 (0,0))∧SetsAt w u (iU n (ss.take k)).1.2) (fun _ iv _=>ss.length - (intOf iv).toNat)
 case atStart=>exact ⟨0, .slice none 0 0,Nat.zero_le _,rfl,rfl,x1,b1,(SetsO.nil 0 w).sets⟩
 case round =>
  obtain ⟨k,u,hk,rfl,rfl,hx,hb,hu⟩:=hrel;have slr:=hsl.ext hx;by_cases hlt:k<ss.length
  ·obtain ⟨zv,hcu,hz⟩:=hss k ss[k] (List.getElem?_eq_getElem hlt);have hel:=slr.elem hcu;have hlz:=hl _ (List.getElem_mem hlt);have htk:iU n (ss.take (k+1))=ss[k].2.foldl (nZ n) (iU n (ss.take k)):=by
    unfold iU;rw [List.take_succ_eq_append_getElem hlt,List.foldl_append];rfl
   obtain ⟨zcs,hzs0,hzl,hze⟩:=hz.out;have hzs:=hzs0.ext hx;have hzle:=hzs0.le;obtain ⟨za,zn,zc,hzv⟩:∃ a n c,zv=.slice a n c:=by
    obtain ⟨a,c,e,_⟩:=hzs;exact ⟨_,_,_,e⟩
   subst hzv;generalize ss[k]=s at *;generalize iU n (ss.take k)=st0 at *;refine_lift rR ?_;intro _ _ _ _ _ _;refine dX (z:=[.int .i64 0, .slice none 0 0]) fun w2 x2 s2 b2=>?_;refine aB ?_;refine dL (v:=.agg #[.int .i64 s.1, .slice za zn zc]) b2 (by simp [Value.cells,Value.oneCell']) fun w3 p3=>?_;have x3:=cJ x2 p3;have hps:=aA (cs:=[.int .i64 s.1, .slice za zn zc]) p3.this;have hb3:=x3.at hb;have hx3:=hx.trans x3;have hzs3:=hzs0.ext hx3;clear hel slr;refine_lift aT ?_;go_loopw [6,21] (fun mv iv wq=>∃ (j:Nat) (u:Value),j≤s.2.length∧iv=.int .i64 j∧mv=.int .i64 ((s.2.take j).foldl (nZ n) st0).2∧Ext w wq∧wq.heap[w.heap.size]? = some (.cells [aE ((s.2.take j).foldl (nZ n) st0).1.1,u].toArray 70 (0,0))∧SetsAt w u ((s.2.take j).foldl (nZ n) st0).1.2) (fun _ iv _=>s.2.length - (intOf iv).toNat)
   case atStart=>exact ⟨0,u,Nat.zero_le _,rfl,rfl,hx3,hb3,hu⟩
   case round =>
    obtain ⟨j,uj,hj,rfl,rfl,hxq,hbq,huq⟩:=hrel;have zsq:=hzs0.ext hxq;by_cases hjl:j<s.2.length
    ·obtain ⟨y,hzc,hsets⟩:=hze j _ (List.getElem?_eq_getElem hjl);have helz:=zsq.elem hzc;have hlj:=hlz _ (List.getElem_mem hjl);have htj:(s.2.take (j+1)).foldl (nZ n) st0=nZ n ((s.2.take j).foldl (nZ n) st0) s.2[j]:=by
      rw [List.take_succ_eq_append_getElem hjl,List.foldl_append];rfl
     obtain ⟨ya,yl,yc,hy⟩:∃ a n c,y=.slice a n c:=by
      obtain ⟨_,g,_⟩:=hsets.sl;obtain ⟨a,c,e,_⟩:=g;exact ⟨_,_,_,e⟩
     subst hy;generalize s.2[j]=z at *;generalize (s.2.take j).foldl (nZ n) st0=st at *;refine_lift rR ?_;intro _ _ _ _ _ _;refine dX (z:=iQ) fun w4 x4 s4 b4=>?_;refine aB ?_;refine dL (v:=.agg #[aE z.1, .slice ya yl yc]) b4 (by simp [Value.cells,aE,Value.oneCell']) fun w5 p5=>?_;have x5:=cJ x4 p5;have hpz:=aA (cs:=[aE z.1, .slice ya yl yc]) p5.this;have hx5:=hxq.trans x5;have hb5:=x5.at hbq;clear helz zsq;refine_lift bU fun _ _=>?_;refine gY (uR z.1 _) fun v6 w6 x6 o6=>?_;refine aB ?_;have sl6:=o6.sl;have hpz6:=hpz.ext x6;have ltl:(aH ((aM z.1).getD [])).length=((aM z.1).getD []).length:=List.length_map ..;clear hpz;refine_lift bU fun _ _=>?_;refine cB (jI n z.1 _) fun w7 x7=>?_;have hpz7:=hpz6.ext x7;have x57:=x6.trans x7;have hb7:=x57.at hb5;have hx7:=hx5.trans x57;clear hpz6 sl6;have ecnt:(((aH ((aM z.1).getD [])).length:Nat):Int)=UA z:=by rw [ltl];rfl
     rw [ecnt];have hpzq:=hpz7;by_cases hbet:bW n z.1=true∧st.2<UA z
     ·have ebet:nZ n st z=(z,UA z):=if_pos hbet;rw [hbet.1];refine_lift jQ fun _=>?_
      ·refine dL (v:=.agg #[aE z.1, .slice ya yl yc]) hb7 (by simp [Value.cells,aE,Value.oneCell']) fun w8 p8=>?_;refine_lift aT ?_;refine ⟨⟨j+1, .slice ya yl yc,aC,by go_num,?_,cJ hx7 p8,?_,?_⟩,by simp [intOf];omega⟩
       ·rw [htj,ebet]
       ·rw [htj,ebet];exact p8.this
       ·rw [htj,ebet];exact hsets
     ·have ebet:nZ n st z=st:=if_neg hbet;cases hU:bW n z.1
      ·refine_lift aT ?_;refine ⟨⟨j+1,uj,aC,by go_num,?_,hx7,?_,?_⟩,by simp [intOf];omega⟩
       ·rw [htj,ebet]
       ·rw [htj,ebet];exact hb7
       ·rw [htj,ebet];exact huq
      ·refine_lift lP (fun _=>?_) (fun _=>?_)
       ·exact absurd ⟨hU,by assumption⟩ hbet
       ·refine ⟨⟨j+1,uj,aC,by go_num,?_,hx7,?_,?_⟩,by simp [intOf];omega⟩
        ·rw [htj,ebet]
        ·rw [htj,ebet];exact hb7
        ·rw [htj,ebet];exact huq
    ·have hjn:j=s.2.length:=aC;subst hjn;rw [List.take_length]at hbq huq ⊢;refine_lift jQ fun _=>?_;refine ⟨⟨k+1,uj,aC,by go_num,?_,hxq,?_,?_⟩,by simp [intOf];omega⟩
     ·rw [htk]
     ·rw [htk];exact hbq
     ·rw [htk];exact huq
  ·have hkn:k=ss.length:=aC;subst hkn;rw [List.take_length]at hb hu ⊢;obtain ⟨ua,ul,uc,hue⟩:∃ a n c,u=.slice a n c:=by
    obtain ⟨_,g,_⟩:=hu.sl;obtain ⟨a,c,e,_⟩:=g;exact ⟨_,_,_,e⟩
   subst hue;have hpb:=aA (cs:=[aE (iU n ss).1.1, .slice ua ul uc]) hb;refine_lift lQ fun _ _ _=>?_;refine dL (v:=.agg #[aE (iU n ss).1.1, .slice ua ul uc]) hb (by simp [Value.cells,aE,Value.oneCell']) fun w8 p8=>?_;refine_lift aT ?_;exact bodyPost_ret (fS (cs:=[aE (iU n ss).1.1, .slice ua ul uc]) rfl rfl p8.this (zDk:eF Tryz.prog 70 2=true)) rfl ⟨_,rfl,cJ hx p8, .slice ua ul uc,rfl,hu⟩
def rK (o:List UInt8) (k:Int) (l:List Rec):List UInt8×Bool :=
 match l.getLast? with
 | none=>([],false)
 | some r=>if k=5∨k=255 then ([],false)else ((aQ 5 r.data).1,decide (r.kind=5)&&(decide ((aQ 5 r.data).2=0) && !bW (aQ 5 r.data).1 o))
theorem Bb (o:List UInt8) (u:Value) (k:Int) (v:Value) (l:List Rec) (w:World) (hu:∃ a n c,u=.slice a n c) (hv:Sl 4 w v (aF l)) (hd:∀ r∈l,r.data.length≤9223372036854775807) :
 Calls Tryz.prog 27 #[.agg #[aE o,u], .int .i64 k,v] w (bC w (.tuple #[aE (rK o k l).1, .bool (rK o k l).2])):=by
 obtain ⟨ua,ul,uc,rfl⟩:=hu;have hlen:=aJ l;have hle:=hv.le;go_enter Tryz.func27,Tryz.ntmps27
 refine_lift mT fun _ _=>?_;refine jO (vs:=[aE o, .slice ua ul uc]) fun w1 x1 s1 b1=>?_;refine aB ?_;have hpz:=aA (cs:=[aE o, .slice ua ul uc]) b1;have hv1:=hv.ext x1;by_cases hn:l.length=0
 ·have hl0:l=[]:=List.length_eq_zero_iff.1 hn;subst hl0;have h0:(aF ([]:List Rec)).length=0:=rfl;refine_lift aT ?_;exact bodyPost_ret (results_tmp2 rfl _ _ _) rfl ⟨rfl,x1⟩
 ·have hlast:l.getLast? = some l[l.length - 1]:=by rw [List.getLast?_eq_getElem?,List.getElem?_eq_getElem aC]
  have hel:=hv1.elem (eX (show l.length - 1<l.length by omega));have hdl:=hd _ (List.getElem_mem (show l.length - 1<l.length by omega));have hnx:rK o k l=if k=5∨k=255 then ([],false)else ((aQ 5 l[l.length - 1].data).1,decide (l[l.length - 1].kind=5)&&(decide ((aQ 5 l[l.length - 1].data).2=0) && !bW (aQ 5 l[l.length - 1].data).1 o)):=by
   unfold rK;rw [hlast]
  generalize l[l.length - 1]=r at *;have hel:Pts w1 (cC v (((((aF l).length:Nat):Int) - 1).toNat*4)) [aE r.name, .int .i64 r.kind, .int .i64 r.ttl,aE r.data]:=by
   rw [show ((((aF l).length:Nat):Int) - 1).toNat=l.length - 1 by omega];exact hel
  by_cases hk:k=5∨k=255
  ·(repeat' first|((with_reducible refine aZ ?_);go_step)|((with_reducible refine aS ?_);first|refine dN ?_|(refine bG ?_ ?_<;>intro hc))|fail)
   all_goals first
    | (exact bodyPost_ret (results_tmp2 rfl _ _ _) rfl ⟨by rw [hnx,if_pos hk];rfl,x1⟩)
    | (exact absurd hk aC)
    | (exact absurd (by assumption) hn)
  ·(repeat' first|((with_reducible refine aZ ?_);go_step)|((with_reducible refine aS ?_);first|refine dN ?_|(refine bG ?_ ?_<;>intro hc))|fail)
   rotate_left
   all_goals try (exact absurd aC hk)
   refine dX (z:=[aE [], .int .i64 0, .int .i64 0,aE []]) fun w2 x2 s2 b2=>?_;refine aB ?_;refine dL (v:=.agg #[aE r.name, .int .i64 r.kind, .int .i64 r.ttl,aE r.data]) b2 (by simp [Value.cells,aE,Value.oneCell']) fun w3 p3=>?_;have x3:=cJ x2 p3;have hpr:=aA (cs:=[aE r.name, .int .i64 r.kind, .int .i64 r.ttl,aE r.data]) p3.this;have hpz3:=hpz.ext x3;clear hpz hel hv1;refine_lift bU fun _ _=>?_;refine cB (ZF 5 r.data _ hdl) fun w4 x4=>?_;have hpr4:=hpr.ext x4;have hpz4:=hpz3.ext x4;have x14:=x1.trans (x3.trans x4);clear hpr hpz3;have hnx':=hnx.trans (if_neg hk);generalize aQ 5 r.data=P at *;by_cases h5:r.kind=5∧P.2=0
   ·have e5:rK o k l=(P.1,!bW P.1 o):=by rw [hnx',decide_eq_true h5.1,decide_eq_true h5.2];rfl
    refine_lift XL (fun hc hc=>?_) (fun hc=>?_) (fun _ _ hc hc=>?_)
    all_goals first
     | (refine cB (jI P.1 o _) fun w5 x5=>?_
        refine_lift aT ?_;exact bodyPost_ret (results_tmp2 rfl _ _ _) rfl ⟨by rw [e5];rfl,x14.trans x5⟩)
     | (exact absurd h5.1 (by assumption))
     | (exact absurd h5.2 (by assumption))
   ·have e5:rK o k l=(P.1,false):=by
     rw [hnx'];by_cases h6:r.kind=5
     ·rw [decide_eq_false (fun h=>h5 ⟨h6,h⟩)];simp
     ·rw [decide_eq_false h6];simp
    refine_lift XL (fun hc hc=>?_) (fun hc=>?_) (fun _ _ hc hc=>?_)
    all_goals first
     | (exact absurd ⟨by assumption,by assumption⟩ h5)
     | (exact bodyPost_ret (results_tmp2 rfl _ _ _) rfl ⟨by rw [e5];rfl,x14⟩)
def YU (k:Int) (A U:List Rec):List Rec:=A++if k=3 then U else []
theorem PK {k:Int} (hf:fits k d=true) (hk:AS k=true):(aQ k d).2=0:=by
 have h1:(k=2∨k=15)∨k=33:=by simpa [AS]using hk
 have h2:(aQ k d).2≠2:=by
  unfold fits at hf;rw [if_neg aC,if_neg aC,if_neg aC,if_neg aC]at hf
  simpa using hf
 have h3:¬ jS k<0:=by
  unfold jS;rcases h1 with (rfl|rfl)|rfl<;>decide
 unfold aQ at *;rw [if_neg h3]at *;split at h2
 ·exact absurd rfl h2
 ·rename_i h4;rw [if_neg h4];split at h2
  ·exact absurd rfl h2
  ·rfl
theorem UB {s:RSet} (h:lS s=true) (hd:d∈s.data):fits s.kind d=true:=by
 obtain ⟨i,hi,he⟩:=List.mem_iff_getElem.1 hd;cases hb:qO s i with
 | true=>rw [zY hi hb]at h;cases h
 | false =>
  simp only [qO,Bool.or_eq_false_iff,decide_eq_false_iff_not,Decidable.not_not]at hb;have h1:=hb.1;rw [List.getD_eq_getElem?_getD,List.getElem?_eq_getElem hi,Option.getD_some,he]at h1;unfold bI at h1;split at h1
  ·cases h1
  ·split at h1
   ·cases h1
   ·rename_i h5;simp only [not_or,Bool.not_eq_false]at h5;exact h5.2.2.2.2.2
def FromK (l:List RSet) (r:Rec):Prop:=∃ t∈l,r.kind=t.kind∧r.data∈t.data
theorem FromK.opt {l:List RSet} {k:Int}:∀ r∈gH (cK l n k),FromK l r:=by
 intro r hr;cases hf:cK l n k with
 | none=>rw [hf]at hr;cases hr
 | some s =>
  rw [hf]at hr;obtain ⟨d,hd,rfl⟩:=List.mem_map.1 hr;exact ⟨s,(oN hf).1,rfl,hd⟩
theorem FromK.sets {l:List RSet} (h:cU l=0) {s:RSet} (hs:s∈dZ l n):∀ r∈eK s,FromK l r:=by
 intro r hr;obtain ⟨d,hd,rfl⟩:=List.mem_map.1 hr;obtain ⟨t,ht,e1,_,e,_⟩:=pO h hs;exact ⟨t,ht,e1,by rw [← e];exact hd⟩
theorem BT {l:List RSet} (h:cU l=0) (n:List UInt8) (k c:Int):(∀ r∈(cX o l n k c).ans,FromK l r)∧((cX o l n k c).kind=3→∀ r∈(cX o l n k c).auth,FromK l r):=by
 unfold cX;split
 ·exact ⟨aX,aX⟩
 ·split
  ·exact ⟨aX,fun _=>FromK.opt⟩
  ·split
   ·exact ⟨aX,aX⟩
   ·split
    ·rename_i h4;split
     ·exact ⟨aX,aX⟩
     ·exact ⟨FromK.sets h (rT h4.1).1,aX⟩
    ·split
     ·exact ⟨aX,aX⟩
     ·refine ⟨fun r hr=>?_,aX⟩;obtain ⟨s,hs,d,hd,rfl⟩:=xK hr;exact FromK.sets h (List.mem_filter.1 hs).1 _ (List.mem_map_of_mem hd)
theorem EP {l:List RSet} (h:cU l=0) (k:Int):∀ (f:Nat) (c:Int) (n:List UInt8),(∀ r∈(fT o l k f c n).ans,FromK l r)∧((fT o l k f c n).kind=3→∀ r∈(fT o l k f c n).auth,FromK l r)
 | 0,c,n=>by simp [fT]
 | f+1,c,n=>by
   rw [fT];split
   ·obtain ⟨h1,h2⟩:=EP h k f (c+1) (cX o l n k c).next;refine ⟨fun r hr=>?_,h2⟩;rcases List.mem_append.1 hr with hr|hr
    ·exact (BT h n k c).1 r hr
    ·exact h1 r hr
   ·exact BT h n k c
theorem MY {o:List UInt8} {l:List RSet} (h:cU l=0) (hl:l.length≤200) (k:Int):∀ (f:Nat) (c:Int) (n:List UInt8),(fT o l k f c n).ans.length≤20*f+4000∧(fT o l k f c n).auth.length≤20
 | 0,c,n=>by simp [fT]
 | f+1,c,n=>by
   rw [fT];have hs:=IQ (o:=o) h hl n k c;split
   ·rename_i hm;have hi:=MY h hl k f (c+1) (cX o l n k c).next (o:=o);have h5:=(EB h hm).2.2.2.2;simp only [List.length_append];omega
   ·omega
theorem PL {l:List RSet} (hz:ZoneOk o l) (k:Int) (f:Nat) (c:Int) (n:List UInt8):∀ r∈YU (fT o l k f c n).kind (fT o l k f c n).ans (fT o l k f c n).auth,r.data.length≤4611686018427387904∧(AS r.kind=true→(aQ r.kind r.data).2=0):=by
 intro r hr;obtain ⟨h1,h2⟩:=EP (o:=o) hz.chk k f c n;have hk:FromK l r:=by
  rcases List.mem_append.1 hr with hr|hr
  ·exact h1 r hr
  ·split at hr
   ·exact h2 ‹_› r hr
   ·cases hr
 obtain ⟨t,ht,e1,hd⟩:=hk;have hm:=hz.may ht;refine ⟨?_,fun h=>?_⟩
 ·have:=mO hz t ht _ hd;omega
 ·exact PK (by rw [e1];exact UB hm hd) h
theorem LK {l:List RSet} {q:List UInt8} {k:Int} (h:nV o l q=0):(gW o l q k).ans.length≤5000∧∀ r∈(gW o l q k).ans,r.data.length≤9223372036854775807:=by
 have hz0:cW o l=0:=by
  unfold nV at h;split at h
  ·assumption
  ·rename_i a;exact Classical.not_not.1 a
 have hz:=lT hz0;have e:(gW o l q k).ans=(fT o l k 9 0 (fold q)).ans:=by rw [gW,if_neg (by simp [h])]
 rw [e];have h1:=(MY (o:=o) hz.chk (uS hz) k 9 0 (fold q)).1;refine ⟨aC,fun r hr=>?_⟩;have:=(PL hz k 9 0 (fold q) r (by unfold YU;exact List.mem_append_left _ hr)).1;omega
theorem Own.apart {B' k' e':Nat} {v':Value} {es':List (List Value)} (h:Own B k e w v es) (h':Own B' k' e' w0 v' es') (hB:w0.heap.size≤B):v.ownBlock=none∨v.ownBlock≠v'.ownBlock:=by
 cases hr:v.ownBlock with
 | none=>exact .inl rfl
 | some r =>
  refine .inr fun e=>?_;have h1:=(h.block r hr).1;have h2:=(h'.block r e.symm).2;omega
def lI (ss:List CL) (k:Int):Nat→List UInt8→List Rec→Int×List Rec
 | 0,_,_=>(2,[])
 | f+1,q,all =>
  if (iU q ss).2<0 then (5,[])
  else if nV (iU q ss).1.1 (iU q ss).1.2 q≠0∨(gW (iU q ss).1.1 (iU q ss).1.2 q k).kind=3∨(gW (iU q ss).1.1 (iU q ss).1.2 q k).kind=4 then (2,[])
  else if (rK (iU q ss).1.1 k (gW (iU q ss).1.1 (iU q ss).1.2 q k).ans).2=true then lI ss k f (rK (iU q ss).1.1 k (gW (iU q ss).1.1 (iU q ss).1.2 q k).ans).1 (all++(gW (iU q ss).1.1 (iU q ss).1.2 q k).ans)
  else if (gW (iU q ss).1.1 (iU q ss).1.2 q k).kind=2 then (3,all++(gW (iU q ss).1.1 (iU q ss).1.2 q k).ans)
  else (0,all++(gW (iU q ss).1.1 (iU q ss).1.2 q k).ans)
theorem rL (ss:List CL) (k:Int) (f:Nat) (q:List UInt8) (all:List Rec):lI ss k (f+1) q all =
 if (iU q ss).2<0 then (5,[])
 else if nV (iU q ss).1.1 (iU q ss).1.2 q≠0∨(gW (iU q ss).1.1 (iU q ss).1.2 q k).kind=3∨(gW (iU q ss).1.1 (iU q ss).1.2 q k).kind=4 then (2,[])
 else if (rK (iU q ss).1.1 k (gW (iU q ss).1.1 (iU q ss).1.2 q k).ans).2=true then lI ss k f (rK (iU q ss).1.1 k (gW (iU q ss).1.1 (iU q ss).1.2 q k).ans).1 (all++(gW (iU q ss).1.1 (iU q ss).1.2 q k).ans)
 else if (gW (iU q ss).1.1 (iU q ss).1.2 q k).kind=2 then (3,all++(gW (iU q ss).1.1 (iU q ss).1.2 q k).ans)
 else (0,all++(gW (iU q ss).1.1 (iU q ss).1.2 q k).ans):=rfl
theorem XB (n:List UInt8) (ss:List CL):(iU n ss).1=([],[])∨∃ s∈ss,(iU n ss).1∈s.2:=by
 have hin:∀ (zs:List UK) (st:UK×Int),(zs.foldl (nZ n) st).1=st.1∨(zs.foldl (nZ n) st).1∈zs:=by
  intro zs;induction zs with
  | nil=>intro st;exact .inl rfl
  | cons z zs ih =>
   intro st;rcases ih (nZ n st z)with h|h
   ·rw [List.foldl_cons,h];unfold nZ;split
    ·exact .inr aX
    ·exact .inl rfl
   ·exact .inr (List.mem_cons_of_mem _ h)
 have hout:∀ (ss:List CL) (st:UK×Int),(ss.foldl (fun st s=>s.2.foldl (nZ n) st) st).1=st.1∨∃ s∈ss,(ss.foldl (fun st s=>s.2.foldl (nZ n) st) st).1∈s.2:=by
  intro ss;induction ss with
  | nil=>intro st;exact .inl rfl
  | cons s ss ih =>
   intro st;rcases ih (s.2.foldl (nZ n) st)with h|⟨t,ht,h⟩
   ·rw [List.foldl_cons,h];rcases hin s.2 st with h|h
    ·exact .inl h
    ·exact .inr ⟨s,aX,h⟩
   ·exact .inr ⟨t,List.mem_cons_of_mem _ ht,h⟩
 exact hout ss (([],[]),-1)
theorem GM (lv:Value) (ss:List CL) (q:List UInt8) (k:Int) (w:World) (hs:SvsAt w lv ss) (hl:∀ s∈ss,∀ z∈s.2,((aM z.1).getD []).length≤1000000) (hb:∀ s∈ss,∀ z∈s.2,∀ x∈z.2,x.data.length≤1000000) :
 Calls Tryz.prog 9 #[lv, .agg #[aE q, .int .i64 k]] w (kZ w fun r w'=>∃ v,r=.tuple #[.int .i64 (lI ss k 9 q []).1,v]∧Own w.heap.size 4 37 w' v (aF (lI ss k 9 q []).2)):=by
 go_enter Tryz.func9,Tryz.ntmps9
 refine_lift sF ?_;intro _ _ _;refine jO (vs:=[aE q, .int .i64 k]) fun w1 x1 s1 b1=>?_;refine aB ?_;have z1:=x1.size;refine_lift bU fun _ _=>?_;go_loopw [6,13] (fun av iv wr=>∃ (j:Nat) (qj:List UInt8) (all:List Rec),j≤9∧iv=.int .i64 j∧Ext w wr∧wr.heap[w.heap.size]? = some (.cells [aE qj, .int .i64 k].toArray 25 (0,0))∧Own w.heap.size 4 37 wr av (aF all)∧all.length≤5000*j∧lI ss k (9 - j) qj all=lI ss k 9 q []) (fun _ iv _=>9 - (intOf iv).toNat)
 case atStart=>exact ⟨0,q,[],aC,rfl,x1,b1,Own.nil _ _ _ _,Nat.le_refl _,rfl⟩
 case round =>
  obtain ⟨j,qj,all,hj,rfl,hx,hbq,ho,hal,htr⟩:=hrel;have hpq:=aA (cs:=[aE qj, .int .i64 k]) hbq;by_cases hlt:j<9
  ·obtain ⟨f,hf⟩:∃ f,9 - j=f+1:=⟨8 - j,aC⟩;rw [hf,rL ss k f qj all]at htr;refine_lift rR ?_;intro _ _ _ _ _ _;refine gY (Fa lv ss qj _ (hs.ext hx) hl) ?_;rintro _ w2 x2 ⟨u,rfl,hu⟩;refine aB ?_;have hbz:∀ x∈(iU qj ss).1.2,x.data.length≤1000000:=by
    rcases XB qj ss with h|⟨s,hs',h⟩
    ·rw [h];simp
    ·exact hb s hs' _ h
   generalize iU qj ss=Z at *;obtain ⟨ua,ul,uc,hue⟩:∃ a n c,u=.slice a n c:=by
    obtain ⟨_,g,_⟩:=hu.sl;obtain ⟨a,c,e,_⟩:=g;exact ⟨_,_,_,e⟩
   subst hue;refine_lift aT ?_;refine dX (z:=iQ) fun w3 x3 s3 b3=>?_;refine aB ?_;refine dL (v:=.agg #[aE Z.1.1, .slice ua ul uc]) b3 (by simp [Value.cells,aE,Value.oneCell']) fun w4 p4=>?_;have x34:=cJ x3 p4;have x24:=x2.trans x34;have hpz:=aA (cs:=[aE Z.1.1, .slice ua ul uc]) p4.this;have hpq4:=hpq.ext x24;have hbq4:=x24.at hbq;have ho4:=ho.ext x24;have hu4:SetsAt w4 (.slice ua ul uc) Z.1.2:=hu.ext x24;have hx4:=hx.trans x24;clear hpq;by_cases hZ:Z.2<0
   ·rw [if_pos hZ]at htr;rw [decide_eq_false (show ¬ (0≤Z.2) by omega)];refine_lift aT ?_;exact bodyPost_ret (results_tmp2 rfl _ _ _) rfl ⟨_,rfl,hx4, .slice none 0 0,by rw [← htr];rfl,by rw [← htr];exact Own.nil _ _ _ _⟩
   ·rw [if_neg hZ]at htr;rw [decide_eq_true (show 0≤Z.2 by omega)];refine_lift bU fun _ _=>?_;refine gY (XU Z.1.1 (.slice ua ul uc) Z.1.2 qj k _ hu4 hbz) ?_;rintro _ w5 x5 ⟨y,rfl,u1,u2,u3,rfl,g1,g2,g3⟩;refine aB ?_;have hsml:=LK (o:=Z.1.1) (l:=Z.1.2) (q:=qj) (k:=k);have hn0:=Bb Z.1.1 (.slice ua ul uc) k;generalize gW Z.1.1 Z.1.2 qj k=A at *;generalize nV Z.1.1 Z.1.2 qj=E at *;have hpz5:=hpz.ext x5;have hpq5:=hpq4.ext x5;have hbq5:=x5.at hbq4;have ho5:=ho4.ext x5;have hx5:=hx4.trans x5;clear hpz hpq4;refine_lift aT ?_;refine dX (z:=yD) fun w6 x6 s6 b6=>?_;refine aB ?_;refine dL (v:=.agg #[.int .i64 A.kind,u1,u2,u3]) b6 (gE rfl g1.one g2.one g3.one) fun w7 p7=>?_;have x67:=cJ x6 p7;have hpa:=aA (cs:=[.int .i64 A.kind,u1,u2,u3]) p7.this;have hpz7:=hpz5.ext x67;have hpq7:=hpq5.ext x67;have hbq7:=x67.at hbq5;have ho7:=ho5.ext x67;have hx7:=hx5.trans x67;have g7:=g1.ext x67;have z57:=x67.size;have z45:=x5.size;have z4:=hx4.size;clear hpz5 hpq5;by_cases hbad:E≠0∨A.kind=3∨A.kind=4
    ·rw [if_pos hbad]at htr
     (repeat' first|((with_reducible refine aZ ?_);go_step)|((with_reducible refine aS ?_);first|refine dN ?_|(refine bG ?_ ?_<;>intro hc))|fail)
     all_goals first
      | (exact bodyPost_ret (results_tmp2 rfl _ _ _) rfl ⟨_,rfl,hx7, .slice none 0 0,by rw [← htr];rfl,by rw [← htr];exact Own.nil _ _ _ _⟩)
      | (have hh:False:=by
          rcases hbad with h|h|h
          ·exact h (by simpa using ‹(!decide (E=0))=false›)
          ·exact absurd h (by assumption)
          ·exact absurd h (by assumption)
         exact hh.elim)
    ·rw [if_neg hbad]at htr;have hE:E=0:=Classical.not_not.1 fun h=>hbad (.inl h);have h3:¬ A.kind=3:=fun h=>hbad (.inr (.inl h));have h4:¬ A.kind=4:=fun h=>hbad (.inr (.inr h));obtain ⟨hal2,hdl⟩:=hsml hE;subst hE
     (repeat' first|((with_reducible refine aZ ?_);go_step)|((with_reducible refine aS ?_);first|refine dN ?_|(refine bG ?_ ?_<;>intro hc))|fail)
     all_goals first
      | (exact absurd (by assumption) h3)
      | (exact absurd (by assumption) h4)
      | skip
     have hlr:=aJ A.ans;have hla:=aJ all;refine bV (e:=37) (k:=4) rfl ho7 rfl g7.sl gN aC aC ?_;intro v8 w8 o8 m8 _;refine aB ?_;have b8:=m8.at p7.this (fun e=>by
      have:=(ho7.block _ e.symm);exact ho7.neBlock p7.this aK e.symm)
     have bz8:=m8.at (x67.at (x5.at p4.this)) (fun e=>ho7.neBlock (x67.at (x5.at p4.this)) aK e.symm);have bq8:=m8.at hbq7 (fun e=>ho7.neBlock hbq7 aK e.symm);have hx8:Ext w w8:=ho7.mvx m8 hx7 (Nat.le_refl _);have z24:=x24.size;have g8:=g7.mv m8 (g7.apart ho z24);have hpa8:=aA (cs:=[.int .i64 A.kind,u1,u2,u3]) b8;have hpz8:=aA (cs:=[aE Z.1.1, .slice ua ul uc]) bz8;have hpq8:=aA (cs:=[aE qj, .int .i64 k]) bq8;have hoa:aF all++aF A.ans=aF (all++A.ans):=by simp [aF]
     rw [hoa]at o8;have hal8:(all++A.ans).length≤5000*(j+1):=by rw [List.length_append];omega
     clear hpa hpz7 hpq7;refine_lift bU fun _ _=>?_;refine cB (hn0 u1 A.ans _ ⟨_,_,_,rfl⟩ g8.sl hdl) fun w9 x9=>?_;generalize rK Z.1.1 k A.ans=N at *;have hpa9:=hpa8.ext x9;have bq9:=x9.at bq8;have hx9:=hx8.trans x9;have o9:=o8.ext x9;clear hpa8 hpz8 hpq8;cases hN:N.2 with
     | true =>
      rw [if_pos hN]at htr;refine_lift jQ fun _=>?_;refine fA 0 (aE N.1) bq9 rfl fun w10 p10=>?_;refine_lift aT ?_;refine ⟨⟨j+1,N.1,all++A.ans,aC,by go_num,cJ hx9 p10,p10.this,eM o9 p10 bq9,hal8,?_⟩,by simp [intOf];omega⟩;rw [show 9 - (j+1)=f by omega];exact htr
     | false =>
      rw [if_neg (by rw [hN];simp)]at htr;by_cases h2:A.kind=2
      ·rw [if_pos h2]at htr;refine_lift bU fun _ _=>?_
       all_goals first
        | (exact bodyPost_ret (results_tmp2 rfl _ _ _) rfl ⟨_,rfl,hx9,v8,by rw [← htr];rfl,by rw [← htr];exact o9⟩)
        | (exact absurd h2 (by assumption))
      ·rw [if_neg h2]at htr;refine_lift bU fun _ _=>?_
       all_goals first
        | (exact absurd (by assumption) h2)
        | (exact bodyPost_ret (results_tmp2 rfl _ _ _) rfl ⟨_,rfl,hx9,v8,by rw [← htr];rfl,by rw [← htr];exact o9⟩)
  ·have hj9:j=9:=aC;subst hj9;refine_lift jQ fun _=>?_;exact bodyPost_ret (results_tmp2 rfl _ _ _) rfl ⟨_,rfl,hx, .slice none 0 0,by rw [← htr];rfl,by rw [← htr];exact Own.nil _ _ _ _⟩
theorem XC {wL:World} {M:NodeM} {S:NodeR} (h:NodeI wL w M S) (src now:Int) (s:List UInt8) (hs:s.length≤1000000) (c1:0≤src∧src≤99) (c2:0≤now∧now≤1099511627776) {m:MsgR} (hd:cP s=(m,0)) (hr:m.resp=false) (q:mU) (hop:m.op=0) (hqs:m.qs=[q]) (ok:AskOk S q now) :
 Calls Tryz.prog 40 #[.pointer (some ⟨M.nb,0,none⟩), .int .i64 src,aE s, .int .i64 now] w (JM wL w M (S.ask ⟨src,m.id,q.1⟩ q now) (S.C.l=[]∧S.tt=none) [M.tb,M.tm,M.mb]):=by
 refine MX h src now s hs c1 c2 hd fun w2 qv a u x hx hn hm=>?_;rw [if_neg (by rw [hr];simp)];refine (Dc hn src now m qv a u x hm.msg q hop hqs ok).mono ?_;rintro e w3 ⟨rfl,M',h1,h2,h3,h4,h5⟩;exact ⟨rfl,M',h1,h2,h3,fun hP=>⟨h5 hP.1 hP.2,fun h=>by cases h⟩,h4.size⟩
theorem MZ {wL:World} {M:NodeM} {S:NodeR} (h:NodeI wL w M S) (now:Int) (s:List UInt8) (hs:s.length≤1000000) {x:NTask} (hx:S.nt=some x) (c1:0≤x.to∧x.to≤99) (c2:0≤now∧now≤1099511627776) {m:MsgR} (hd:cP s=(m,0)) (hr:m.resp=true)
 {y:WaitR} (hy:S.tt=some y) (hn:y.n=x.n) {n:Nat} (hmt:JJ x.q m=true) (hB:TaskB x.t n) (hnn:n≤100000) (h1:m.an.length≤300) (h2:m.au.length≤300) (h3:m.ex.length≤300)
 (hd1:∀ z,∀ r∈x.t.of m.au z 2,r.data.length≤9223372036854775807) (hd2:∀ n,∀ r∈x.t.of m.ex n 1,r.data.length≤9223372036854775807) {t:TaskR} {ac:ActR} {ls:List LrnR} (hrp:x.t.reply m=(t,ac,ls)) (hk:ac.kind=1∨ac.kind=2∧ac.auth=[]) (hwt:0≤S.wt∧S.wt≤2147483647) (hst:S.sent≤1000000) (hl:y.l.length≤10)
 (hpo:tI S.C ls now=true) (hls:ls.length≤100000) :
 Calls Tryz.prog 40 #[.pointer (some ⟨M.nb,0,none⟩), .int .i64 x.to,aE s, .int .i64 now] w (JM wL w M (S.tolds x y t ac ls now) False []):=by
 refine MX h x.to now s hs c1 c2 hd fun w2 qv a u e hx2 hn2 hm=>?_;rw [if_pos hr];refine (WS hn2 hx hy hn m qv a u e hm hmt hB hnn h1 h2 h3 hd1 hd2 hrp hk hwt hst hl (by rw [h.out];simp) now c2.1 c2.2 hpo hls).mono ?_;rintro e w3 ⟨rfl,M',g1,g2,g3,g4⟩;exact ⟨rfl,M',g1,g2,g3,fun hP=>hP.elim,g4⟩
end Go.Proofs.X
