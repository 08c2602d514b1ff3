/- Laws and walks that the proof of the statement is made of (part 15). -/
import Derived.Test.YtfkckeaadnoeiaaGreatRows
import Derived.Test.YtfkckeaadnoeiaaGreatP14
set_option linter.unusedSimpArgs false
set_option linter.unusedVariables false
set_option maxRecDepth 100000
set_option maxHeartbeats 20000000
namespace Go.Proofs.X
open Go.RowKit
variable {cs:Array Value} {held:Bool} {qt:Int} {ps rs:List (List UInt8×Nat)} {ls:List (List UInt8)} {css css0 es:List (List Value)} {d l m n o qn s t x y z:List UInt8} {B a b base c e fuel i j k p q:Nat} {fz:Nat×Nat} {row:Option Nat} {r u v:Value} {w w' w0 w1 w2:World}
theorem Own.ko (h:Own B k e w v es) (hk:Ko w.heap.size w w') (he:e∉kT):Own B k e w' v es:=h.same fun r hr=>by
 obtain ⟨cur,fz,hq⟩:=h.type hr;rw [hq,hk r _ _ _ (Array.getElem?_eq_some_iff.1 hq).1 he hq]
theorem HeldV.mid {hm Bh Hn:Nat} {ss:List SrvR} (h:HeldV w hm Bh Hn ss) (h1:∀ es c,w.heap[hm]? = some (.map es c)→w'.heap[hm]? = some (.map es c)) (h2:Mid Bh Hn w w') (l1:Hn≤w.heap.size) (l2:Hn≤w'.heap.size):HeldV w' hm Bh Hn ss:=by
 obtain ⟨vs,g1,g2,g3⟩:=h;refine ⟨vs,g1.at h1,g2,fun i s v a b=>(g3 i s v a b).upper fun g e1 e2=>?_⟩;rw [cM l1]at e2;rw [← (kY l2).block g (by rw [cM l2];exact e2),h2 g e1 e2,(kY l1).block g (by rw [cM l1];exact e2)]
theorem HeldV.lo {n:Nat} {hm Bh Hn:Nat} {ss:List SrvR} (h:HeldV w hm Bh Hn ss) (hl:Lo n w w') (h1:hm<n) (h2:Hn≤n) (l1:Hn≤w.heap.size):HeldV w' hm Bh Hn ss :=
 h.mid (fun es c e=>by rw [hl.block hm (Array.getElem?_eq_some_iff.1 e).1 h1];exact e) (Mid.lo hl h2 l1) l1 (Nat.le_trans l1 hl.size)
theorem HeldV.get {hm Bh Hn:Nat} {ss:List SrvR} (h:HeldV w hm Bh Hn ss) (l1:Hn≤w.heap.size) {s:SrvR} (hi:ss[i]? = some s):∃ ents v,MapS CK w hm ents∧ents[i]? = some (.int .i64 s.node,v)∧HldsAt w v [s.held]∧((ss.map (·.node)).Nodup→ents.Pairwise (fun a b=>a.1≠b.1)):=by
 obtain ⟨vs,g1,g2,g3⟩:=h;have hl:=(List.getElem?_eq_some_iff.1 hi).1;have hv:vs[i]? = some (vs[i]'(aC)):=List.getElem?_eq_getElem aC;refine ⟨_,_,g1,?_,((g3 i s _ hi hv).ext (kY l1)).at,fun hn=>BS g2 hn⟩;unfold iT;have hz:(ss.zip vs)[i]? = some (s,vs[i]'(aC)):=List.getElem?_zip_eq_some.2 ⟨hi,hv⟩;rw [List.getElem?_map,hz];rfl
theorem TierW.ext {b0:Nat} {Y:TierM} {ss:List SrvR} {room now:Int} {S:NodeR} {ps:List jN} {pv hv:Value} (h:TierW b0 w Y ss room S ps pv hv now) (hx:Ext w w'):TierW b0 w' Y ss room S ps pv hv now:=by
 obtain ⟨wL,e,hn⟩:=h.nod;have hle:=h.le;exact ⟨h.b0,⟨hle.1,hle.2.1,hle.2.2.1,Nat.le_trans hle.2.2.2 hx.size⟩,hx.at h.blk,h.net.ext hx,⟨wL,e,hn.grow hx⟩,h.held.mid (fun _ _=>hx.at) (Mid.of hx aC) aC (by have:=hx.size;omega)⟩
def yJ (os:List wM):List jN:=os.map fun o=>(90,o.1,o.2)
theorem NA {tb nb:Nat} {rp mp hv:Value} {now room:Int} {pv:Value} {ps:List jN} (hb:w.heap[tb]? = some (.cells #[.pointer (some ⟨nb,0,none⟩),rp,mp,hv, .int .i64 now] 92 (0,0))) (hn:NetV B w nb 100 room pv ps) (hB:B≤w.heap.size) (htb:tb<B) {Bo:Nat} {os:List wM} (ho:Own Bo 2 175 w v (kO os)) (hos:∀ o∈os,(0≤o.1∧o.1≤99)∧1≤o.2.length∧o.2.length≤65535) (hroom:(ps.length:Int)+os.length≤room) (hr:room≤1000) :
 Calls Tryz.prog 39 #[.pointer (some ⟨tb,0,none⟩),v] w (fun e w'=>e=.returned (.tuple #[])∧∃ pv',NetV B w' nb 100 room pv' (ps++yJ os)∧Kf [147,107] [] w w'∧Lo B w w'):=by
 have sl:=ho.sl;have hlen:(kO os).length=os.length:=List.length_map ..;have hle:=sl.le;go_enter Tryz.func39,Tryz.ntmps39
 refine_lift jQ ?_;intro _;go_loopw [8] (fun iv wr=>∃ (k:Nat) (pv':Value),k≤os.length∧iv=.int .i64 k∧NetV B wr nb 100 room pv' (ps++yJ (os.take k))∧Kf [147,107] [] w wr∧Lo B w wr) (fun iv _=>os.length - (intOf iv).toNat)
 case atStart=>exact ⟨0,pv,Nat.zero_le _,rfl,by rw [show ps++yJ (os.take 0)=ps by simp [yJ]];exact hn,Kf.of (Ext.refl _),Lo.of (Ext.refl _)⟩
 case round =>
  obtain ⟨k,pv',hk,rfl,hN,hK,hL⟩:=hrel;have slr:=(ho.keep hK.keep aK).sl;have zr:=hL.size;by_cases hlt:k<os.length
  ·have hel:=slr.elem (show (kO os)[k]? = some [.int .i64 os[k].1,aE os[k].2] by simp [kO,hlt]);have hok:=hos _ (List.getElem_mem hlt);have htk:yJ (os.take (k+1))=yJ (os.take k) ++ [(90,os[k].1,os[k].2)]:=by
    unfold yJ;rw [List.take_succ_eq_append_getElem hlt,List.map_append];rfl
   have hpl:(ps++yJ (os.take k)).length=ps.length+k:=by simp [yJ];omega
   generalize os[k]=o at *;clear sl;refine_lift rR ?_;intro _ _ _ _ _ _;refine dX (z:=[.int .i64 0,aE []]) fun w1 x1 s1 b1=>?_;refine aB ?_;refine dL (v:=.agg #[.int .i64 o.1,aE o.2]) b1 (by simp [Value.cells,aE,Value.oneCell']) fun w2 p2=>?_;have x2:=cJ x1 p2;have hpo:=aA (cs:=[.int .i64 o.1,aE o.2]) p2.this;have hb2:=x2.at (hK.cells _ _ _ _ hb aK);have hpt:=aA (cs:=[.pointer (some ⟨nb,0,none⟩),rp,mp,hv, .int .i64 now]) hb2;clear hel;refine_lift XH ?_;refine aO 9 (Ext w2) zDk ?_;intro w3 x3 _;refine ⟨x3,?_⟩;refine cZ 0 ?_;refine cZ 1 ?_;refine cZ 2 ?_;refine bE 3 ?_;refine bE 4 ?_;refine bE 5 ?_;refine bE 6 ?_;refine bE 7 ?_;refine yB (i:=8) (v:=.agg #[.int .i64 90, .int .i64 o.1,aE o.2]) rfl rfl (fun _=>Runs.build (vals:=[(0, .int .i64 90),(1, .int .i64 o.1),(2,aE o.2)]) rfl (by kernel_rfl)) ?_;refine aB ?_;refine dH 9 ?_;have x23:=x2.trans x3;have z23:=x23.size;refine gS (LJ (hN.ext x23) aC (90,o.1,o.2) (by show (0:Int)≤90∧(90:Int)≤100 - 1;decide) (by show 0≤o.1∧o.1≤100 - 1;omega) hok.2 (by rw [hpl];omega) hr aK) ?_;rintro _ w4 ⟨rfl,pv4,n4,k4,l4,_⟩;refine ⟨_,rfl,?_⟩;refine aB ?_;refine aD ⟨aN rfl,?_⟩;refine jP ?_;refine_lift aT ?_;refine ⟨⟨k+1,pv4,aC,by go_num,?_,hK.trans ((Kf.of x23).trans k4),hL.trans ((Lo.of x23).trans l4)⟩,by simp [intOf];omega⟩;rw [htk,← List.append_assoc];exact n4
  ·have hkn:k=os.length:=aC;subst hkn;rw [List.take_length]at hN;refine_lift jQ fun _=>?_
   go_end0
   exact ⟨rfl,pv',hN,hK,hL⟩
theorem tK {b0:Nat} {Y:TierM} {ss:List SrvR} {room now:Int} {S S':NodeR} {p:jN} {pv hv:Value} (h:TierW b0 w Y ss room S [p] pv hv now) (hp:p.2.1=90) (hr:room≤1000) {Pr:Prop} {L:List Nat}
 (hH:∀ wL w',NodeI wL w' Y.M S→Calls Tryz.prog 40 #[.pointer (some ⟨Y.M.nb,0,none⟩), .int .i64 p.1,aE p.2.2, .int .i64 now] w' (JM wL w' Y.M S' Pr L))
 (hos:∀ o∈S'.out,(0≤o.1∧o.1≤99)∧1≤o.2.length∧o.2.length≤65535) (hroom:(S'.out.length:Int)≤room) :
 Calls Tryz.prog 17 #[.pointer (some ⟨Y.tb,0,none⟩), .int .i64 0] w (fun e w'=>e=.returned (.bool true)∧Lo b0 w w'∧∃ M' pv',TierW b0 w' { Y with M:=M' } ss room { S' with out:=[] } (yJ S'.out) pv' hv now):=by
 obtain ⟨q1,q2,q3⟩:=p;have hq:q2=90:=hp;subst hq;have hb:=h.blk;have hpt:=aA (cs:=[.pointer (some ⟨Y.nb,0,none⟩), .pointer (some ⟨Y.M.nb,0,none⟩), .map (some Y.hm),hv, .int .i64 now]) hb;obtain ⟨l1,l2,l3,l4⟩:=h.le;obtain ⟨d1,d2,d3,d4⟩:=h.b0;obtain ⟨wL,eL,hN⟩:=h.nod;go_enter Tryz.func17,Tryz.ntmps17
 refine_lift lQ ?_;intro _ _ _;refine gS (GK h.net aC) ?_;rintro _ w1 ⟨rfl,pv1,n1,k1,lo1,_⟩;refine ⟨_,rfl,?_⟩;refine aB ?_;have z1:=lo1.size;have b1:=k1.cells _ _ _ _ hb aK;refine_lift aT ?_;refine dX (z:=lH) fun w2 x2 s2 b2=>?_;refine aB ?_;refine dL (v:=.agg #[.int .i64 q1, .int .i64 90,aE q3]) b2 (by simp [Value.cells,aE,Value.oneCell']) fun w3 p3=>?_;have x13:=cJ x2 p3;have hpp:=aA (cs:=[.int .i64 q1, .int .i64 90,aE q3]) p3.this;have hpt3:=aA (cs:=[.pointer (some ⟨Y.nb,0,none⟩), .pointer (some ⟨Y.M.nb,0,none⟩), .map (some Y.hm),hv, .int .i64 now]) (x13.at b1);clear hpt;refine_lift bU fun _ _=>?_;have hN1:=hN.kf (T:=[147,107]) k1 aK z1;rw [eL]at hN1;have hH1:=h.held.lo lo1 aC (Nat.le_refl _) aC;have z13:=x13.size;refine aO 13 (Ext w3) zDk ?_;intro w4 x4 _;refine ⟨x4,?_⟩;refine cZ 0 ?_;refine cZ 1 ?_;refine cZ 2 ?_;refine cZ 3 ?_;refine bE 4 ?_;refine bE 5 ?_;refine bE 6 ?_;refine bE 7 ?_;refine bE 8 ?_;refine cZ 9 ?_;refine cZ 10 ?_;refine cZ 11 ?_;refine bE 12 ?_;refine dH 13 ?_;have x14:=x13.trans x4;have z4:=x14.size;have hN4:=(hN1.grow x14).here;rw [cM aC]at hN4;refine gS (hH _ _ hN4) ?_;rintro _ w5 ⟨r,M',rfl,nM,hN5,o5,ko5,_,z5⟩;refine ⟨_,rfl,?_⟩;refine aB ?_;refine aD ⟨aN rfl,?_⟩;have lo5:Lo Y.L w4 w5:=Lo.cut hN5.w.ext aC z5;have b4:=x14.at b1;have b5:w5.heap[Y.tb]? = some (.cells #[.pointer (some ⟨Y.nb,0,none⟩), .pointer (some ⟨Y.M.nb,0,none⟩), .map (some Y.hm),hv, .int .i64 now] 92 (0,0)):=by
  rw [lo5.block _ (Array.getElem?_eq_some_iff.1 b4).1 aC];exact b4
 have n4:=n1.ext x14;have n5:NetV Y.Hn w5 Y.nb 100 room pv1 []:=⟨n4.ge,by rw [lo5.block _ (Array.getElem?_eq_some_iff.1 n4.blk).1 l3];exact n4.blk,n4.row.ko ko5 aK⟩;refine dH 14 ?_;refine gS (NA (ps:=[]) b5 n5 aC aC o5 hos (by simpa using hroom) hr) ?_;rintro _ w6 ⟨rfl,pv6,n6,k6,lo6⟩;refine ⟨_,rfl,?_⟩;refine aB ?_;refine aD ⟨aN rfl,?_⟩;refine jP ?_;refine_lift aT ?_;go_ret;have z6:=lo6.size;have hH4:=hH1.mid (w':=w4) (fun _ _=>x14.at) (Mid.of x14 aC) aC aC;have hH6:=(hH4.lo lo5 aC aC aC).lo lo6 aC (Nat.le_refl _) aC;have hN6:=hN5.kf (T:=[147,107]) k6 aK z6;have eN:(yI w4 Y.L).heap.size=Y.L:=cM aC;rw [eN]at hN6;have hlo:Lo b0 w w6:=(lo1.mono aC).trans ((Lo.of x14).trans ((lo5.mono aC).trans (lo6.mono aC)));refine ⟨rfl,hlo,M',pv6,h.b0,⟨l1,l2,l3,by dsimp only;omega⟩,?_,n6,⟨_,cM (w:=w6) (n:=Y.L) aC,hN6⟩,hH6⟩;have:=k6.cells _ _ _ _ b5 aK;dsimp only;rw [nM];exact this
theorem BU {b0:Nat} {Y:TierM} {ss:List SrvR} {room now:Int} {S:NodeR} {p:jN} {pv hv:Value} (h:TierW b0 w Y ss room S [p] pv hv now) (ok:SrvOk ss) {s:SrvR} (hi:ss[i]? = some s) (hp:p.2.1=s.node) (hf:0≤p.1∧p.1≤99) (hr:1≤room∧room≤1000) (hl:p.2.2.length≤1000000) {b:List UInt8} (hs:iN [s.held] p.2.2 false=(b,true)) (hb:1≤b.length∧b.length≤65535) :
 Calls Tryz.prog 17 #[.pointer (some ⟨Y.tb,0,none⟩), .int .i64 0] w (fun e w'=>e=.returned (.bool true)∧Lo b0 w w'∧∃ pv',TierW b0 w' Y ss room S [(p.2.1,p.1,b)] pv' hv now):=by
 obtain ⟨q1,q2,q3⟩:=p;have hq:q2=s.node:=hp;subst hq;have hnd:=ok.node s (List.mem_of_getElem? hi);have hsm:=ok.small s (List.mem_of_getElem? hi);have hblk:=h.blk;obtain ⟨l1,l2,l3,l4⟩:=h.le;obtain ⟨d1,d2,d3,d4⟩:=h.b0;obtain ⟨wL,eL,hN⟩:=h.nod;have htm:eI Tryz.prog 88 3 93=true:=zDk;have hzv:∀ w,(zeroValue 93).run Tryz.prog w=.ok (.slice none 0 0) w:=fun w=>by kernel_rfl
 have g90:¬ s.node=90:=aC;have g91:¬ s.node=91:=aC;go_enter Tryz.func17,Tryz.ntmps17
 have hpt:=aA (cs:=[.pointer (some ⟨Y.nb,0,none⟩), .pointer (some ⟨Y.M.nb,0,none⟩), .map (some Y.hm),hv, .int .i64 now]) hblk;refine_lift lQ ?_;intro _ _ _;refine gS (GK h.net aC) ?_;rintro _ w1 ⟨rfl,pv1,n1,k1,lo1,_⟩;refine ⟨_,rfl,?_⟩;refine aB ?_;have z1:=lo1.size;have b1:=k1.cells _ _ _ _ hblk aK;refine_lift aT ?_;refine dX (z:=lH) fun w2 x2 s2 b2=>?_;refine aB ?_;refine dL (v:=.agg #[.int .i64 q1, .int .i64 s.node,aE q3]) b2 (by simp [Value.cells,aE,Value.oneCell']) fun w3 p3=>?_;have x13:=cJ x2 p3;have hpp:=aA (cs:=[.int .i64 q1, .int .i64 s.node,aE q3]) p3.this;have hpt3:=aA (cs:=[.pointer (some ⟨Y.nb,0,none⟩), .pointer (some ⟨Y.M.nb,0,none⟩), .map (some Y.hm),hv, .int .i64 now]) (x13.at b1);have hN1:=hN.kf (T:=[147,107]) k1 aK z1;rw [eL]at hN1;have hH1:=h.held.lo lo1 aC (Nat.le_refl _) aC;obtain ⟨ents,hvv,m1,e1,hld,hun⟩:=hH1.get aC hi;have m3:=m1.ext x13;clear hpt;refine_lift rR fun _ _ _ _ _ _=>?_;refine dA zDk zDk ?_;refine_lift vO ?_;refine fL (v:=.tuple #[hvv, .bool true]) (fun w' x'=>Runs.lookup rfl rfl (eU (i:=i) kN htm hzv (m3.ext x') ⟨_,rfl⟩ e1 (hun ok.two) true)) ?_;refine aB ?_;refine_lift vO ?_;intro w4 x4;have hpp4:=hpp.ext x4;have x14:=x13.trans x4;clear hpt3 hpp;refine_lift bU fun _ _=>?_;refine cB (WT hvv [s.held] q3 false _ (hld.ext x14) aX (fun x hx y hy=>hsm.2 y (by rw [List.mem_singleton.1 hx]at hy;exact hy)) hl) fun w5 x5=>?_;rw [hs];have hpp5:=hpp4.ext x5;have x15:=x14.trans x5;have hpt5:=aA (cs:=[.pointer (some ⟨Y.nb,0,none⟩), .pointer (some ⟨Y.M.nb,0,none⟩), .map (some Y.hm),hv, .int .i64 now]) (x15.at b1);clear hpp4;refine_lift jQ fun _=>?_;refine aO 10 (Ext w5) zDk ?_;intro w6 x6 _;refine ⟨x6,?_⟩;refine cZ 0 ?_;refine cZ 1 ?_;refine cZ 2 ?_;refine bE 3 ?_;refine bE 4 ?_;refine bE 5 ?_;refine bE 6 ?_;refine bE 7 ?_;refine cZ 8 ?_;refine yB (i:=9) (v:=.agg #[.int .i64 s.node, .int .i64 q1,aE b]) rfl rfl (fun _=>Runs.build (vals:=[(0, .int .i64 s.node),(1, .int .i64 q1),(2,aE b)]) rfl (by kernel_rfl)) ?_;refine aB ?_;refine dH 10 ?_;have x16:=x15.trans x6;have z6:=x16.size;refine gS (LJ (n1.ext x16) aC (s.node,q1,b) (by show 0≤s.node∧s.node≤100 - 1;omega) (by show 0≤q1∧q1≤100 - 1;omega) hb (by show ((0:Nat):Int)<room;omega) hr.2 aK) ?_;rintro _ w7 ⟨rfl,pv7,n7,k7,lo7,_⟩;refine ⟨_,rfl,?_⟩;refine aB ?_;refine aD ⟨aN rfl,?_⟩;refine jP ?_;refine_lift aT ?_;go_ret;have z7:=lo7.size;have hH6:=hH1.mid (w':=w6) (fun _ _=>x16.at) (Mid.of x16 aC) aC aC;have hH7:=hH6.lo lo7 aC (Nat.le_refl _) aC;have hN7:=(hN1.grow x16).kf (T:=[147,107]) k7 aK z7;rw [cM aC]at hN7;have hlo:Lo b0 w w7:=(lo1.mono aC).trans ((Lo.of x16).trans (lo7.mono aC));exact ⟨rfl,hlo,pv7,h.b0,⟨l1,l2,l3,aC⟩,k7.cells _ _ _ _ (x16.at b1) aK,n7,⟨_,cM (w:=w7) (n:=Y.L) aC,hN7⟩,hH7⟩
theorem LM {b0:Nat} {Y:TierM} {ss:List SrvR} {room now:Int} {S:NodeR} {pv hv:Value} (h:TierW b0 w Y ss room S [] pv hv now) (i:Int):Calls Tryz.prog 17 #[.pointer (some ⟨Y.tb,0,none⟩), .int .i64 i] w (bC w (.bool false)):=by
 have hpt:=aA (cs:=[.pointer (some ⟨Y.nb,0,none⟩), .pointer (some ⟨Y.M.nb,0,none⟩), .map (some Y.hm),hv, .int .i64 now]) h.blk;go_enter Tryz.func17,Tryz.ntmps17
 refine_lift bU fun _ _=>?_;refine cB (WY h.net i) fun w1 x1=>?_;refine_lift aT ?_;refine dX (z:=lH) fun w2 x2 s2 b2=>?_;refine aB ?_;refine dL (v:=.agg lH.toArray) b2 (by simp [lH,Value.cells,aE,Value.oneCell']) fun w3 p3=>?_;refine_lift aT ?_;go_ret;exact ⟨rfl,x1.trans (cJ x2 p3)⟩
theorem UC (v:Value) (css:List (List Value)) (w:World) (hv:Sl 13 w v css) (h1:∀ f∈css,∀ u∈f,u.oneCell'=true) (hl:css.length≤1000000):Calls Tryz.prog 43 #[v] w (kZ w fun v' w'=>Own w.heap.size 13 54 w' v' css):=by
 go_enter Tryz.func43,Tryz.ntmps43
 (repeat' first|((with_reducible refine aZ ?_);go_step)|((with_reducible refine aS ?_);first|refine dN ?_|(refine bG ?_ ?_<;>intro hc))|fail)
 ·have hn:=‹wS v=true›;go_ret;have:css=[]:=hv.isNil hn;refine ⟨_,rfl,Ext.refl _,?_⟩;rw [this];exact Own.nil _ _ _ _
 ·refine kE (t:=50) (e:=54) (k:=13) (bytes:=144) zDk rfl ?_;intro v2 w2 x2 s2 o2;refine aB ?_;refine_lift aT ?_;refine bV (B:=w.heap.size) (e:=54) rfl o2 rfl (hv.ext x2) h1 x2.size (by simp;omega) ?_;intro v3 w3 o3 m3 _;have x3:=o2.mvx m3 x2 (Nat.le_refl _);refine aB ?_;refine_lift aT ?_;go_ret;exact ⟨_,rfl,x3,by simpa using o3⟩
theorem UD {b0:Nat} {Y:TierM} {ss:List SrvR} {room now:Int} {S:NodeR} {ps:List jN} {pv hv:Value} (h:TierW b0 w Y ss room S ps pv hv now) {m:MsgR} {q a x:Value} (hh:Sl 13 w hv [aP m q a u x]) (hm:MsgV w m q a u x) (h1:m.qs.length≤1000000) (h2:m.an.length≤1000000) (h3:m.au.length≤1000000) (h4:m.ex.length≤1000000):Calls Tryz.prog 18 #[.pointer (some ⟨Y.tb,0,none⟩)] w (kZ w fun r w'=>∃ q' a' u' x' B,Own B 13 54 w' r [aP m q' a' u' x']∧MsgW B w' m q' a' u' x'):=by
 have hpt:=aA (cs:=[.pointer (some ⟨Y.nb,0,none⟩), .pointer (some ⟨Y.M.nb,0,none⟩), .map (some Y.hm),hv, .int .i64 now]) h.blk;go_enter Tryz.func18,Tryz.ntmps18
 refine_lift lQ ?_;intro _ _ _;refine gY (UC hv [aP m q a u x] _ hh (by
  intro f hf v hv;rw [List.mem_singleton.1 hf]at hv;exact List.all_eq_true.1 (by simpa [Value.cells]using dR hm) v hv) aX) fun v1 w1 x1 o1=>?_
 refine aB ?_;have sl1:=o1.sl;have hl1:([aP m q a u x]:List (List Value)).length=1:=rfl;refine_lift bU fun _ _=>?_;go_loopw [15] (fun iv wr=>(iv=.int .i64 0∧wr=w1)∨(iv=.int .i64 1∧Ext w wr∧∃ q' a' u' x',Own w.heap.size 13 54 wr v1 [aP m q' a' u' x']∧MsgW w.heap.size wr m q' a' u' x')) (fun iv _=>1 - (intOf iv).toNat)
 case atStart=>exact .inl ⟨rfl,rfl⟩
 case round =>
  rcases hrel with ⟨rfl,rfl⟩|⟨rfl,hx,q',a',u',x',o9,m9⟩
  ·have hel:=sl1.elem (i:=0) rfl;unfold aP at hel;refine_lift rR ?_;intro _ _ _ _ _ _;refine dX (z:=iW) fun w2 x2 s2 b2=>?_;refine aB ?_;refine_lift aT ?_;have hm2:=(hm.ext x1).ext x2;refine dL (v:=.agg (aP m q a u x).toArray) b2 (dR hm2) fun w3 p3=>?_;have x13:=cJ x2 p3;have hpm:=aA (cs:=aP m q a u x) p3.this;unfold aP at hpm;have o3:=o1.ext x13;have hm3:=(hm.ext x1).ext x13;clear hel sl1;refine_lift bU fun _ _=>?_;have hlt:v1.ownBlock=some wr.heap.size→False:=fun hr=>by have:=(o1.block _ hr).2;omega
   have hge:∀ k,v1.ownBlock=some k→w.heap.size≤k:=fun k hk=>(o1.block k hk).1;refine aO 15 (fun w'=>Pts w' (.pointer (some ⟨wr.heap.size,0,none⟩)) (aP m q a u x)∧∃ e,Sl 13 w' v1 [e]) zDk ?_;intro y0 yx0 _;have yb0:=yx0.at p3.this;have yo0:=o3.ext yx0;refine ⟨⟨aA (cs:=aP m q a u x) yb0,_,yo0.sl⟩,?_⟩;refine cZ 0 ?_;refine cZ 1 ?_;refine cZ 2 ?_;refine cZ 3 ?_;refine cZ 4 ?_;refine oE (i:=5) (v:=q) rfl rfl (fun w' hF=>by obtain ⟨hF,_⟩:=hF;unfold aP at hF;exact vM) ?_;refine aB ?_;refine cZ 7 ?_;refine oE (i:=8) (v:=a) rfl rfl (fun w' hF=>by obtain ⟨hF,_⟩:=hF;unfold aP at hF;exact vM) ?_;refine aB ?_;refine dH 6 ?_;refine gY (BK q m.qs _ (hm3.qs.ext yx0) h1) fun yv1 y1 yx1 yr1=>?_;refine aB ?_;have yb1:=yx1.at yb0;have yo1:=yo0.ext yx1;have yx01:=yx0.trans yx1;refine aD ⟨aR ⟨aA (cs:=aP m q a u x) yb1,_,yo1.sl⟩,?_⟩;refine dH 9 ?_;refine gY (jJ a m.an _ (hm3.an.ext yx01) h2) fun yv2 y2 yx2 yr2=>?_;refine aB ?_;have yb2:=yx2.at yb1;have yo2:=yo1.ext yx2;have yx02:=yx01.trans yx2;refine aD ⟨aR ⟨aA (cs:=aP m q a u x) yb2,_,yo2.sl⟩,?_⟩;refine oE (i:=10) (v:=cC v1 ((0:Int).toNat*13)) rfl rfl (fun w' hF=>by obtain ⟨_,e,hs⟩:=hF;exact Runs.idxTI (n:=0) rfl hs aK (by show (0:Int).toNat<1;decide) zDk) ?_;refine aB ?_;refine oE (i:=11) (v:=aV (cC v1 ((0:Int).toNat*13)) 8) rfl rfl (fun w' hF=>by obtain ⟨_,e,hs⟩:=hF;exact Runs.fieldTn (hs.elem (i:=0) rfl) zDk) ?_;refine aB ?_;refine dH 12 ?_;refine kW (i:=0) (j:=8) (c:=yv1) rfl rfl rfl yo2 rfl aK zDk yr1.one ?_;intro y3 yo3 ym3;have yb3:=ym3.at yb2 (fun e=>hlt e.symm);refine aD ⟨aR ⟨aA (cs:=aP m q a u x) yb3,_,yo3.sl⟩,?_⟩;refine oE (i:=13) (v:=cC v1 ((0:Int).toNat*13)) rfl rfl (fun w' hF=>by obtain ⟨_,e,hs⟩:=hF;exact Runs.idxTI (n:=0) rfl hs aK (by show (0:Int).toNat<1;decide) zDk) ?_;refine aB ?_;refine oE (i:=14) (v:=aV (cC v1 ((0:Int).toNat*13)) 9) rfl rfl (fun w' hF=>by obtain ⟨_,e,hs⟩:=hF;exact Runs.fieldTn (hs.elem (i:=0) rfl) zDk) ?_;refine aB ?_;refine dH 15 ?_;refine kW (i:=0) (j:=9) (c:=yv2) rfl rfl rfl yo3 rfl aK zDk yr2.one ?_;intro y4 yo4 ym4;have yb4:=ym4.at yb3 (fun e=>hlt e.symm);refine aD ⟨aN rfl,?_⟩;refine jP ?_;have yz1:=yx1.size;have yz02:=yx02.size;have yxx:Ext w y4:=(((x1.trans x13).trans yx02).move ym3 hge).move ym4 hge;have hm4:MsgV y4 m q a u x:=hm.ext yxx;have yq:Own w.heap.size 2 25 y4 yv1 (cV m.qs):=((((yr1.ext yx2).mv ym3 ((yr1.ext yx2).ne yo2 aK)).mv ym4 (((yr1.ext yx2).mv ym3 ((yr1.ext yx2).ne yo2 aK)).ne yo3 aK))).weaken (by have:=(x1.trans x13).size;have:=yx0.size;omega);have ya:Own w.heap.size 4 37 y4 yv2 (aF m.an):=((yr2.mv ym3 (yr2.ne yo2 aK)).mv ym4 ((yr2.mv ym3 (yr2.ne yo2 aK)).ne yo3 aK)).weaken (by have:=(x1.trans x13).size;have:=yx01.size;omega);refine_lift aT ?_;refine aO 15 (fun w'=>Pts w' (.pointer (some ⟨wr.heap.size,0,none⟩)) (aP m q a u x)∧∃ e,Sl 13 w' v1 [e]) zDk ?_;intro t0 tx0 _;have tb0:=tx0.at yb4;have to0:=yo4.ext tx0;refine ⟨⟨aA (cs:=aP m q a u x) tb0,_,to0.sl⟩,?_⟩;refine cZ 0 ?_;refine cZ 1 ?_;refine cZ 2 ?_;refine cZ 3 ?_;refine cZ 4 ?_;refine oE (i:=5) (v:=u) rfl rfl (fun w' hF=>by obtain ⟨hF,_⟩:=hF;unfold aP at hF;exact vM) ?_;refine aB ?_;refine cZ 7 ?_;refine oE (i:=8) (v:=x) rfl rfl (fun w' hF=>by obtain ⟨hF,_⟩:=hF;unfold aP at hF;exact vM) ?_;refine aB ?_;refine dH 6 ?_;refine gY (jJ u m.au _ (hm4.au.ext tx0) h3) fun tv1 t1 tx1 tr1=>?_;refine aB ?_;have tb1:=tx1.at tb0;have to1:=to0.ext tx1;have tx01:=tx0.trans tx1;refine aD ⟨aR ⟨aA (cs:=aP m q a u x) tb1,_,to1.sl⟩,?_⟩;refine dH 9 ?_;refine gY (jJ x m.ex _ (hm4.ex.ext tx01) h4) fun tv2 t2 tx2 tr2=>?_;refine aB ?_;have tb2:=tx2.at tb1;have to2:=to1.ext tx2;have tx02:=tx01.trans tx2;refine aD ⟨aR ⟨aA (cs:=aP m q a u x) tb2,_,to2.sl⟩,?_⟩;refine oE (i:=10) (v:=cC v1 ((0:Int).toNat*13)) rfl rfl (fun w' hF=>by obtain ⟨_,e,hs⟩:=hF;exact Runs.idxTI (n:=0) rfl hs aK (by show (0:Int).toNat<1;decide) zDk) ?_;refine aB ?_;refine oE (i:=11) (v:=aV (cC v1 ((0:Int).toNat*13)) 10) rfl rfl (fun w' hF=>by obtain ⟨_,e,hs⟩:=hF;exact Runs.fieldTn (hs.elem (i:=0) rfl) zDk) ?_;refine aB ?_;refine dH 12 ?_;refine kW (i:=0) (j:=10) (c:=tv1) rfl rfl rfl to2 rfl aK zDk tr1.one ?_;intro t3 to3 tm3;have tb3:=tm3.at tb2 (fun e=>hlt e.symm);refine aD ⟨aR ⟨aA (cs:=aP m q a u x) tb3,_,to3.sl⟩,?_⟩;refine oE (i:=13) (v:=cC v1 ((0:Int).toNat*13)) rfl rfl (fun w' hF=>by obtain ⟨_,e,hs⟩:=hF;exact Runs.idxTI (n:=0) rfl hs aK (by show (0:Int).toNat<1;decide) zDk) ?_;refine aB ?_;refine oE (i:=14) (v:=aV (cC v1 ((0:Int).toNat*13)) 11) rfl rfl (fun w' hF=>by obtain ⟨_,e,hs⟩:=hF;exact Runs.fieldTn (hs.elem (i:=0) rfl) zDk) ?_;refine aB ?_;refine dH 15 ?_;refine kW (i:=0) (j:=11) (c:=tv2) rfl rfl rfl to3 rfl aK zDk tr2.one ?_;intro t4 to4 tm4;have tb4:=tm4.at tb3 (fun e=>hlt e.symm);refine aD ⟨aN rfl,?_⟩;refine jP ?_;have tz1:=tx1.size;have tz02:=tx02.size;have txx:Ext w t4:=((yxx.trans tx02).move tm3 hge).move tm4 hge;have tq:=((((yq.ext tx02).mv tm3 ((yq.ext tx02).ne to2 aK)).mv tm4 (((yq.ext tx02).mv tm3 ((yq.ext tx02).ne to2 aK)).ne to3 aK)));have ta:=((((ya.ext tx02).mv tm3 ((ya.ext tx02).ne to2 aK)).mv tm4 (((ya.ext tx02).mv tm3 ((ya.ext tx02).ne to2 aK)).ne to3 aK)));have tu:Own w.heap.size 4 37 t4 tv1 (aF m.au):=((((tr1.ext tx2).mv tm3 ((tr1.ext tx2).ne to2 aK)).mv tm4 (((tr1.ext tx2).mv tm3 ((tr1.ext tx2).ne to2 aK)).ne to3 aK))).weaken (by have:=yxx.size;have:=tx0.size;omega);have te:Own w.heap.size 4 37 t4 tv2 (aF m.ex):=((tr2.mv tm3 (tr2.ne to2 aK)).mv tm4 ((tr2.mv tm3 (tr2.ne to2 aK)).ne to3 aK)).weaken (by have:=yxx.size;have:=tx01.size;omega);refine_lift aT ?_;exact ⟨.inr ⟨rfl,txx,yv1,yv2,tv1,tv2,to4,tq,ta,tu,te⟩,by simp [intOf]⟩
  ·refine_lift jQ fun _=>?_;go_ret;exact ⟨_,rfl,hx,q',a',u',x',_,o9,m9⟩
theorem UE (w:World):Calls Tryz.prog 15 #[] w (kZ w fun r w'=>∃ a,r=.agg #[a, .int .i64 20, .int .i64 50, .int .i64 1000, .int .i64 5]∧(∃ b n c,a=.slice b n c)∧Sl 1 w' a (bO [0])):=by
 go_enter Tryz.func15,Tryz.ntmps15
 refine_lift lQ ?_;intro _ _ _;refine dX (z:=[.slice none 0 0, .int .i64 0, .int .i64 0, .int .i64 0, .int .i64 0]) fun w1 x1 s1 b1=>?_;refine aB ?_;refine_lift bU fun _ _=>?_;refine oD (e:=3) (k:=1) (bytes:=8) (xs:=[.int .i64 0]) (by simp [Value.cells]) fun v2 w2 x2 _ sl2 o2=>?_;refine aB ?_;obtain ⟨ad2,cap2,rfl⟩:∃ a n,v2=.slice a 1 n:=by
  obtain ⟨a,n,e,_⟩:=sl2;exact ⟨a,n,e⟩
 refine aG (v:=.agg #[.slice ad2 1 cap2, .int .i64 20, .int .i64 50, .int .i64 1000, .int .i64 5]) (Runs.build (vals:=[(0, .slice ad2 1 cap2),(1, .int .i64 20),(2, .int .i64 50),(3, .int .i64 1000),(4, .int .i64 5)]) rfl (by kernel_rfl)) ?_;refine aB ?_;refine dL (v:=.agg #[.slice ad2 1 cap2, .int .i64 20, .int .i64 50, .int .i64 1000, .int .i64 5]) (x2.at b1) (by simp [Value.cells,Value.oneCell']) fun w3 p3=>?_;refine_lift aT ?_;refine JR (cs:=[.slice ad2 1 cap2, .int .i64 20, .int .i64 50, .int .i64 1000, .int .i64 5]) p3.this ⟨_,rfl,cJ (x1.trans x2) p3,_,rfl,⟨_,_,_,rfl⟩,?_⟩;exact (o2.mv p3.mv (.inr fun e=>by have:=(o2.block _ e).1;omega)).sl
theorem tL (l:List Rec):(l.map kK).map (fun x=>x.cells.toList)=aF l:=by
 simp [aF,kK,Rec.cells,Value.cells]
def CM (l:List Rec):List SrvR:=[⟨0,gC [] BQ,Bw⟩,⟨1,gC [1,97] (qF l),Bx l⟩]
theorem Dy (v:Value) (l:List Rec) (w:World) (hv:Sl 4 w v (aF l)) (hl:l.length≤5000) (hd:∀ r∈l,r.data.length≤4611686018427387904) :
 Calls Tryz.prog 13 #[v] w (kZ w fun r w'=>∃ u,r=.tuple #[u, .bool (decide (jT [1,97] (qF l)=0))]∧SrvsAt w' u (CM l)):=by
 have hlen:=aJ l;go_enter Tryz.func13,Tryz.ntmps13
 refine_lift lQ ?_;intro _ _ _;refine aG (v:=kK ⟨[],6,9,PG⟩) (Runs.build (vals:=[(1, .int .i64 6),(2, .int .i64 9),(3,aE PG)]) rfl (by kernel_rfl)) ?_;refine aB ?_;refine aG (v:=kK ⟨[],2,9,[1,114,0]⟩) (Runs.build (vals:=[(1, .int .i64 2),(2, .int .i64 9),(3,aE [1,114,0])]) rfl (by kernel_rfl)) ?_;refine aB ?_;refine aG (v:=kK ⟨[1,97],2,9,[1,110,1,97,0]⟩) (Runs.build (vals:=[(0,aE [1,97]),(1, .int .i64 2),(2, .int .i64 9),(3,aE [1,110,1,97,0])]) rfl (by kernel_rfl)) ?_;refine aB ?_;refine aG (v:=kK ⟨[1,110,1,97],1,9,[10,0,0,1]⟩) (Runs.build (vals:=[(0,aE [1,110,1,97]),(1, .int .i64 1),(2, .int .i64 9),(3,aE [10,0,0,1])]) rfl (by kernel_rfl)) ?_;refine aB ?_;refine oD (e:=37) (k:=4) (bytes:=48) (xs:=BQ.map kK) (by
  intro x hx;obtain ⟨r,_,rfl⟩:=List.mem_map.1 hx;simp [kK,Value.cells]) (fun v1 w1 x1 _ sl1 _=>?_) (hk2:=by decide)
 refine aB ?_;rw [tL]at sl1;refine gY (RA [] v1 BQ _ sl1 aK aK) ?_;rintro _ w2 x2 ⟨u2,rfl,hs2⟩;refine aB ?_;rw [Di];obtain ⟨ua,ul,uc,hu2⟩:∃ a n c,u2=.slice a n c:=by
  obtain ⟨_,g,_⟩:=hs2.sets.sl;obtain ⟨a,c,e,_⟩:=g;exact ⟨_,_,_,e⟩
 subst hu2;have hs2:SetsAt w2 (.slice ua ul uc) Bw:=hs2.sets;refine_lift aT ?_;refine dX (z:=iQ) fun w3 x3 s3 b3=>?_;refine aB ?_;refine dL (v:=.agg #[aE (gC [] BQ), .slice ua ul uc]) b3 (by simp [Value.cells,aE,Value.oneCell']) fun w4 p4=>?_;have x34:=cJ x3 p4;have x04:=x1.trans (x2.trans x34);have b4:=p4.this;refine_lift bU fun _ _=>?_;refine aG (v:=kK ⟨[1,97],6,9,PG⟩) (Runs.build (vals:=[(0,aE [1,97]),(1, .int .i64 6),(2, .int .i64 9),(3,aE PG)]) rfl (by kernel_rfl)) ?_;refine aB ?_;refine aG (v:=kK ⟨[1,97],2,9,[1,110,1,97,0]⟩) (Runs.build (vals:=[(0,aE [1,97]),(1, .int .i64 2),(2, .int .i64 9),(3,aE [1,110,1,97,0])]) rfl (by kernel_rfl)) ?_;refine aB ?_;refine aG (v:=kK ⟨[1,110,1,97],1,9,[10,0,0,1]⟩) (Runs.build (vals:=[(0,aE [1,110,1,97]),(1, .int .i64 1),(2, .int .i64 9),(3,aE [10,0,0,1])]) rfl (by kernel_rfl)) ?_;refine aB ?_;refine oD (e:=37) (k:=4) (bytes:=48) (xs:=(qF []).map kK) (by
  intro x hx;obtain ⟨r,_,rfl⟩:=List.mem_map.1 hx;simp [kK,Value.cells]) (fun v5 w5 x5 _ _ o5=>?_) (hk2:=by decide)
 refine aB ?_;rw [tL]at o5;have x05:=x04.trans x5;refine_lift bU fun _ _=>?_;have z5:=x05.size;have hl3:(aF (qF [])).length=3:=rfl;refine bV (B:=w4.heap.size) (e:=37) (k:=4) rfl o5 rfl (hv.ext x05) gN x5.size aC ?_;intro v6 w6 o6 m6 _;refine aB ?_;have x6:Ext w4 w6:=o5.mvx m6 x5 (Nat.le_refl _);have e6:aF (qF [])++aF l=aF (qF l):=by simp [aF,qF]
 rw [e6]at o6;have b6:=x6.at b4;refine_lift bU fun _ _=>?_;refine gY (RA [1,97] v6 (qF l) _ o6.sl (by simp [qF];omega) (by
  intro r hr;rcases List.mem_append.1 hr with hr|hr
  ·exact (show ∀ r∈qF [],r.data.length≤4611686018427387904 by decide) r (List.mem_append_left _ hr)
  ·exact hd r hr)) ?_
 rintro _ w7 x7 ⟨u7,rfl,hs7⟩;refine aB ?_;obtain ⟨va,vl,vc,hu7⟩:∃ a n c,u7=.slice a n c:=by
  obtain ⟨_,g,_⟩:=hs7.sets.sl;obtain ⟨a,c,e,_⟩:=g;exact ⟨_,_,_,e⟩
 subst hu7;have hs7:SetsAt w7 (.slice va vl vc) (Bx l):=hs7.sets;refine_lift aT ?_;refine dX (z:=iQ) fun w8 x8 s8 b8=>?_;refine aB ?_;refine dL (v:=.agg #[aE (gC [1,97] (qF l)), .slice va vl vc]) b8 (by simp [Value.cells,aE,Value.oneCell']) fun w9 p9=>?_;have x79:=cJ x8 p9;have x69:=x7.trans x79;have b9:=x69.at b6;have hpR:=aA (cs:=[aE (gC [] BQ), .slice ua ul uc]) b9;have hpA:=aA (cs:=[aE (gC [1,97] (qF l)), .slice va vl vc]) p9.this;refine_lift bU fun _ _=>?_;refine oD (e:=70) (k:=2) (bytes:=40) (xs:=[.agg #[aE (gC [] BQ), .slice ua ul uc]]) (by simp [Value.cells]) fun v10 w10 x10 _ sl10 _=>?_;refine aB ?_;obtain ⟨ad10,cap10,rfl⟩:∃ a n,v10=.slice a 1 n:=by
  obtain ⟨a,n,e,_⟩:=sl10;exact ⟨a,n,e⟩
 refine aG (v:=.agg #[.int .i64 0, .slice ad10 1 cap10]) (Runs.build (vals:=[(0, .int .i64 0),(1, .slice ad10 1 cap10)]) rfl (by kernel_rfl)) ?_;refine aB ?_;have hpA10:=hpA.ext x10;clear hpA hpR;refine_lift aT ?_;refine oD (e:=70) (k:=2) (bytes:=40) (xs:=[.agg #[aE (gC [1,97] (qF l)), .slice va vl vc]]) (by simp [Value.cells]) fun v11 w11 x11 _ sl11 _=>?_;refine aB ?_;obtain ⟨ad11,cap11,rfl⟩:∃ a n,v11=.slice a 1 n:=by
  obtain ⟨a,n,e,_⟩:=sl11;exact ⟨a,n,e⟩
 refine aG (v:=.agg #[.int .i64 1, .slice ad11 1 cap11]) (Runs.build (vals:=[(0, .int .i64 1),(1, .slice ad11 1 cap11)]) rfl (by kernel_rfl)) ?_;refine aB ?_;refine oD (e:=79) (k:=2) (bytes:=32) (xs:=[.agg #[.int .i64 0, .slice ad10 1 cap10], .agg #[.int .i64 1, .slice ad11 1 cap11]]) (by simp [Value.cells]) fun v12 w12 x12 _ sl12 _=>?_;refine aB ?_;have x1012:=x11.trans x12;have xl:Ext w w12:=x04.trans (x6.trans (x69.trans (x10.trans x1012)));have hfin:SrvsAt w12 v12 (CM l):=by
  refine ⟨_,sl12,rfl,fun i s hi=>?_⟩
  match i,hi with
  | 0,hi =>
   cases hi
   refine ⟨.slice ad10 1 cap10,rfl,_,sl10.ext x1012,rfl,fun i z hi=>?_⟩
   match i,hi with
   | 0,hi =>
    cases hi
    exact ⟨.slice ua ul uc,rfl,hs2.ext (x34.trans (x6.trans (x69.trans (x10.trans x1012))))⟩
  | 1,hi =>
   cases hi
   refine ⟨.slice ad11 1 cap11,rfl,_,sl11.ext x12,rfl,fun i z hi=>?_⟩
   match i,hi with
   | 0,hi =>
    cases hi
    exact ⟨.slice va vl vc,rfl,hs7.ext (x79.trans (x10.trans x1012))⟩
 refine_lift aT ?_;exact bodyPost_ret (results_tmp2 rfl _ _ _) rfl ⟨_,rfl,xl,v12,rfl,hfin⟩
theorem Bc:AskOk Ex tq 0:=by
 refine ⟨by decide,by decide +kernel,by decide,by decide,by decide +kernel,by decide +kernel,by decide,by decide,by decide,by decide,by decide,by decide,?_,fun _=>rfl,?_,fun _=>rfl⟩
 ·intro y h;cases h
 ·intro i e h;cases h
theorem YV:(bP (qM 5 tq)).2=0∧1≤(qB 5 tq).length∧(qB 5 tq).length≤65535:=zDk
theorem LN {b:List UInt8} (h:(cP b).2=0):cP b=((cP b).1,0):=by rw [← h]
theorem CN:(1≤(bP JK.q).1.length∧(bP JK.q).1.length≤65535)∧(1≤YJ.length∧YJ.length≤65535)∧(1≤(bP GY.q).1.length∧(bP GY.q).1.length≤65535)∧(1≤YM.length∧YM.length≤65535)∧(1≤YP.length∧YP.length≤65535):=zDk
theorem Bd:TaskB JK.t 10:=by
 refine ⟨by decide +kernel,by decide +kernel,by decide +kernel,by decide +kernel,by decide +kernel,?_⟩;intro a h;have h0:JK.t.stop=none:=zDk;rw [h0]at h;cases h
theorem Be:TaskB GY.t 10:=by
 refine ⟨by decide +kernel,by decide +kernel,by decide +kernel,by decide +kernel,by decide +kernel,?_⟩;intro a h;have h0:GY.t.stop=none:=zDk;rw [h0]at h;cases h
theorem Bg:iN [hR] (bP JK.q).1 false=(YJ,true):=by
 show _=((iN [hR] (bP JK.q).1 false).1,true);rw [← Dl]
theorem Bi:iN [hA [gG]] (bP GY.q).1 false=(YM,true):=by
 show _=((iN [hA [gG]] (bP GY.q).1 false).1,true);rw [← Dr]
theorem Bj:tS2.nt=some GY:=by
 have h:=TQ.1;unfold GY;cases hh:tS2.nt with
 | none=>rw [hh]at h;cases h
 | some x=>rfl
theorem LO:tS3.out=[(91,YP)]:=by
 have h:=Du;unfold YP
 match tS3.out,h with
 | [(a,b)],h =>
  simp at h;rw [h];rfl
theorem iG:((YK.an.length≤300∧YK.au.length≤300∧YK.ex.length≤300)∧(YN.an.length≤300∧YN.au.length≤300∧YN.ex.length≤300))∧(YK.au.all fun r=>decide (r.data.length≤1000))=true∧(YK.ex.all fun r=>decide (r.data.length≤1000))=true∧(YN.au.all fun r=>decide (r.data.length≤1000))=true∧(YN.ex.all fun r=>decide (r.data.length≤1000))=true:=zDk
theorem vF {t:TaskR} {l:List Rec} (h:(l.all fun r=>decide (r.data.length≤1000))=true) (z:List UInt8) (k:Int):∀ r∈t.of l z k,r.data.length≤9223372036854775807:=by
 refine VY fun r hr=>?_;have:=List.all_eq_true.1 h r hr;simp at this;omega
theorem GN:SrvOk (CM [gG]):=by
 refine ⟨by decide,by decide +kernel,by decide +kernel,by decide +kernel,?_⟩;have h:((CM [gG]).all fun s=>decide (s.l.length≤100000)&&s.l.all fun x=>decide (x.data.length≤1000000))=true:=zDk;intro s hs;have h1:=List.all_eq_true.1 h s hs;simp only [Bool.and_eq_true,decide_eq_true_eq,List.all_eq_true]at h1;exact h1
theorem NB:((CM [gG])[0]?).map SrvR.held=some hR∧((CM [gG])[1]?).map SrvR.held=some (hA [gG]):=by
 have h1:=Di;have h2:=Dj;constructor
 ·show some (SrvR.held ⟨0,gC [] BQ,Bw⟩)=_;unfold gC;rw [if_pos h1];rfl
 ·show some (SrvR.held ⟨1,gC [1,97] (qF [gG]),Bx [gG]⟩)=_;unfold gC;rw [if_pos h2];rfl
def Bk (l:List Rec):List CL:=(CM l).map fun s=>(s.node,[(s.o,s.l)])
theorem UF:lI (Bk [gG]) 1 9 [1,120,1,97] []=(0,[gG]):=by
 have h:(lI (Bk [gG]) 1 9 [1,120,1,97] []).1=0∧(lI (Bk [gG]) 1 9 [1,120,1,97] []).2=[gG]:=zDk;exact Prod.ext h.1 h.2
theorem SrvsAt.svs {ss:List SrvR} (h:SrvsAt w v ss):SvsAt w v (ss.map fun s=>(s.node,[(s.o,s.l)])):=by
 obtain ⟨css,h1,h2,h3⟩:=h;refine ⟨css,h1,by rw [h2,List.length_map],fun i s hi=>?_⟩;rw [List.getElem?_map]at hi;obtain ⟨t,ht,rfl⟩:=Option.map_eq_some_iff.1 hi;exact h3 i t ht
theorem JO:(∀ s∈Bk [gG],∀ z∈s.2,((aM z.1).getD []).length≤1000000)∧∀ s∈Bk [gG],∀ z∈s.2,∀ x∈z.2,x.data.length≤1000000:=by
 have h:((Bk [gG]).all fun s=>s.2.all fun z=>decide (((aM z.1).getD []).length≤1000000)&&z.2.all fun x=>decide (x.data.length≤1000000))=true:=zDk;have h1:=List.all_eq_true.1 h;constructor
 ·intro s hs z hz;have:=List.all_eq_true.1 (h1 s hs) z hz;simp only [Bool.and_eq_true,decide_eq_true_eq]at this;exact this.1
 ·intro s hs z hz x hx;have:=List.all_eq_true.1 (h1 s hs) z hz;simp only [Bool.and_eq_true,decide_eq_true_eq,List.all_eq_true]at this;exact this.2 x hx
theorem Kf.mvb {T:List TypeId} {N:List Nat} {t:Nat} (hm:Mv (some b) w w') (hb:w.heap[b]? = some (.cells cs t fz)) (ht:t∈T):Kf T N w w':=by
 refine ⟨fun j cs' t' fz' hj ht'=>hm.at hj (fun e=>?_),fun j es c hj _=>hm.at hj (fun e=>?_)⟩
 ·cases e
  rw [hb]at hj;injection (Option.some.inj hj)with _ e2
  exact ht' (e2▸ht)
 ·cases e
  rw [hb]at hj;cases hj
theorem XD {wL:World} {M:NodeM} {S:NodeR} (h:NodeI wL w M S) (now:Int) (hn:0≤now∧now≤1099511627776) (hI:S.nt=none) :
 Calls Tryz.prog 47 #[.pointer (some ⟨M.nb,0,none⟩), .int .i64 now] w (JM wL w M S True []):=by
 have cN:∀ w',Ext w w'→Calls Tryz.prog 94 #[.pointer (some ⟨M.nb,0,none⟩)] w' (kZ w' fun r w''=>Own 0 1 3 w'' r []):=fun w' hx=>by
  refine (EM (h.w.grow hx)).mono ?_;rintro e w'' ⟨r,rfl,hxx,hr⟩;rw [show BO S=[] by rw [BO,hI]]at hr;exact ⟨r,rfl,hxx,hr.weaken (Nat.zero_le _)⟩
 go_enter Tryz.func47,Tryz.ntmps47
 refine_lift mH fun _ _ _ _=>?_;refine cB (rJ hn _) fun w1 x1=>?_;refine_lift mH fun _ _ _ _=>?_;refine gY (cN _ x1) fun v w2 x2 o2=>?_;refine aB ?_;have sl2:=o2.sl;have ul:(([]:List (List Value))).length=0:=rfl;have x02:=x1.trans x2;refine_lift aT ?_;go_loopw [18] (fun iv w9=>iv=.int .i64 0∧w9=w2) (fun _ _=>0)
 case atStart=>exact ⟨rfl,rfl⟩
 case round =>
  obtain ⟨rfl,rfl⟩:=hrel;refine_lift lQ fun _ _ _=>?_;refine gS (GL (h.w.grow x02)) ?_;rintro _ w7 ⟨rfl,h7,o7,k7,f7,z7⟩;refine ⟨_,rfl,?_⟩;refine aB ?_;refine_lift aT ?_;go_ret;exact ⟨_,⟨M.nb,M.rv, .slice none 0 0,M.cb,M.em,M.db,M.tb,M.tm,M.mb,M.sb⟩,rfl,rfl,h7,o7,(Ko.of x02).trans k7,fun _=>⟨(Bn.of x02).trans x02.size f7,fun _=>⟨rfl,rfl,rfl⟩⟩,by have:=x02.size;omega⟩
theorem LP {b0:Nat} {Y:TierM} {ss:List SrvR} {room now:Int} {S:NodeR} {p:jN} {pv:Value} (h:TierW b0 w Y ss room S [p] pv (.slice none 0 0) now) (hp:p.2.1=91) (hl:p.2.2.length≤1000000) {m:MsgR} (hd:cP p.2.2=(m,0)) (hm:m.resp=true) :
 Calls Tryz.prog 17 #[.pointer (some ⟨Y.tb,0,none⟩), .int .i64 0] w (fun e w'=>e=.returned (.bool true)∧Lo b0 w w'∧∃ pv' hv q a u x B,TierW b0 w' Y ss room S [] pv' hv now∧Own Y.L 13 54 w' hv [aP m q a u x]∧MsgW B w' m q a u x):=by
 obtain ⟨q1,q2,q3⟩:=p;have hq:q2=91:=hp;subst hq;have hblk:=h.blk;obtain ⟨l1,l2,l3,l4⟩:=h.le;obtain ⟨d1,d2,d3,d4⟩:=h.b0;obtain ⟨wL,eL,hN⟩:=h.nod;go_enter Tryz.func17,Tryz.ntmps17
 have hpt:=aA (cs:=[.pointer (some ⟨Y.nb,0,none⟩), .pointer (some ⟨Y.M.nb,0,none⟩), .map (some Y.hm), .slice none 0 0, .int .i64 now]) hblk;refine_lift lQ ?_;intro _ _ _;refine gS (GK h.net aC) ?_;rintro _ w1 ⟨rfl,pv1,n1,k1,lo1,_⟩;refine ⟨_,rfl,?_⟩;refine aB ?_;have z1:=lo1.size;have b1:=k1.cells _ _ _ _ hblk aK;refine_lift aT ?_;refine dX (z:=lH) fun w2 x2 s2 b2=>?_;refine aB ?_;refine dL (v:=.agg #[.int .i64 q1, .int .i64 91,aE q3]) b2 (by simp [Value.cells,aE,Value.oneCell']) fun w3 p3=>?_;have x13:=cJ x2 p3;have hpp:=aA (cs:=[.int .i64 q1, .int .i64 91,aE q3]) p3.this;have hN1:=hN.kf (T:=[147,107]) k1 aK z1;rw [eL]at hN1;have hH1:=h.held.lo lo1 aC (Nat.le_refl _) aC;have cD:=wJ (w:=w3) q3 hl;unfold yT at cD;rw [hd]at cD;clear hpt;refine_lift EZ fun _ _ _ _ _=>?_;refine gS cD ?_;rintro _ w4 ⟨q,a,u,x,rfl,⟨o1,o2,o3,o4⟩,x4⟩;refine ⟨_,rfl,?_⟩;refine aB ?_;have x14:=x13.trans x4;have hm4:MsgW w3.heap.size w4 m q a u x:=⟨o1,o2,o3,o4⟩;refine_lift aT ?_;refine dX (z:=iW) fun w5 x5 s5 b5=>?_;refine aB ?_;refine dL (v:=.agg (aP m q a u x).toArray) b5 (dR (hm4.msg.ext x5)) fun w6 p6=>?_;have x46:=cJ x5 p6;have x16:=x14.trans x46;have hpm:=aA (cs:=aP m q a u x) p6.this;unfold aP at hpm;rw [hm]at hpm;have hpt6:=aA (cs:=[.pointer (some ⟨Y.nb,0,none⟩), .pointer (some ⟨Y.M.nb,0,none⟩), .map (some Y.hm), .slice none 0 0, .int .i64 now]) (x16.at b1);clear hpp;refine_lift aT ?_;have hm6:=hm4.ext x46;have z6:=x16.size;refine aO 7 (Ext w6) zDk ?_;intro w7 x7 _;refine ⟨x7,?_⟩;refine cZ 0 ?_;refine cZ 1 ?_;refine cZ 2 ?_;refine cZ 3 ?_;refine bE 4 ?_;refine bE 5 ?_;refine dH 6 ?_;refine oD (e:=54) (k:=13) (bytes:=144) (xs:=[.agg #[.int .i64 m.id, .bool true, .int .i64 m.op, .bool m.auth, .bool m.trunc, .bool m.want, .bool m.avail, .int .i64 m.rcode,q,a,u,x, .int .i64 m.size]]) (by simp [Value.cells]) fun v8 w8 x8 _ sl8 _=>?_;refine aB ?_;have x68:=x7.trans x8;refine aD ⟨aR x68,?_⟩;refine dH 7 ?_;refine bV (B:=w8.heap.size) (e:=54) (k:=13) rfl (Own.nil _ _ _ _) rfl sl8 (by
  intro f hf v hv;have hf:f=[.int .i64 m.id, .bool true, .int .i64 m.op, .bool m.auth, .bool m.trunc, .bool m.want, .bool m.avail, .int .i64 m.rcode,q,a,u,x, .int .i64 m.size]:=by simpa [Value.cells]using hf
  have:=dR hm6.msg;simp only [Value.cells]at this;rw [hf]at hv;have h9:=List.all_eq_true.1 (by simpa using this) v (by unfold aP;rw [hm];exact hv);exact h9) (Nat.le_refl _) aX ?_
 intro v9 w9 o9 m9 _;refine aB ?_;have x89:Ext w8 w9:=(Own.nil w8.heap.size 13 54 w8).mvx m9 (Ext.refl _) (Nat.le_refl _);have x69:=x68.trans x89;have x19:=x16.trans x69;refine aD ⟨aN rfl,?_⟩;refine cZ 8 ?_;refine cZ 9 ?_;refine dH 10 ?_;have b9:=x19.at b1;refine fA 3 v9 b9 o9.one fun w10 p10=>?_;refine aD ⟨aN rfl,?_⟩;refine jP ?_;refine_lift aT ?_;go_ret;have z9:=x19.size;have z8:=x68.size;have z10:=p10.size;have hm9:=hm6.ext x69;have e9:([]:List (List Value))++List.map (fun x=>x.cells.toList) [Value.agg #[.int .i64 m.id, .bool true, .int .i64 m.op, .bool m.auth, .bool m.trunc, .bool m.want, .bool m.avail, .int .i64 m.rcode,q,a,u,x, .int .i64 m.size]]=[aP m q a u x]:=by
  unfold aP;rw [hm];simp [Value.cells]
 rw [e9]at o9;have k10:Kf [92] [] w9 w10:=Kf.put p10 b9 aX;have lo10:Lo b0 w9 w10:=Lo.put p10 d1;have hH9:=hH1.mid (w':=w9) (fun _ _=>x19.at) (Mid.of x19 aC) aC aC;have hH10:=hH9.mid (w':=w10) (fun es c e=>by rw [p10.other _ (by intro e';rw [e',b9]at e;cases e)];exact e) (fun g g1 g2=>p10.other g aC) aC aC;have n9:=n1.ext x19;have n10:NetV Y.Hn w10 Y.nb 100 room pv1 []:=⟨n9.ge,(p10.other _ aC).trans n9.blk,n9.row.keep k10.keep aK⟩;have hN10:=(hN1.grow x19).kf (T:=[92]) k10 aK aC;rw [cM aC]at hN10;have hlo:Lo b0 w w10:=(lo1.mono aC).trans ((Lo.of x19).trans lo10);refine ⟨rfl,hlo,pv1,v9,q,a,u,x,w3.heap.size,⟨h.b0,⟨l1,l2,l3,aC⟩,p10.this,n10,⟨_,cM (w:=w10) (n:=Y.L) aC,hN10⟩,hH10⟩,(o9.keep k10.keep aK).weaken aC,?_⟩;exact ⟨hm9.oq.keep k10.keep aK,hm9.oa.keep k10.keep aK,hm9.ou.keep k10.keep aK,hm9.oe.keep k10.keep aK⟩
theorem Dz {b0:Nat} {Y:TierM} {ss:List SrvR} {room now:Int} {S:NodeR} {pv hv:Value} (h:TierW b0 w Y ss room S [] pv hv now) (hr:1≤room∧room≤1000) (id:Int) (q:mU) (hE:(bP (qM id q)).2=0) (hl:1≤(qB id q).length∧(qB id q).length≤65535) :
 Calls Tryz.prog 16 #[.pointer (some ⟨Y.tb,0,none⟩), .int .i64 id, .agg #[aE q.1, .int .i64 q.2]] w (fun e w'=>e=.returned (.int .i64 0)∧Lo b0 w w'∧∃ pv',TierW b0 w' Y ss room S [(91,90,qB id q)] pv' hv now):=by
 have hblk:=h.blk;obtain ⟨l1,l2,l3,l4⟩:=h.le;obtain ⟨d1,d2,d3,d4⟩:=h.b0;obtain ⟨wL,eL,hN⟩:=h.nod;go_enter Tryz.func16,Tryz.ntmps16
 refine_lift sF ?_;intro _ _ _;refine jO (vs:=[aE q.1, .int .i64 q.2]) fun w1 x1 s1 b1=>?_;refine aB ?_;have hpq:=aA (cs:=[aE q.1, .int .i64 q.2]) b1;refine_lift bU fun _ _=>?_;refine oD (e:=25) (k:=2) (bytes:=24) (xs:=[.agg #[aE q.1, .int .i64 q.2]]) (by simp [Value.cells]) fun v2 w2 x2 _ sl2 _=>?_;refine aB ?_;obtain ⟨ad2,cap2,rfl⟩:∃ a n,v2=.slice a 1 n:=by
  obtain ⟨a,n,e,_⟩:=sl2;exact ⟨a,n,e⟩
 refine aG (v:=.agg (aP (qM id q) (.slice ad2 1 cap2) aI aI aI).toArray) (Runs.build (vals:=[(0, .int .i64 id),(5, .bool true),(8, .slice ad2 1 cap2)]) rfl (by kernel_rfl)) ?_;refine aB ?_;have hm2:MsgV w2 (qM id q) (.slice ad2 1 cap2) aI aI aI:=⟨sl2,Sl.nil _ _,Sl.nil _ _,Sl.nil _ _⟩;refine_lift aT ?_;refine cB (rI hm2) fun w3 x3=>?_;rw [hE];have x03:=x1.trans (x2.trans x3);have hpt:=aA (cs:=[.pointer (some ⟨Y.nb,0,none⟩), .pointer (some ⟨Y.M.nb,0,none⟩), .map (some Y.hm),hv, .int .i64 now]) (x03.at hblk);clear hpq;refine_lift bU fun _ _=>?_;refine aG (v:=.agg #[.int .i64 91, .int .i64 90,aE (qB id q)]) (Runs.build (vals:=[(0, .int .i64 91),(1, .int .i64 90),(2,aE (qB id q))]) rfl (by kernel_rfl)) ?_;refine aB ?_;refine_lift aT ?_;have z3:=x03.size;refine gS (LJ (h.net.ext x03) aC (91,90,qB id q) (by show (0:Int)≤91∧(91:Int)≤100 - 1;decide) (by show (0:Int)≤90∧(90:Int)≤100 - 1;decide) hl (by show ((0:Nat):Int)<room;omega) hr.2 aK) ?_;rintro _ w7 ⟨rfl,pv7,n7,k7,lo7,_⟩;refine ⟨_,rfl,?_⟩;refine aB ?_;refine_lift aT ?_;go_ret;have z7:=lo7.size;have hH6:=h.held.mid (w':=w3) (fun _ _=>x03.at) (Mid.of x03 aC) aC aC;have hH7:=hH6.lo lo7 aC (Nat.le_refl _) aC;have hN7:=(hN.grow x03).kf (T:=[147,107]) k7 aK z7;rw [eL]at hN7;exact ⟨rfl,(Lo.of x03).trans (lo7.mono aC),pv7,h.b0,⟨l1,l2,l3,aC⟩,k7.cells _ _ _ _ (x03.at hblk) aK,n7,⟨_,cM (w:=w7) (n:=Y.L) aC,hN7⟩,hH7⟩
theorem NodeR.noout {S:NodeR} (h:S.out=[]):({ S with out:=[] }:NodeR)=S:=by
 cases S
 cases h
 rfl
abbrev YW:List TypeId:=[92,147,107,155]
theorem Bl {b0:Nat} {Y:TierM} {ss:List SrvR} {room now:Int} {S:NodeR} {ps:List jN} {pv hv:Value} (h:TierW b0 w Y ss room S ps pv hv now) (hI:S.nt=none) (t:Int) (ht:t≤10000) (hn:0≤now∧now≤1000000000) (hps:(ps.length:Int)≤room) (hr:room≤1000) :
 Calls Tryz.prog 20 #[.pointer (some ⟨Y.tb,0,none⟩), .int .i64 t] w (fun e w'=>e=.returned (.tuple #[])∧Lo b0 w w'∧Kf YW [] w w'∧∃ M' pv',TierW b0 w' { Y with M:=M' } ss room S ps pv' hv (now+(t.toNat:Nat))):=by
 obtain ⟨l1,l2,l3,l4⟩:=h.le;obtain ⟨d1,d2,d3,d4⟩:=h.b0;go_enter Tryz.func20,Tryz.ntmps20
 refine_lift bU ?_;intro _ _;go_loopw [11] (fun iv wr=>∃ (k:Nat) (M':NodeM) (pv':Value),k≤t.toNat∧iv=.int .i64 k∧Lo b0 w wr∧Kf YW [] w wr∧TierW b0 wr { Y with M:=M' } ss room S ps pv' hv (now+k)) (fun iv _=>t.toNat - (intOf iv).toNat)
 case atStart=>exact ⟨0,Y.M,pv,Nat.zero_le _,rfl,Lo.of (Ext.refl _),Kf.of (Ext.refl _),by rw [show now+((0:Nat):Int)=now by omega];exact h⟩
 case round =>
  obtain ⟨k,M',pv',hk,rfl,hL,hK,hT⟩:=hrel;have hblk:=hT.blk;obtain ⟨wL,eL,hN⟩:=hT.nod;have hout:=hN.out;have m4:=hT.le.2.2.2;have hnet:=hT.net;have hheld:=hT.held;dsimp only at hblk eL hN m4 hnet hheld;clear hT;by_cases hlt:(k:Int)<t
  ·have hpt:=aA (cs:=[.pointer (some ⟨Y.nb,0,none⟩), .pointer (some ⟨M'.nb,0,none⟩), .map (some Y.hm),hv, .int .i64 (now+k)]) hblk;refine_lift rR ?_;intro _ _ _ _ _ _;refine fA 4 (.int .i64 (now+k+1)) hblk rfl fun w1 p1=>?_;have z1:=p1.size;have k1:Kf [92] [] wr w1:=Kf.put p1 hblk aX;have b1:=p1.this;have hN1:=hN.kf (T:=[92]) k1 aK aC;rw [eL]at hN1;have n1:NetV Y.Hn w1 Y.nb 100 room pv' ps:=⟨hnet.ge,(p1.other _ aC).trans hnet.blk,hnet.row.keep k1.keep aK⟩;have hH1:=hheld.mid (w':=w1) (fun es c e=>by rw [p1.other _ (by intro e';rw [e',hblk]at e;cases e)];exact e) (fun g g1 g2=>p1.other g aC) aC aC;have hpt1:=aA (cs:=[.pointer (some ⟨Y.nb,0,none⟩), .pointer (some ⟨M'.nb,0,none⟩), .map (some Y.hm),hv, .int .i64 (now+k+1)]) b1;clear hpt;refine_lift aT ?_;refine aO 9 (Ext w1) zDk ?_;intro w2 x2 _;refine ⟨x2,?_⟩;refine cZ 0 ?_;refine cZ 1 ?_;refine cZ 2 ?_;refine cZ 3 ?_;refine bE 4 ?_;refine cZ 5 ?_;refine cZ 6 ?_;refine cZ 7 ?_;refine bE 8 ?_;refine dH 9 ?_;have z2:=x2.size;have hN2:=(hN1.grow x2).here;rw [cM aC]at hN2;refine gS (XD hN2 (now+k+1) ⟨aC,aC⟩ hI) ?_;rintro _ w3 ⟨r,M3,rfl,nM,hN3,o3,ko3,hb3,z3⟩;refine ⟨_,rfl,?_⟩;refine aB ?_;refine aD ⟨aN rfl,?_⟩;have bn3:=(hb3 trivial).1;have lo3:Lo Y.L w2 w3:=Lo.cut hN3.w.ext aC z3;have k3:Kf [155] [] w2 w3:=by
    have hnb:=hN2.w.nod.blk;refine ⟨fun c cs t fz hc ht=>?_,fun c es q hc _=>?_⟩
    ·have hl:=(Array.getElem?_eq_some_iff.1 hc).1;rw [bn3 c hl hl (by simp;rintro rfl;rw [hnb]at hc;injection (Option.some.inj hc)with _ e2;exact ht (by simp [← e2]))];exact hc
    ·have hl:=(Array.getElem?_eq_some_iff.1 hc).1;rw [bn3 c hl hl (by simp;rintro rfl;rw [hnb]at hc;cases hc)];exact hc
   have b3:=k3.cells _ _ _ _ (x2.at b1) aK;have n2:=n1.ext x2;have n3:NetV Y.Hn w3 Y.nb 100 room pv' ps:=⟨n2.ge,k3.cells _ _ _ _ n2.blk aK,n2.row.keep k3.keep aK⟩;rw [hout]at o3;refine dH 10 ?_;refine gS (NA (os:=[]) b3 n3 aC aC o3 aX (by simpa using hps) hr) ?_;rintro _ w4 ⟨rfl,pv4,n4,k4,lo4⟩;refine ⟨_,rfl,?_⟩;refine aB ?_;refine aD ⟨aN rfl,?_⟩;refine jP ?_;refine_lift aT ?_;have z4:=lo4.size;rw [show ps++yJ []=ps by simp [yJ]]at n4;rw [NodeR.noout hout]at hN3;have hN4:=hN3.kf (T:=[147,107]) k4 aK z4;have eN:(yI w2 Y.L).heap.size=Y.L:=cM aC;rw [eN]at hN4;have hH4:=((hH1.mid (w':=w2) (fun _ _=>x2.at) (Mid.of x2 aC) aC aC).lo lo3 aC aC aC).lo lo4 aC (Nat.le_refl _) aC;have b4:=k4.cells _ _ _ _ b3 aK;refine ⟨⟨k+1,M3,pv4,aC,by go_num,?_,?_,h.b0,⟨l1,l2,l3,by dsimp only;omega⟩,?_,n4,⟨_,cM (w:=w4) (n:=Y.L) aC,hN4⟩,hH4⟩,by simp [intOf];omega⟩
   ·exact hL.trans ((Lo.put p1 d1).trans ((Lo.of x2).trans ((lo3.mono aC).trans (lo4.mono aC))))
   ·exact hK.trans ((k1.mono aX aX).trans ((Kf.of x2).trans ((k3.mono aX aX).trans (k4.mono aX aX))))
   ·dsimp only;rw [nM,show now+((k+1:Nat):Int)=now+k+1 by omega];exact b4
  ·have hkt:k=t.toNat:=aC;subst hkt;refine_lift jQ fun _=>?_
   go_end0
   exact ⟨rfl,hL,hK,M',pv',h.b0,⟨l1,l2,l3,m4⟩,hblk,hnet,⟨wL,eL,hN⟩,hheld⟩
section
variable {b0:Nat} {w:World} {Y:TierM} {ss:List SrvR} {room now:Int} {S:NodeR} {ps:List jN} {pv hv:Value}
theorem Ea (h:TierW b0 w Y ss room S ps pv hv now):Calls Tryz.prog 19 #[.pointer (some ⟨Y.tb,0,none⟩)] w (bC w (.int .i64 ps.length)):=by
 have hpt:=aA (cs:=[.pointer (some ⟨Y.nb,0,none⟩), .pointer (some ⟨Y.M.nb,0,none⟩), .map (some Y.hm),hv, .int .i64 now]) h.blk;go_enter Tryz.func19,Tryz.ntmps19
 refine_lift bU fun _ _=>?_;refine cB (TW h.net) fun w1 x1=>?_;refine_lift aT ?_;go_ret;exact ⟨rfl,x1⟩
theorem Eb (h:TierW b0 w Y ss room S ps pv hv now):Calls Tryz.prog 23 #[.pointer (some ⟨Y.tb,0,none⟩)] w (bC w (.int .i64 now)):=by
 have hpt:=aA (cs:=[.pointer (some ⟨Y.nb,0,none⟩), .pointer (some ⟨Y.M.nb,0,none⟩), .map (some Y.hm),hv, .int .i64 now]) h.blk;go_enter Tryz.func23,Tryz.ntmps23
 refine_lift aT ?_;go_ret;exact ⟨rfl,Ext.refl _⟩
end
section
variable (w:World)
end
def Gn (k:Nat):NodeR:=if k=0 then Ex else if k≤2 then PH else if k≤4 then WU else WV
def Gp (k:Nat):List jN:=if k=0 then [(91,90,qB 5 tq)]else if k=1 then [(90,0,(bP JK.q).1)]else if k=2 then [(0,90,YJ)]else if k=3 then [(90,1,(bP GY.q).1)]else if k=4 then [(1,90,YM)]else if k=5 then [(90,91,YP)]else []
def WayT (b0:Nat) (w0 w:World) (tb:Nat) (k:Nat):Prop:=Ext w0 w∧∃ Y pv hv,Y.tb=tb∧TierW b0 w Y (CM [gG]) 10 (Gn k) (Gp k) pv hv 0∧(k<6→hv=.slice none 0 0)∧(k=6→∃ q a u x B,Own Y.L 13 54 w hv [aP TT q a u x]∧MsgW B w TT q a u x)
theorem WayT.step {b0:Nat} {tb:Nat} (h:WayT b0 w0 w tb k) (hk:k<6) (hb:w0.heap.size≤b0):Calls Tryz.prog 17 #[.pointer (some ⟨tb,0,none⟩), .int .i64 0] w (fun e w'=>e=.returned (.bool true)∧WayT b0 w0 w' tb (k+1)):=by
 obtain ⟨hx,Y,pv,hv,rfl,hT,h1,_⟩:=h;have hv0:=h1 hk;subst hv0
 match k,hT,hk with
 | 0,hT,_ =>
  refine (tK (S':=tS1) hT rfl aK (fun wL w' hN=>XC hN 91 0 (qB 5 tq) zDk aK aK Dk rfl tq rfl rfl Bc) (by
   rw [TO];intro o ho;rw [List.mem_singleton.1 ho];exact ⟨by decide,CN.1⟩) (by rw [TO];decide)).mono ?_
  rintro e w' ⟨rfl,lo,M',pv',hT'⟩;refine ⟨rfl,lo.ext hx hb,{ Y with M:=M' },pv',_,rfl,?_,fun _=>rfl,fun h=>by omega⟩;rw [TO]at hT';exact hT'
 | 1,hT,_ =>
  refine (BU (i:=0) (s:=⟨0,gC [] BQ,Bw⟩) (b:=YJ) hT GN rfl rfl aK aK (by have:=CN.1;show (bP JK.q).1.length≤1000000;omega) (by
   have:=NB.1;have h2:SrvR.held ⟨0,gC [] BQ,Bw⟩=hR:=Option.some.inj this;rw [h2];exact Bg) CN.2.1).mono ?_
  rintro e w' ⟨rfl,lo,pv',hT'⟩;exact ⟨rfl,lo.ext hx hb,Y,pv',_,rfl,hT',fun _=>rfl,fun h=>by omega⟩
 | 2,hT,_ =>
  have e1:=TQ;refine (tK (S':=tS2) hT rfl aK (fun wL w' hN=>by
   have:=MZ hN 0 YJ (by have:=CN.2.1;omega) Do (by rw [e1.2.1];decide) aK (LN Dm) YL.1 Dn zDk YL.2 Bd aK iG.1.1.1 iG.1.1.2.1 iG.1.1.2.2 (fun z=>vF iG.2.1 z 2) (fun z=>vF iG.2.2.1 z 1) (t:=PI.1) (ac:=PI.2.1) (ls:=PI.2.2) rfl (.inl TP.1) zDk zDk aK Dp (by rw [TP.2.2];decide);rw [e1.2.1]at this;exact this) (by
   rw [TR];intro o ho;rw [List.mem_singleton.1 ho];exact ⟨by decide,CN.2.2.1⟩) (by rw [TR];decide)).mono ?_
  rintro e w' ⟨rfl,lo,M',pv',hT'⟩;refine ⟨rfl,lo.ext hx hb,{ Y with M:=M' },pv',_,rfl,?_,fun _=>rfl,fun h=>by omega⟩;rw [TR]at hT';exact hT'
 | 3,hT,_ =>
  refine (BU (i:=1) (s:=⟨1,gC [1,97] (qF [gG]),Bx [gG]⟩) (b:=YM) hT GN rfl rfl aK aK (by have:=CN.2.2.1;show (bP GY.q).1.length≤1000000;omega) (by
   have:=NB.2;have h2:SrvR.held ⟨1,gC [1,97] (qF [gG]),Bx [gG]⟩=hA [gG]:=Option.some.inj this;rw [h2];exact Bi) CN.2.2.2.1).mono ?_
  rintro e w' ⟨rfl,lo,pv',hT'⟩;exact ⟨rfl,lo.ext hx hb,Y,pv',_,rfl,hT',fun _=>rfl,fun h=>by omega⟩
 | 4,hT,_ =>
  have e1:=TQ;refine (tK (S':=tS3) hT rfl aK (fun wL w' hN=>by
   have:=MZ hN 0 YM (by have:=CN.2.2.2.1;omega) Bj (by rw [e1.2.2.1];decide) aK (LN Ds) YO.1 Dq e1.2.2.2.symm YO.2 Be aK iG.1.2.1 iG.1.2.2.1 iG.1.2.2.2 (fun z=>vF iG.2.2.2.1 z 2) (fun z=>vF iG.2.2.2.2 z 1) (t:=UJ.1) (ac:=UJ.2.1) (ls:=UJ.2.2) rfl (.inr ⟨TS.1,TS.2.1⟩) zDk zDk aK Dt (by rw [TS.2.2];decide);rw [e1.2.2.1]at this;exact this) (by
   rw [LO];intro o ho;rw [List.mem_singleton.1 ho];exact ⟨by decide,CN.2.2.2.2⟩) (by rw [LO];decide)).mono ?_
  rintro e w' ⟨rfl,lo,M',pv',hT'⟩;refine ⟨rfl,lo.ext hx hb,{ Y with M:=M' },pv',_,rfl,?_,fun _=>rfl,fun h=>by omega⟩;rw [LO]at hT';exact hT'
 | 5,hT,_ =>
  refine (LP hT rfl (by have:=CN.2.2.2.2;show YP.length≤1000000;omega) (LN Dv) TU.1).mono ?_;rintro e w' ⟨rfl,lo,pv',hv,q,a,u,x,B,hT',ho,hm⟩;exact ⟨rfl,lo.ext hx hb,Y,pv',hv,rfl,hT',fun h=>by omega,fun _=>⟨q,a,u,x,B,ho,hm⟩⟩
theorem NC:TT.qs.length≤1000000∧TT.an.length≤1000000∧TT.au.length≤1000000∧TT.ex.length≤1000000:=zDk
theorem BV (w:World):Calls Tryz.prog 8 #[] w (bC w (.bool true)):=by
 go_enter Tryz.func8,Tryz.ntmps8
 refine_lift bU fun _ _=>?_;refine aG (v:=kK gG) (Runs.build (vals:=[(0,aE [1,120,1,97]),(1, .int .i64 1),(2, .int .i64 7),(3,aE [49,50,51,52])]) rfl (by kernel_rfl)) ?_;refine aB ?_;refine oD (e:=37) (k:=4) (bytes:=48) (xs:=[gG].map kK) (by
  intro x hx;obtain ⟨r,_,rfl⟩:=List.mem_map.1 hx;simp [kK,Value.cells]) (fun v1 w1 x1 _ sl1 _=>?_) (hk2:=by decide)
 refine aB ?_;rw [tL]at sl1;refine gY (Dy v1 [gG] _ sl1 aK aK) ?_;rintro _ w2 x2 ⟨u,rfl,hs⟩;refine aB ?_;rw [decide_eq_true Dj];refine_lift bU fun _ _=>?_;refine gY (UE _) ?_;rintro _ w3 x3 ⟨a,rfl,⟨ab,an,ac,rfl⟩,ha⟩;refine aB ?_;have hok:CfgOk w3 (.slice ab an ac) [0] 20 50 1000 5:=⟨ha,by decide,by decide,by decide,by decide,by decide,by decide⟩;refine gS (YT u (CM [gG]) _ (hs.ext x3) GN (.slice ab an ac) 20 50 1000 5 10 aK [0] (.inl hok)) ?_;rintro _ w4 ⟨x4,⟨Y,_,rfl,hT⟩|⟨h0,_⟩⟩
 rotate_left
 ·exact absurd h0 aK
 refine ⟨_,rfl,?_⟩;refine aB ?_;have x24:=x3.trans x4;refine_lift bU fun _ _=>?_;refine aG (v:=.agg #[.slice none 0 0, .int .i64 0, .int .i64 0, .int .i64 0, .int .i64 0]) (Runs.build0 (by kernel_rfl)) ?_;refine aB ?_;refine gS (YT u (CM [gG]) _ (hs.ext x24) GN (.slice none 0 0) 0 0 0 0 10 aK [] (.inr ⟨rfl,rfl,rfl,rfl,rfl⟩)) ?_;rintro _ w5 ⟨x5,⟨Y',h1,_⟩|⟨_,rfl⟩⟩
 ·exact absurd h1 aK
 refine ⟨_,rfl,?_⟩;refine aB ?_;refine_lift bU fun _ _=>?_;refine aG (v:=.agg #[aE tq.1, .int .i64 tq.2]) (Runs.build (vals:=[(0,aE [1,88,1,97]),(1, .int .i64 1)]) rfl (by kernel_rfl)) ?_;refine aB ?_;refine gS (Dz (hT.ext x5) aK 5 tq YV.1 YV.2) ?_;rintro _ w6 ⟨rfl,lo6,pv6,hT6⟩;refine ⟨_,rfl,?_⟩;refine aB ?_;have z25:=(x24.trans x5).size;have z3:=x3.size;have hb3:w2.heap.size≤w3.heap.size:=x3.size;have x26:Ext w2 w6:=lo6.ext (x24.trans x5) hb3;have hW6:WayT w3.heap.size w2 w6 Y.tb 0:=⟨x26,Y,pv6,_,rfl,hT6,fun _=>rfl,fun h=>by omega⟩;refine_lift bU fun _ _=>?_;go_loopw [8] (fun nv wr=>∃ k:Nat,k≤6∧nv=.int .i64 k∧WayT w3.heap.size w2 wr Y.tb k) (fun nv _=>6 - (intOf nv).toNat)
 case atStart=>exact ⟨0,aC,rfl,hW6⟩
 case round =>
  obtain ⟨k,hk,rfl,hW⟩:=hrel;by_cases hlt:k<6
  ·refine_lift EZ ?_;intro _ _ _ _ _;refine gS (hW.step hlt hb3) ?_;rintro _ w7 ⟨rfl,hW7⟩;refine ⟨_,rfl,?_⟩;refine aB ?_;refine_lift jQ fun _=>?_;exact ⟨⟨k+1,aC,by go_num,hW7⟩,by simp [intOf];omega⟩
  ·have hk6:k=6:=aC;subst hk6;obtain ⟨x7,Z,pv,hv,hZ,hT7,_,h6⟩:=hW;obtain ⟨q,a,u',x,B,ho,hm⟩:=h6 rfl;rw [← hZ];refine_lift EZ ?_;intro _ _ _ _ _;refine cB (LM hT7 0) fun w8 x8=>?_;refine_lift bU fun _ _=>?_;refine gY (UD (hT7.ext x8) (ho.ext x8).sl ((hm.ext x8).msg) NC.1 NC.2.1 NC.2.2.1 NC.2.2.2) ?_;rintro hq w9 x9 ⟨q9,a9,u9,y9,B9,o9,m9⟩;refine aB ?_;have x79:=x8.trans x9;refine_lift bU fun _ _=>?_;refine aG (v:=.agg #[aE [1,120,1,97], .int .i64 1]) (Runs.build (vals:=[(0,aE [1,120,1,97]),(1, .int .i64 1)]) rfl (by kernel_rfl)) ?_;refine aB ?_;refine gY (GM u (Bk [gG]) [1,120,1,97] 1 _ ((hs.svs).ext (x7.trans x79)) JO.1 JO.2) ?_;rintro _ w10 x10 ⟨v10,rfl,o10⟩;refine aB ?_;rw [UF]at o10 ⊢;have x710:=x79.trans x10;refine_lift bU fun _ _=>?_;refine gS (Bl (hT7.ext x710) (by show WV.nt=none;have h:=Dw;cases hh:WV.nt with|none=>rfl|some _=>rw [hh]at h;cases h) 3 aK aK aK aK) ?_;rintro _ w11 ⟨rfl,lo11,k11,M11,pv11,hT11⟩;refine ⟨_,rfl,?_⟩;refine aB ?_;have x211:Ext w2 w11:=lo11.ext (x7.trans x710) hb3;have oh:=(o9.ext x10).keep k11.keep aK;have oa:=(m9.ext x10).oa.keep k11.keep aK;have or:=o10.keep k11.keep aK;have slh:=oh.sl;have hl1:([aP TT q9 a9 u9 y9]:List (List Value)).length=1:=rfl;have hel:Pts w11 (cC hq ((0:Int).toNat*13)) (aP TT q9 a9 u9 y9):=slh.elem (i:=0) rfl;have sla:=oa.sl;rw [TU.2.2]at sla;have hla:(aF [gG]).length=1:=rfl;unfold aP at hel;rw [TU.2.1]at hel;have cS:∀ w',Ext w11 w'→Calls Tryz.prog 12 #[v10,a9] w' (bC w' (.bool true)):=fun w' hx=>by
    have:=MD v10 a9 [gG] [gG] w' (or.ext hx).sl (sla.ext hx)
    rwa [decide_eq_true (rfl:[gG]=[gG])]at this
   (repeat' first|((with_reducible refine aZ ?_);go_step)|((with_reducible refine aS ?_);first|refine dN ?_|(refine bG ?_ ?_<;>intro hc))|fail)
   refine cB (cS _ (Ext.refl _)) fun w12 x12=>?_;refine_lift aT ?_;refine cB (Eb ((hT11.ext x12))) fun w13 x13=>?_;refine_lift lP (fun hc=>?_) (fun hc=>?_);refine cB (Ea ((hT11.ext x12).ext x13)) fun w14 x14=>?_;refine_lift aT ?_;go_ret;exact ⟨rfl,x1.trans (x2.trans (x211.trans (x12.trans (x13.trans x14))))⟩
   all_goals first|exact absurd rfl hc|(simp at hc;done)|skip
   all_goals trace_state
theorem UG (n:List UInt8) (ss:List CL):iU (fold n) ss=iU n ss:=by
 have h:nZ (fold n)=nZ n:=by
  funext st z
  unfold nZ;rw [IK]
 unfold iU;rw [h]
theorem JP (ss:List CL) (k:Int) (f:Nat) (q:List UInt8) (all:List Rec):lI ss k f (fold q) all=lI ss k f q all:=by
 cases f with
 | zero=>rfl
 | succ f=>rw [rL,rL,UG,(xL _ _ _ _).1,(xL _ _ _ k).2]
def vG (z:UK):Bool:=decide ((z.1.length:Int)≤300)&&yC z.2
def rM (s:CL):Bool:=decide (s.2.length≤3)&&s.2.all vG
def GO (ss:List CL):Bool:=decide (ss.length≤5)&&ss.all rM
theorem XE (v:Value) (ss:List CL) (w:World) (hs:SvsAt w v ss):Calls Tryz.prog 7 #[v] w (bC w (.bool (GO ss))):=by
 obtain ⟨css,hsl,hlen,hss⟩:=hs;have hle:=hsl.le;go_enter Tryz.func7,Tryz.ntmps7
 refine_lift UT (fun _ _ _=>?_) (fun _=>?_)
 ·have e:GO ss=false:=by
   unfold GO;rw [decide_eq_false aC];rfl
  rw [e];go_ret;exact ⟨rfl,Ext.refl _⟩
 have e0:GO ss=ss.all rM:=by
  unfold GO;rw [decide_eq_true aC];rfl
 rw [e0];go_loopw [3] (fun iv wr=>∃ k:Nat,k≤ss.length∧iv=.int .i64 k∧Ext w wr∧(ss.take k).all rM=true) (fun iv _=>ss.length - (intOf iv).toNat)
 case atStart=>exact ⟨0,Nat.zero_le _,rfl,Ext.refl _,rfl⟩
 case round =>
  obtain ⟨k,hk,rfl,hx,hall⟩:=hrel;have slr:=hsl.ext hx;by_cases hlt:k<ss.length
  ·obtain ⟨zv,hcu,hz⟩:=hss k ss[k] (List.getElem?_eq_getElem hlt);have hel:=slr.elem hcu;have htk:(ss.take (k+1)).all rM=rM ss[k]:=by
    rw [List.take_succ_eq_append_getElem hlt,List.all_append,hall];simp
   have hno:rM ss[k]=false→ss.all rM=false:=fun h=>List.all_eq_false.2 ⟨ss[k],List.getElem_mem hlt,by simp [h]⟩;obtain ⟨zcs,hzs0,hzl,hze⟩:=hz.out;have hzs:=hzs0.ext hx;have hzle:=hzs0.le;generalize ss[k]=s at *
   (repeat' first|((with_reducible refine aZ ?_);go_step)|((with_reducible refine aS ?_);first|refine dN ?_|(refine bG ?_ ?_<;>intro hc))|fail)
   ·rw [hno (by unfold rM;rw [decide_eq_false aC];rfl)];go_ret;exact ⟨rfl,hx⟩
   have e1:rM s=s.2.all vG:=by
    unfold rM;rw [decide_eq_true aC];rfl
   go_loopw [4] (fun iv wq=>∃ j:Nat,j≤s.2.length∧iv=.int .i64 j∧Ext w wq∧(s.2.take j).all vG=true) (fun iv _=>s.2.length - (intOf iv).toNat)
   case atStart=>exact ⟨0,Nat.zero_le _,rfl,hx,rfl⟩
   case round =>
    obtain ⟨j,hj,rfl,hxq,hallj⟩:=hrel;have slq:=hsl.ext hxq;have helq:=slq.elem hcu;have zsq:=hzs0.ext hxq;clear slr hel hzs;by_cases hjl:j<s.2.length
    ·obtain ⟨y,hzc,hsets⟩:=hze j _ (List.getElem?_eq_getElem hjl);have helz:=zsq.elem hzc;have htj:(s.2.take (j+1)).all vG=vG s.2[j]:=by
      rw [List.take_succ_eq_append_getElem hjl,List.all_append,hallj];simp
     have hnj:vG s.2[j]=false→s.2.all vG=false:=fun h=>List.all_eq_false.2 ⟨s.2[j],List.getElem_mem hjl,by simp [h]⟩;generalize s.2[j]=z at *;refine_lift rR ?_;intro _ _ _ _ _ _;refine cB (ZP z.1 y z.2 _ (hsets.ext hxq)) fun w1 x1=>?_;have ez:(decide ((z.1.length:Int)≤300)&&yC z.2)=vG z:=rfl;rw [ez];cases hf:vG z
     ·refine_lift aT ?_;rw [hno (by rw [e1];exact hnj hf)];go_ret;exact ⟨rfl,hxq.trans x1⟩
     ·refine_lift aT ?_;exact ⟨⟨j+1,aC,by go_num,hxq.trans x1,by rw [htj,hf]⟩,by simp [intOf];omega⟩
    ·have ej:j=s.2.length:=aC;subst ej;rw [List.take_length]at hallj;refine_lift jQ fun _=>?_;exact ⟨⟨k+1,aC,by go_num,hxq,by rw [htk,e1,hallj]⟩,by simp [intOf];omega⟩
  ·have ek:k=ss.length:=aC;subst ek;rw [List.take_length]at hall;refine_lift jQ fun _=>?_;go_ret;exact ⟨by rw [e0.trans hall];rfl,hx⟩
theorem xY (v:Value) (ss:List CL) (w:World) (hs:SvsAt w v ss) (hle5:ss.length≤5):Calls Tryz.prog 10 #[v] w (kZ w fun r w'=>SvsAt w' r ss):=by
 obtain ⟨css,hsl,hlen,hss⟩:=hs;have hle:=hsl.le;go_enter Tryz.func10,Tryz.ntmps10
 (repeat' first|((with_reducible refine aZ ?_);go_step)|((with_reducible refine aS ?_);first|refine dN ?_|(refine bG ?_ ?_<;>intro hc))|fail)
 go_loopw [3,4] (fun o iv wr=>∃ k:Nat,k≤ss.length∧iv=.int .i64 k∧Ext w wr∧Own w.heap.size 2 79 wr o (css.take k)) (fun _ iv _=>ss.length - (intOf iv).toNat)
 case atStart=>exact ⟨0,Nat.zero_le _,rfl,Ext.refl _,by simpa using Own.nil _ _ _ _⟩
 case round =>
  obtain ⟨k,hk,rfl,hx,ho⟩:=hrel;have slr:=hsl.ext hx;by_cases hlt:k<ss.length
  ·obtain ⟨zv,hcu,hz⟩:=hss k ss[k] (List.getElem?_eq_getElem hlt);have hel:=slr.elem hcu;have htk:css.take (k+1)=css.take k ++ [[.int .i64 ss[k].1,zv]]:=by
    rw [List.take_add_one,hcu];rfl
   have htl:(css.take k).length=k:=by rw [List.length_take];omega
   obtain ⟨za,zn,zc,hzv⟩:∃ a n c,zv=.slice a n c:=by
    obtain ⟨_,h,_⟩:=hz.out;obtain ⟨a,c,e,_⟩:=h;exact ⟨_,_,_,e⟩
   subst hzv;generalize ss[k]=s at *;have hz1:(Value.slice za zn zc).oneCell'=true:=by
    obtain ⟨_,h,_⟩:=hz.out;exact h.one
   have hzW:=hx.size
   (repeat' first|((with_reducible refine aZ ?_);go_step)|((with_reducible refine aS ?_);first|refine dN ?_|(refine bG ?_ ?_<;>intro hc))|fail)
   refine aO 13 (Ext wr) zDk ?_;intro w1 x1 _;refine ⟨x1,?_⟩;refine bE 0 ?_;refine bE 1 ?_;refine bE 2 ?_;refine oE (i:=3) (v:=cC v (k*2)) rfl rfl (fun w' hF=>by
    have slw:=slr.ext hF;clear slr;exact vM) ?_
   refine aB ?_;refine bE 4 ?_;refine oE (i:=5) (v:=.int .i64 s.1) rfl rfl (fun w' hF=>by
    have hw:=hel.ext hF;clear hel;exact vM) ?_
   refine aB ?_;refine bE 6 ?_;refine bE 7 ?_;refine oE (i:=8) (v:=cC v (k*2)) rfl rfl (fun w' hF=>by
    have slw:=slr.ext hF;clear slr;exact vM) ?_
   refine aB ?_;refine bE 9 ?_;refine oE (i:=10) (v:=.slice za zn zc) rfl rfl (fun w' hF=>by
    have hw:=hel.ext hF;clear hel;exact vM) ?_
   refine aB ?_;refine oE (i:=11) (v:=.agg #[.int .i64 s.1, .slice za zn zc]) rfl rfl (fun w' hF=>Runs.build (vals:=[(0, .int .i64 s.1),(1, .slice za zn zc)]) rfl (by kernel_rfl)) ?_;refine aB ?_;refine dH 12 ?_;refine oD (e:=79) (k:=2) (bytes:=32) (xs:=[.agg #[.int .i64 s.1, .slice za zn zc]]) (by simp [Value.cells]) fun v5 w5 x5 _ sl5 _=>?_;refine aB ?_;have x15:=x1.trans x5;refine aD ⟨aR x15,?_⟩;refine dH 13 ?_;refine bV (B:=w.heap.size) (e:=79) (k:=2) rfl (ho.ext x15) rfl sl5 (by
    intro f hf u hu;simp only [List.map_cons,List.map_nil,List.mem_cons,List.not_mem_nil,or_false]at hf;subst hf;simp only [Value.cells,List.mem_cons,List.not_mem_nil,or_false]at hu;rcases hu with rfl|rfl
    ·rfl
    ·exact hz1) (Nat.le_trans hzW x15.size) (by simp [htl];omega) ?_
   intro v6 w6 o6 m6 _;refine aB ?_;refine aD ⟨aN rfl,?_⟩;refine dH 14 ?_
   ((with_reducible refine aS ?_);(first|(refine gV ?_;refine eS ?_)|(refine lY ?_;refine nR ?_;(with_reducible refine aS ?_);refine gV ?_;refine eS ?_)))
   refine aD ⟨aN rfl,?_⟩;refine jP ?_
   (repeat' first|((with_reducible refine aZ ?_);go_step)|((with_reducible refine aS ?_);first|refine dN ?_|(refine bG ?_ ?_<;>intro hc))|fail)
   refine ⟨⟨k+1,aC,by go_num,ho.mvx m6 (hx.trans x15) (Nat.le_refl _),?_⟩,by simp [intOf];omega⟩;rw [htk];exact o6
  ·have:k=ss.length:=aC;subst this;rw [← hlen,List.take_length]at ho
   (repeat' first|((with_reducible refine aZ ?_);go_step)|((with_reducible refine aS ?_);first|refine dN ?_|(refine bG ?_ ?_<;>intro hc))|fail)
   go_ret;exact ⟨_,rfl,hx,css,ho.sl,hlen,fun i s hi=>let ⟨u,a,b⟩:=hss i s hi;⟨u,a,b.ext hx⟩⟩
theorem GP (n:List UInt8):((aM n).getD []).length≤1000000:=by
 cases h:aM n with
 | none=>simp
 | some ls =>
  have h1:=jE n (by rw [h];rfl);rw [(mM h).1]at h1;have h2:=kG (ls.map low);rw [List.length_map]at h2;simp;omega
theorem LQ {ss:List CL} (h:GO ss=true):ss.length≤5∧∀ s∈ss,∀ z∈s.2,∀ x∈z.2,x.data.length≤1000000:=by
 unfold GO at h;rw [Bool.and_eq_true,decide_eq_true_eq,List.all_eq_true]at h;refine ⟨h.1,fun s hs z hz=>?_⟩;have h1:=h.2 s hs;unfold rM at h1;rw [Bool.and_eq_true,List.all_eq_true]at h1;exact (Ey (h1.2 z hz)).2.1
theorem JQ (v:Value) (ss:List CL) (qn:List UInt8) (qt:Int) (w:World) (hs:SvsAt w v ss):Calls Tryz.prog 3 #[v, .agg #[aE qn, .int .i64 qt]] w (bC w (.bool true)):=by
 have cF:=fun w' (hx:Ext w w')=>XE v ss w' (hs.ext hx);go_enter Tryz.func3,Tryz.ntmps3
 refine_lift mT fun _ _=>?_;refine jO (vs:=[aE qn, .int .i64 qt]) fun w1 x1 s1 b1=>?_;refine aB ?_;have hq:=aA (cs:=[aE qn, .int .i64 qt]) b1;refine_lift mH fun _ _ _ _=>?_;refine cB (cF _ x1) fun w2 x2=>?_;have x02:=x1.trans x2;have hq2:=hq.ext x2;clear hq;by_cases hG:GO ss=true∧(qn.length:Int)≤300
 rotate_left
 ·cases hf:GO ss
  ·refine_lift bU fun _ _=>?_;refine cB (BV w2) fun w3 x3=>?_;refine_lift aT ?_;go_ret;exact ⟨rfl,x02.trans x3⟩
  ·refine_lift BX (fun _ _ _=>?_) (fun _ _ _=>?_)
   all_goals first
    | (exact absurd ⟨hf,aC⟩ hG)
    | (refine cB (BV w2) fun w3 x3=>?_
       refine_lift aT ?_;go_ret;exact ⟨rfl,x02.trans x3⟩)
 obtain ⟨hf,hql⟩:=hG;obtain ⟨h5,hb⟩:=LQ hf;have hl:∀ s∈ss,∀ z∈s.2,((aM z.1).getD []).length≤1000000:=fun s _ z _=>GP z.1;rw [hf];refine_lift lQ fun _ _ _=>?_;refine aO 3 (Ext w2) zDk ?_;intro w3 x3 _;refine ⟨x3,?_⟩;refine bE 0 ?_;refine oE (i:=2) (v:=.agg #[aE qn, .int .i64 qt]) rfl rfl (fun w' hF=>by
  have hw:=hq2.ext hF;clear hq2;exact vM) ?_
 refine aB ?_;refine dH 1 ?_;refine gY (xY v ss _ (hs.ext (x02.trans x3)) h5) ?_;intro sv w4 x4 h4;refine aB ?_;have x24:=x3.trans x4;refine aD ⟨aR x24,?_⟩;refine dH 3 ?_;refine gY (GM sv ss qn qt _ h4 hl hb) ?_;rintro _ w5 x5 ⟨r5,rfl,o5⟩;refine aB ?_;refine aD ⟨aN rfl,?_⟩;refine cZ 4 ?_;refine cZ 5 ?_;refine cZ 6 ?_;refine cZ 7 ?_;refine cZ 8 ?_;refine jP ?_;have x25:=x24.trans x5;have hq5:=hq2.ext x25;refine_lift bU fun _ _=>?_;refine aO 8 (Ext w5) zDk ?_;intro w6 x6 _;refine ⟨x6,?_⟩;refine bE 0 ?_;refine bE 2 ?_;refine oE (i:=3) (v:=aE qn) rfl rfl (fun w' hF=>by
  have hw:=hq5.ext hF;clear hq2 hq5;exact vM) ?_
 refine aB ?_;refine bE 5 ?_;refine oE (i:=6) (v:=.int .i64 qt) rfl rfl (fun w' hF=>by
  have hw:=hq5.ext hF;clear hq2 hq5;exact vM) ?_
 refine aB ?_;refine dH 1 ?_;refine gY (xY v ss _ (hs.ext (x02.trans (x25.trans x6))) h5) ?_;intro sv2 w7 x7 h7;refine aB ?_;have x57:=x6.trans x7;refine aD ⟨aR x57,?_⟩;refine dH 4 ?_;refine cB (VA qn _) fun w8 x8=>?_;have x58:=x57.trans x8;refine aD ⟨aR x58,?_⟩;refine oE (i:=7) (v:=.agg #[aE (fold qn), .int .i64 qt]) rfl rfl (fun w' hF=>Runs.build (vals:=[(0,aE (fold qn)),(1, .int .i64 qt)]) rfl (by kernel_rfl)) ?_;refine aB ?_;refine dH 8 ?_;refine gY (GM sv2 ss (fold qn) qt _ (h7.ext x8) hl hb) ?_;rintro _ w9 x9 ⟨r9,rfl,o9⟩;rw [JP]at o9 ⊢;refine aB ?_;refine aD ⟨aN rfl,?_⟩;refine cZ 9 ?_;refine cZ 10 ?_;refine cZ 11 ?_;refine cZ 12 ?_;refine cZ 13 ?_;refine jP ?_;have x59:=x58.trans x9;have a5:=(o5.ext x59).sl;have cS:Calls Tryz.prog 12 #[r5,r9] w9 (bC w9 (.bool true)):=by
  have:=MD r5 r9 _ _ w9 a5 o9.sl
  rwa [decide_eq_true rfl]at this
 refine_lift bU fun _ _=>?_;refine cB cS fun w10 x10=>?_;refine_lift aT ?_;refine cB (BV w10) fun w11 x11=>?_;refine_lift aT ?_;go_ret;exact ⟨rfl,(x02.trans x25).trans (x59.trans (x10.trans x11))⟩
 all_goals first|exact absurd rfl hc|(simp at hc;done)|skip
open Go.ChangeShapes Go.WideShapes Go.ChangeAt
theorem LR {H:Type} {enc:TypeId×Value→H} {spare:Nat→Bool} {c:Array Value} {x:DataW H×List MemPlace} (h:DataW.trod enc Tryz.prog w base spare held fuel 25 (Value.agg c).cells.toList=some x):∃ (q:List UInt8) (k:Int),c=#[aE q, .int .i64 k]:=by
 have e:(Value.agg c).cells.toList=c.toList:=rfl;rw [e]at h;obtain ⟨xs,n',_,_,hl,hxl,hf⟩:=DataW.trod_struct Tryz.underlying25 h;have c3:Tryz.prog.cellsOf 3=1:=by kernel_rfl
 have c22:Tryz.prog.cellsOf 23=1:=by kernel_rfl
 have c65:Tryz.prog.cellsOf 25=2:=by kernel_rfl
 rw [c65]at hl;obtain ⟨cl⟩:=c
 match cl,hl,xs,hxl with
 | [a,b],_,[y0,y1],_ =>
  have g0:=hf 0 _ rfl;have g1:=hf 1 _ rfl;simp [c3,c22]at g0 g1;obtain ⟨s0,rfl,_⟩:=tW Tryz.underlying23 g0;obtain ⟨n1,rfl,_⟩:=tX Tryz.underlying3 g1;exact ⟨s0,n1,rfl⟩
theorem LS {H:Type} {enc:TypeId×Value→H} {spare:Nat→Bool} {x:DataW H×List MemPlace} (h:DataW.trod enc Tryz.prog w base spare held fuel 80 [v]=some x):∃ l:List (List UInt8),Sl 1 w v (aH l):=by
 obtain ⟨es,hs,he⟩:=rQ Tryz.underlying80 (show Tryz.prog.cellsOf 9=1 by kernel_rfl) aC h;obtain ⟨l,rfl⟩:∃ l:List (List UInt8),es=l.map fun s=>[aE s]:=by
  refine tZ fun c hc=>?_;obtain ⟨n,y,hy⟩:=he c hc;have hl:c.length=1:=by
   obtain ⟨_,_,_,_,_,h4,_,_⟩:=hs;exact h4 c hc
  match c,hl with
  | [a],_ =>
   obtain ⟨s,rfl,_⟩:=tW Tryz.underlying9 hy;exact ⟨s,rfl⟩
 exact ⟨l,hs⟩
theorem PM {H:Type} {enc:TypeId×Value→H} {spare:Nat→Bool} {x:DataW H×List MemPlace} (h:DataW.trod enc Tryz.prog w base spare held fuel 68 [v]=some x):∃ l:List RSet,SetsAt w v l:=by
 obtain ⟨es,hs,he⟩:=rQ Tryz.underlying68 (show Tryz.prog.cellsOf 136=4 by kernel_rfl) aC h;obtain ⟨l,rfl⟩:∃ l:List {p:RSet×Value // Sl 1 w p.2 (aH p.1.data)},es=l.map fun p=>[aE p.1.1.name, .int .i64 p.1.1.kind, .int .i64 p.1.1.ttl,p.1.2]:=by
  refine tZ fun c hc=>?_;obtain ⟨n,y,hy⟩:=he c hc;obtain ⟨xs,n',_,_,hl,hxl,hf⟩:=DataW.trod_struct Tryz.underlying136 hy;have c30:Tryz.prog.cellsOf 23=1:=by kernel_rfl
  have c3:Tryz.prog.cellsOf 3=1:=by kernel_rfl
  have c35:Tryz.prog.cellsOf 80=1:=by kernel_rfl
  have c37:Tryz.prog.cellsOf 136=4:=by kernel_rfl
  rw [c37]at hl
  match c,hl,xs,hxl with
  | [a,b,d,e],_,[y0,y1,y2,y3],_ =>
   have g0:=hf 0 _ rfl;have g1:=hf 1 _ rfl;have g2:=hf 2 _ rfl;have g3:=hf 3 _ rfl;simp [c30,c3,c35]at g0 g1 g2 g3;obtain ⟨s0,rfl,_⟩:=tW Tryz.underlying23 g0;obtain ⟨n1,rfl,_⟩:=tX Tryz.underlying3 g1;obtain ⟨n2,rfl,_⟩:=tX Tryz.underlying3 g2;obtain ⟨ts,hts⟩:=LS g3;exact ⟨⟨(⟨s0,n1,n2,ts⟩,e),hts⟩,rfl⟩
 refine ⟨l.map fun p=>p.1.1,_,hs,aX,?_⟩;intro i s hi;rw [List.getElem?_map]at hi;obtain ⟨p,hp,rfl⟩:=Option.map_eq_some_iff.1 hi;exact ⟨p.1.2,by rw [List.getElem?_map,hp];rfl,p.2⟩
theorem PN {H:Type} {enc:TypeId×Value→H} {spare:Nat→Bool} {c:Array Value} {x:DataW H×List MemPlace} (h:DataW.trod enc Tryz.prog w base spare held fuel 70 (Value.agg c).cells.toList=some x):∃ (o:List UInt8) (l:List RSet) (u:Value),c=#[aE o,u]∧SetsAt w u l:=by
 have e:(Value.agg c).cells.toList=c.toList:=rfl;rw [e]at h;obtain ⟨xs,n',_,_,hl,hxl,hf⟩:=DataW.trod_struct Tryz.underlying70 h;have c30:Tryz.prog.cellsOf 23=1:=by kernel_rfl
 have c25:Tryz.prog.cellsOf 68=1:=by kernel_rfl
 have c43:Tryz.prog.cellsOf 70=2:=by kernel_rfl
 rw [c43]at hl;obtain ⟨cl⟩:=c
 match cl,hl,xs,hxl with
 | [a,b],_,[y0,y1],_ =>
  have g0:=hf 0 _ rfl;have g1:=hf 1 _ rfl;simp [c30,c25]at g0 g1;obtain ⟨s0,rfl,_⟩:=tW Tryz.underlying23 g0;obtain ⟨l,hls⟩:=PM g1;exact ⟨s0,l,b,rfl,hls⟩
theorem LT {H:Type} {enc:TypeId×Value→H} {spare:Nat→Bool} {x:DataW H×List MemPlace} (h:DataW.trod enc Tryz.prog w base spare held fuel 64 [v]=some x):∃ zs:List (List UInt8×List RSet),ZonesAt w v zs:=by
 obtain ⟨es,hs,he⟩:=rQ Tryz.underlying64 (show Tryz.prog.cellsOf 70=2 by kernel_rfl) aC h;obtain ⟨l,rfl⟩:∃ l:List {p:(List UInt8×List RSet)×Value // SetsAt w p.2 p.1.2},es=l.map fun p=>[aE p.1.1.1,p.1.2]:=by
  refine tZ fun c hc=>?_;obtain ⟨n,y,hy⟩:=he c hc;have hl:c.length=2:=by
   obtain ⟨_,_,_,_,_,h4,_,_⟩:=hs;exact h4 c hc
  obtain ⟨o,ls,u,e,hu⟩:=PN (c:=c.toArray) (show DataW.trod enc Tryz.prog w base spare held n 70 (Value.agg c.toArray).cells.toList=some y by simpa [Value.cells]using hy);exact ⟨⟨((o,ls),u),hu⟩,by simpa using congrArg Array.toList e⟩
 refine ⟨l.map fun p=>p.1.1,_,hs,aX,?_⟩;intro i s hi;rw [List.getElem?_map]at hi;obtain ⟨p,hp,rfl⟩:=Option.map_eq_some_iff.1 hi;exact ⟨p.1.2,by rw [List.getElem?_map,hp];rfl,p.2⟩
theorem GQ {H:Type} {enc:TypeId×Value→H} {spare:Nat→Bool} {x:DataW H×List MemPlace} (h:DataW.trod enc Tryz.prog w base spare held fuel 22 [v]=some x):∃ ss:List CL,SvsAt w v ss:=by
 obtain ⟨es,hs,he⟩:=rQ Tryz.underlying22 (show Tryz.prog.cellsOf 66=2 by kernel_rfl) aC h;obtain ⟨l,rfl⟩:∃ l:List {p:CL×Value // ZonesAt w p.2 p.1.2},es=l.map fun p=>[.int .i64 p.1.1.1,p.1.2]:=by
  refine tZ fun c hc=>?_;obtain ⟨n,y,hy⟩:=he c hc;obtain ⟨xs,n',_,_,hl,hxl,hf⟩:=DataW.trod_struct Tryz.underlying66 hy;have c3:Tryz.prog.cellsOf 3=1:=by kernel_rfl
  have c4:Tryz.prog.cellsOf 64=1:=by kernel_rfl
  have c65:Tryz.prog.cellsOf 66=2:=by kernel_rfl
  rw [c65]at hl
  match c,hl,xs,hxl with
  | [a,b],_,[y0,y1],_ =>
   have g0:=hf 0 _ rfl;have g1:=hf 1 _ rfl;simp [c3,c4]at g0 g1;obtain ⟨n1,rfl,_⟩:=tX Tryz.underlying3 g0;obtain ⟨zs,hz⟩:=LT g1;exact ⟨⟨((n1,zs),b),hz⟩,rfl⟩
 refine ⟨l.map fun p=>p.1.1,_,hs,aX,?_⟩;intro i s hi;rw [List.getElem?_map]at hi;obtain ⟨p,hp,rfl⟩:=Option.map_eq_some_iff.1 hi;exact ⟨p.1.2,by rw [List.getElem?_map,hp];rfl,p.2⟩
theorem own:ownKnob Tryz.prog.godebug=none:=by kernel_rfl
theorem ND:laidOutB Tryz.prog=true:=by kernel_rfl
end Go.Proofs.X
