/- Laws and walks that the proof of the statement is made of (part 15). -/
import Derived.Test.YtfkckeaadnoeiaaGreatRows
import Derived.Test.YtfkckeaadnoeiaaGreatP14
set_option linter.unusedSimpArgs false
set_option linter.unusedVariables false
set_option maxRecDepth 100000
set_option maxHeartbeats 20000000
namespace Go.Proofs.X
open Go.RowKit
variable {cs:Array Value} {held:Bool} {qt:Int} {ps rs:List (List UInt8 × Nat)} {ls:List (List UInt8)} {css css0 es:List (List Value)} {d l m n o qn s t x y z:List UInt8} {B a b base c e fuel i j k p q:Nat} {fz:Nat × Nat} {row:Option Nat} {r u v:Value} {w w' w0 w1 w2:World}
theorem IJ (v:Value) (css:List (List Value)) (w:World) (hv:Sl 13 w v css) (h1:∀ f ∈ css,∀ u ∈ f,u.oneCell'=true) (hl:css.length≤1000000):Calls Tryz.prog 43 #[v] w (kX w fun v' w'=>Own w.heap.size 13 54 w' v' css):=by
 go_enter Tryz.func43,Tryz.ntmps43
 (repeat' first | ((with_reducible refine bH ?_);go_step) | ((with_reducible refine aV ?_);first | refine dR ?_ | (refine bO ?_ ?_ <;> intro hc)) | fail)
 ·have hn:=‹vX v=true›;go_ret;have:css=[]:=hv.isNil hn;refine ⟨_,rfl,Ext.refl _,?_⟩;rw [this];exact Own.nil _ _ _ _
 ·refine jY (t:=50) (e:=54) (k:=13) (bytes:=144) zDk rfl ?_;intro v2 w2 x2 s2 o2;refine aB ?_;refine_lift aR ?_;refine bW (B:=w.heap.size) (e:=54) rfl o2 rfl (hv.ext x2) h1 x2.size (by simp;omega) ?_;intro v3 w3 o3 m3 _;have x3:=o2.mvx m3 x2 (Nat.le_refl _);refine aB ?_;refine_lift aR ?_;go_ret;exact ⟨_,rfl,x3,by simpa using o3⟩
theorem uP {b0:Nat} {Y:TierM} {ss:List SrvR} {room now:Int} {S:NodeR} {ps:List iW} {pv:Value} (h:TierW b0 w Y ss room S ps pv (.slice none 0 0) now):Calls Tryz.prog 18 #[.pointer (some ⟨Y.tb,0,none⟩)] w (kX w fun r w'=>Own 0 13 54 w' r []):=by
 have hpt:=aA (cs:=[.pointer (some ⟨Y.nb,0,none⟩), .pointer (some ⟨Y.M.nb,0,none⟩), .map (some Y.hm), .slice none 0 0, .int .i64 now]) h.blk;go_enter Tryz.func18,Tryz.ntmps18
 refine_lift lI ?_;intro _ _ _;refine gR (IJ (.slice none 0 0) [] _ (Sl.nil _ _) aX aX) fun v1 w1 x1 o1 => ?_;refine aB ?_;have sl1:=o1.sl;have h0:([]:List (List Value)).length=0:=rfl;refine_lift bK fun _ _ => ?_;go_loopw [15] (fun iv wr=>iv=.int .i64 0∧wr=w1) (fun _ _=>0)
 case atStart=>exact ⟨rfl,rfl⟩
 case round =>
  obtain ⟨rfl,rfl⟩:=hrel;refine_lift iX fun _ => ?_;go_ret;exact ⟨_,rfl,x1,o1.weaken (Nat.zero_le _)⟩
theorem TG {b0:Nat} {Y:TierM} {ss:List SrvR} {room now:Int} {S:NodeR} {ps:List iW} {pv hv:Value} (h:TierW b0 w Y ss room S ps pv hv now) {m:MsgR} {q a x:Value} (hh:Sl 13 w hv [aO m q a u x]) (hm:MsgV w m q a u x) (h1:m.qs.length≤1000000) (h2:m.an.length≤1000000) (h3:m.au.length≤1000000) (h4:m.ex.length≤1000000):Calls Tryz.prog 18 #[.pointer (some ⟨Y.tb,0,none⟩)] w (kX w fun r w'=>∃ q' a' u' x' B,Own B 13 54 w' r [aO m q' a' u' x']∧MsgW B w' m q' a' u' x'):=by
 have hpt:=aA (cs:=[.pointer (some ⟨Y.nb,0,none⟩), .pointer (some ⟨Y.M.nb,0,none⟩), .map (some Y.hm),hv, .int .i64 now]) h.blk;go_enter Tryz.func18,Tryz.ntmps18
 refine_lift lI ?_;intro _ _ _;refine gR (IJ hv [aO m q a u x] _ hh (by
  intro f hf v hv;rw [List.mem_singleton.1 hf] at hv;exact List.all_eq_true.1 (by simpa [Value.cells] using dP hm) v hv) aX) fun v1 w1 x1 o1 => ?_
 refine aB ?_;have sl1:=o1.sl;have hl1:([aO m q a u x]:List (List Value)).length=1:=rfl;refine_lift bK fun _ _ => ?_;go_loopw [15] (fun iv wr=>(iv=.int .i64 0∧wr=w1)∨(iv=.int .i64 1∧Ext w wr∧∃ q' a' u' x',Own w.heap.size 13 54 wr v1 [aO m q' a' u' x']∧MsgW w.heap.size wr m q' a' u' x')) (fun iv _=>1 - (intOf iv).toNat)
 case atStart=>exact .inl ⟨rfl,rfl⟩
 case round =>
  rcases hrel with ⟨rfl,rfl⟩ | ⟨rfl,hx,q',a',u',x',o9,m9⟩
  ·have hel:=sl1.elem (i:=0) rfl;unfold aO at hel;refine_lift rS ?_;intro _ _ _ _ _ _;refine dT (z:=iV) fun w2 x2 s2 b2 => ?_;refine aB ?_;refine_lift aR ?_;have hm2:=(hm.ext x1).ext x2;refine dH (v:=.agg (aO m q a u x).toArray) b2 (dP hm2) fun w3 p3 => ?_;have x13:=cB x2 p3;have hpm:=aA (cs:=aO m q a u x) p3.this;unfold aO at hpm;have o3:=o1.ext x13;have hm3:=(hm.ext x1).ext x13;clear hel sl1;refine_lift bK fun _ _ => ?_;have hlt:v1.ownBlock=some wr.heap.size→False:=fun hr=>by have:=(o1.block _ hr).2;omega
   have hge:∀ k,v1.ownBlock=some k→w.heap.size≤k:=fun k hk=>(o1.block k hk).1;refine aP 15 (fun w'=>Pts w' (.pointer (some ⟨wr.heap.size,0,none⟩)) (aO m q a u x)∧∃ e,Sl 13 w' v1 [e]) zDk ?_;intro y0 yx0 _;have yb0:=yx0.at p3.this;have yo0:=o3.ext yx0;refine ⟨⟨aA (cs:=aO m q a u x) yb0,_,yo0.sl⟩,?_⟩;refine dC 0 ?_;refine dC 1 ?_;refine dC 2 ?_;refine dC 3 ?_;refine dC 4 ?_;refine rQ (i:=5) (v:=q) rfl rfl (fun w' hF=>by obtain ⟨hF,_⟩:=hF;unfold aO at hF;exact BU) ?_;refine aB ?_;refine dC 7 ?_;refine rQ (i:=8) (v:=a) rfl rfl (fun w' hF=>by obtain ⟨hF,_⟩:=hF;unfold aO at hF;exact BU) ?_;refine aB ?_;refine dM 6 ?_;refine gR (AN q m.qs _ (hm3.qs.ext yx0) h1) fun yv1 y1 yx1 yr1 => ?_;refine aB ?_;have yb1:=yx1.at yb0;have yo1:=yo0.ext yx1;have yx01:=yx0.trans yx1;refine aD ⟨aS ⟨aA (cs:=aO m q a u x) yb1,_,yo1.sl⟩,?_⟩;refine dM 9 ?_;refine gR (jK a m.an _ (hm3.an.ext yx01) h2) fun yv2 y2 yx2 yr2 => ?_;refine aB ?_;have yb2:=yx2.at yb1;have yo2:=yo1.ext yx2;have yx02:=yx01.trans yx2;refine aD ⟨aS ⟨aA (cs:=aO m q a u x) yb2,_,yo2.sl⟩,?_⟩;refine rQ (i:=10) (v:=cJ v1 ((0:Int).toNat * 13)) rfl rfl (fun w' hF=>by obtain ⟨_,e,hs⟩:=hF;exact Runs.idxTI (n:=0) rfl hs aJ (by show (0:Int).toNat < 1;decide) zDk) ?_;refine aB ?_;refine rQ (i:=11) (v:=aT (cJ v1 ((0:Int).toNat * 13)) 8) rfl rfl (fun w' hF=>by obtain ⟨_,e,hs⟩:=hF;exact Runs.fieldTn (hs.elem (i:=0) rfl) zDk) ?_;refine aB ?_;refine dM 12 ?_;refine kU (i:=0) (j:=8) (c:=yv1) rfl rfl rfl yo2 rfl aJ zDk yr1.one ?_;intro y3 yo3 ym3;have yb3:=ym3.at yb2 (fun e=>hlt e.symm);refine aD ⟨aS ⟨aA (cs:=aO m q a u x) yb3,_,yo3.sl⟩,?_⟩;refine rQ (i:=13) (v:=cJ v1 ((0:Int).toNat * 13)) rfl rfl (fun w' hF=>by obtain ⟨_,e,hs⟩:=hF;exact Runs.idxTI (n:=0) rfl hs aJ (by show (0:Int).toNat < 1;decide) zDk) ?_;refine aB ?_;refine rQ (i:=14) (v:=aT (cJ v1 ((0:Int).toNat * 13)) 9) rfl rfl (fun w' hF=>by obtain ⟨_,e,hs⟩:=hF;exact Runs.fieldTn (hs.elem (i:=0) rfl) zDk) ?_;refine aB ?_;refine dM 15 ?_;refine kU (i:=0) (j:=9) (c:=yv2) rfl rfl rfl yo3 rfl aJ zDk yr2.one ?_;intro y4 yo4 ym4;have yb4:=ym4.at yb3 (fun e=>hlt e.symm);refine aD ⟨aN rfl,?_⟩;refine kK ?_;have yz1:=yx1.size;have yz02:=yx02.size;have yxx:Ext w y4:=(((x1.trans x13).trans yx02).move ym3 hge).move ym4 hge;have hm4:MsgV y4 m q a u x:=hm.ext yxx;have yq:Own w.heap.size 2 25 y4 yv1 (cU m.qs):=((((yr1.ext yx2).mv ym3 ((yr1.ext yx2).ne yo2 aJ)).mv ym4 (((yr1.ext yx2).mv ym3 ((yr1.ext yx2).ne yo2 aJ)).ne yo3 aJ))).weaken (by have:=(x1.trans x13).size;have:=yx0.size;omega);have ya:Own w.heap.size 4 37 y4 yv2 (aF m.an):=((yr2.mv ym3 (yr2.ne yo2 aJ)).mv ym4 ((yr2.mv ym3 (yr2.ne yo2 aJ)).ne yo3 aJ)).weaken (by have:=(x1.trans x13).size;have:=yx01.size;omega);refine_lift aR ?_;refine aP 15 (fun w'=>Pts w' (.pointer (some ⟨wr.heap.size,0,none⟩)) (aO m q a u x)∧∃ e,Sl 13 w' v1 [e]) zDk ?_;intro t0 tx0 _;have tb0:=tx0.at yb4;have to0:=yo4.ext tx0;refine ⟨⟨aA (cs:=aO m q a u x) tb0,_,to0.sl⟩,?_⟩;refine dC 0 ?_;refine dC 1 ?_;refine dC 2 ?_;refine dC 3 ?_;refine dC 4 ?_;refine rQ (i:=5) (v:=u) rfl rfl (fun w' hF=>by obtain ⟨hF,_⟩:=hF;unfold aO at hF;exact BU) ?_;refine aB ?_;refine dC 7 ?_;refine rQ (i:=8) (v:=x) rfl rfl (fun w' hF=>by obtain ⟨hF,_⟩:=hF;unfold aO at hF;exact BU) ?_;refine aB ?_;refine dM 6 ?_;refine gR (jK u m.au _ (hm4.au.ext tx0) h3) fun tv1 t1 tx1 tr1 => ?_;refine aB ?_;have tb1:=tx1.at tb0;have to1:=to0.ext tx1;have tx01:=tx0.trans tx1;refine aD ⟨aS ⟨aA (cs:=aO m q a u x) tb1,_,to1.sl⟩,?_⟩;refine dM 9 ?_;refine gR (jK x m.ex _ (hm4.ex.ext tx01) h4) fun tv2 t2 tx2 tr2 => ?_;refine aB ?_;have tb2:=tx2.at tb1;have to2:=to1.ext tx2;have tx02:=tx01.trans tx2;refine aD ⟨aS ⟨aA (cs:=aO m q a u x) tb2,_,to2.sl⟩,?_⟩;refine rQ (i:=10) (v:=cJ v1 ((0:Int).toNat * 13)) rfl rfl (fun w' hF=>by obtain ⟨_,e,hs⟩:=hF;exact Runs.idxTI (n:=0) rfl hs aJ (by show (0:Int).toNat < 1;decide) zDk) ?_;refine aB ?_;refine rQ (i:=11) (v:=aT (cJ v1 ((0:Int).toNat * 13)) 10) rfl rfl (fun w' hF=>by obtain ⟨_,e,hs⟩:=hF;exact Runs.fieldTn (hs.elem (i:=0) rfl) zDk) ?_;refine aB ?_;refine dM 12 ?_;refine kU (i:=0) (j:=10) (c:=tv1) rfl rfl rfl to2 rfl aJ zDk tr1.one ?_;intro t3 to3 tm3;have tb3:=tm3.at tb2 (fun e=>hlt e.symm);refine aD ⟨aS ⟨aA (cs:=aO m q a u x) tb3,_,to3.sl⟩,?_⟩;refine rQ (i:=13) (v:=cJ v1 ((0:Int).toNat * 13)) rfl rfl (fun w' hF=>by obtain ⟨_,e,hs⟩:=hF;exact Runs.idxTI (n:=0) rfl hs aJ (by show (0:Int).toNat < 1;decide) zDk) ?_;refine aB ?_;refine rQ (i:=14) (v:=aT (cJ v1 ((0:Int).toNat * 13)) 11) rfl rfl (fun w' hF=>by obtain ⟨_,e,hs⟩:=hF;exact Runs.fieldTn (hs.elem (i:=0) rfl) zDk) ?_;refine aB ?_;refine dM 15 ?_;refine kU (i:=0) (j:=11) (c:=tv2) rfl rfl rfl to3 rfl aJ zDk tr2.one ?_;intro t4 to4 tm4;have tb4:=tm4.at tb3 (fun e=>hlt e.symm);refine aD ⟨aN rfl,?_⟩;refine kK ?_;have tz1:=tx1.size;have tz02:=tx02.size;have txx:Ext w t4:=((yxx.trans tx02).move tm3 hge).move tm4 hge;have tq:=((((yq.ext tx02).mv tm3 ((yq.ext tx02).ne to2 aJ)).mv tm4 (((yq.ext tx02).mv tm3 ((yq.ext tx02).ne to2 aJ)).ne to3 aJ)));have ta:=((((ya.ext tx02).mv tm3 ((ya.ext tx02).ne to2 aJ)).mv tm4 (((ya.ext tx02).mv tm3 ((ya.ext tx02).ne to2 aJ)).ne to3 aJ)));have tu:Own w.heap.size 4 37 t4 tv1 (aF m.au):=((((tr1.ext tx2).mv tm3 ((tr1.ext tx2).ne to2 aJ)).mv tm4 (((tr1.ext tx2).mv tm3 ((tr1.ext tx2).ne to2 aJ)).ne to3 aJ))).weaken (by have:=yxx.size;have:=tx0.size;omega);have te:Own w.heap.size 4 37 t4 tv2 (aF m.ex):=((tr2.mv tm3 (tr2.ne to2 aJ)).mv tm4 ((tr2.mv tm3 (tr2.ne to2 aJ)).ne to3 aJ)).weaken (by have:=yxx.size;have:=tx01.size;omega);refine_lift aR ?_;exact ⟨.inr ⟨rfl,txx,yv1,yv2,tv1,tv2,to4,tq,ta,tu,te⟩,by simp [intOf]⟩
  ·refine_lift iX fun _ => ?_;go_ret;exact ⟨_,rfl,hx,q',a',u',x',_,o9,m9⟩
def XY (k:Int) (A U:List Rec):List Rec:=A ++ if k=3 then U else []
theorem ON {k:Int} (hf:fits k d=true) (hk:zW k=true):(aQ k d).2=0:=by
 have h1:(k=2∨k=15)∨k=33:=by simpa [zW] using hk
 have h2:(aQ k d).2≠2:=by
  unfold fits at hf;rw [if_neg aC,if_neg aC,if_neg aC,if_neg aC] at hf
  simpa using hf
 have h3:¬ jR k < 0:=by
  unfold jR;rcases h1 with (rfl | rfl) | rfl <;> decide
 unfold aQ at *;rw [if_neg h3] at *;split at h2
 ·exact absurd rfl h2
 ·rename_i h4;rw [if_neg h4];split at h2
  ·exact absurd rfl h2
  ·rfl
theorem TH {s:RSet} (h:lP s=true) (hd:d ∈ s.data):fits s.kind d=true:=by
 obtain ⟨i,hi,he⟩:=List.mem_iff_getElem.1 hd;cases hb:qH s i with
 | true=>rw [zA hi hb] at h;cases h
 | false =>
  simp only [qH,Bool.or_eq_false_iff,decide_eq_false_iff_not,Decidable.not_not] at hb;have h1:=hb.1;rw [List.getD_eq_getElem?_getD,List.getElem?_eq_getElem hi,Option.getD_some,he] at h1;unfold bF at h1;split at h1
  ·cases h1
  ·split at h1
   ·cases h1
   ·rename_i h5;simp only [not_or,Bool.not_eq_false] at h5;exact h5.2.2.2.2.2
def FromK (l:List RSet) (r:Rec):Prop:=∃ t ∈ l,r.kind=t.kind∧r.data ∈ t.data
theorem FromK.opt {l:List RSet} {k:Int}:∀ r ∈ gF (cI l n k),FromK l r:=by
 intro r hr;cases hf:cI l n k with
 | none=>rw [hf] at hr;cases hr
 | some s =>
  rw [hf] at hr;obtain ⟨d,hd,rfl⟩:=List.mem_map.1 hr;exact ⟨s,(oE hf).1,rfl,hd⟩
theorem FromK.sets {l:List RSet} (h:cQ l=0) {s:RSet} (hs:s ∈ dX l n):∀ r ∈ eI s,FromK l r:=by
 intro r hr;obtain ⟨d,hd,rfl⟩:=List.mem_map.1 hr;obtain ⟨t,ht,e1,_,e,_⟩:=pH h hs;exact ⟨t,ht,e1,by rw [← e];exact hd⟩
theorem AY {l:List RSet} (h:cQ l=0) (n:List UInt8) (k c:Int):(∀ r ∈ (cW o l n k c).ans,FromK l r)∧((cW o l n k c).kind=3→∀ r ∈ (cW o l n k c).auth,FromK l r):=by
 unfold cW;split
 ·exact ⟨aX,aX⟩
 ·split
  ·exact ⟨aX,fun _=>FromK.opt⟩
  ·split
   ·exact ⟨aX,aX⟩
   ·split
    ·rename_i h4;split
     ·exact ⟨aX,aX⟩
     ·exact ⟨FromK.sets h (rI h4.1).1,aX⟩
    ·split
     ·exact ⟨aX,aX⟩
     ·refine ⟨fun r hr => ?_,aX⟩;obtain ⟨s,hs,d,hd,rfl⟩:=wQ hr;exact FromK.sets h (List.mem_filter.1 hs).1 _ (List.mem_map_of_mem hd)
theorem DQ {l:List RSet} (h:cQ l=0) (k:Int):∀ (f:Nat) (c:Int) (n:List UInt8),(∀ r ∈ (fS o l k f c n).ans,FromK l r)∧((fS o l k f c n).kind=3→∀ r ∈ (fS o l k f c n).auth,FromK l r)
 | 0,c,n=>by simp [fS]
 | f + 1,c,n=>by
   rw [fS];split
   ·obtain ⟨h1,h2⟩:=DQ h k f (c + 1) (cW o l n k c).next;refine ⟨fun r hr => ?_,h2⟩;rcases List.mem_append.1 hr with hr | hr
    ·exact (AY h n k c).1 r hr
    ·exact h1 r hr
   ·exact AY h n k c
theorem MB {o:List UInt8} {l:List RSet} (h:cQ l=0) (hl:l.length≤200) (k:Int):∀ (f:Nat) (c:Int) (n:List UInt8),(fS o l k f c n).ans.length≤20 * f + 4000∧(fS o l k f c n).auth.length≤20
 | 0,c,n=>by simp [fS]
 | f + 1,c,n=>by
   rw [fS];have hs:=HL (o:=o) h hl n k c;split
   ·rename_i hm;have hi:=MB h hl k f (c + 1) (cW o l n k c).next (o:=o);have h5:=(DC h hm).2.2.2.2;simp only [List.length_append];omega
   ·omega
theorem OO {l:List RSet} (hz:ZoneOk o l) (k:Int) (f:Nat) (c:Int) (n:List UInt8):∀ r ∈ XY (fS o l k f c n).kind (fS o l k f c n).ans (fS o l k f c n).auth,r.data.length≤4611686018427387904∧(zW r.kind=true→(aQ r.kind r.data).2=0):=by
 intro r hr;obtain ⟨h1,h2⟩:=DQ (o:=o) hz.chk k f c n;have hk:FromK l r:=by
  rcases List.mem_append.1 hr with hr | hr
  ·exact h1 r hr
  ·split at hr
   ·exact h2 ‹_› r hr
   ·cases hr
 obtain ⟨t,ht,e1,hd⟩:=hk;have hm:=hz.may ht;refine ⟨?_,fun h => ?_⟩
 ·have:=mI hz t ht _ hd;omega
 ·exact ON (by rw [e1];exact TH hm hd) h
theorem KJ {l:List RSet} {q:List UInt8} {k:Int} (h:rT o l q=0):(iU o l q k).ans.length≤5000∧∀ r ∈ (iU o l q k).ans,r.data.length≤9223372036854775807:=by
 have hz0:cV o l=0:=by
  unfold rT at h;split at h
  ·assumption
  ·rename_i a;exact Classical.not_not.1 a
 have hz:=lQ hz0;have e:(iU o l q k).ans=(fS o l k 9 0 (fold q)).ans:=by rw [iU,if_neg (by simp [h])]
 rw [e];have h1:=(MB (o:=o) hz.chk (uE hz) k 9 0 (fold q)).1;refine ⟨aC,fun r hr => ?_⟩;have:=(OO hz k 9 0 (fold q) r (by unfold XY;exact List.mem_append_left _ hr)).1;omega
theorem Own.apart {B' k' e':Nat} {v':Value} {es':List (List Value)} (h:Own B k e w v es) (h':Own B' k' e' w0 v' es') (hB:w0.heap.size≤B):v.ownBlock=none∨v.ownBlock≠v'.ownBlock:=by
 cases hr:v.ownBlock with
 | none=>exact .inl rfl
 | some r =>
  refine .inr fun e => ?_;have h1:=(h.block r hr).1;have h2:=(h'.block r e.symm).2;omega
def nP (ss:List TE) (k:Int):Nat→List UInt8→List Rec→Int × List Rec
 | 0,_,_=>(2,[])
 | f + 1,q,all =>
  if (jO q ss).2 < 0 then (5,[])
  else if rT (jO q ss).1.1 (jO q ss).1.2 q≠0∨(iU (jO q ss).1.1 (jO q ss).1.2 q k).kind=3∨(iU (jO q ss).1.1 (jO q ss).1.2 q k).kind=4 then (2,[])
  else if (rD (jO q ss).1.1 k (iU (jO q ss).1.1 (jO q ss).1.2 q k).ans).2=true then nP ss k f (rD (jO q ss).1.1 k (iU (jO q ss).1.1 (jO q ss).1.2 q k).ans).1 (all ++ (iU (jO q ss).1.1 (jO q ss).1.2 q k).ans)
  else if (iU (jO q ss).1.1 (jO q ss).1.2 q k).kind=2 then (3,all ++ (iU (jO q ss).1.1 (jO q ss).1.2 q k).ans)
  else (0,all ++ (iU (jO q ss).1.1 (jO q ss).1.2 q k).ans)
theorem IK (ss:List TE) (k:Int) (f:Nat) (q:List UInt8) (all:List Rec):nP ss k (f + 1) q all =
 if (jO q ss).2 < 0 then (5,[])
 else if rT (jO q ss).1.1 (jO q ss).1.2 q≠0∨(iU (jO q ss).1.1 (jO q ss).1.2 q k).kind=3∨(iU (jO q ss).1.1 (jO q ss).1.2 q k).kind=4 then (2,[])
 else if (rD (jO q ss).1.1 k (iU (jO q ss).1.1 (jO q ss).1.2 q k).ans).2=true then nP ss k f (rD (jO q ss).1.1 k (iU (jO q ss).1.1 (jO q ss).1.2 q k).ans).1 (all ++ (iU (jO q ss).1.1 (jO q ss).1.2 q k).ans)
 else if (iU (jO q ss).1.1 (jO q ss).1.2 q k).kind=2 then (3,all ++ (iU (jO q ss).1.1 (jO q ss).1.2 q k).ans)
 else (0,all ++ (iU (jO q ss).1.1 (jO q ss).1.2 q k).ans):=rfl
theorem WD (n:List UInt8) (ss:List TE):(jO n ss).1=([],[])∨∃ s ∈ ss,(jO n ss).1 ∈ s.2:=by
 have hin:∀ (zs:List WB) (st:WB × Int),(zs.foldl (pY n) st).1=st.1∨(zs.foldl (pY n) st).1 ∈ zs:=by
  intro zs;induction zs with
  | nil=>intro st;exact .inl rfl
  | cons z zs ih =>
   intro st;rcases ih (pY n st z) with h | h
   ·rw [List.foldl_cons,h];unfold pY;split
    ·exact .inr aX
    ·exact .inl rfl
   ·exact .inr (List.mem_cons_of_mem _ h)
 have hout:∀ (ss:List TE) (st:WB × Int),(ss.foldl (fun st s=>s.2.foldl (pY n) st) st).1=st.1∨∃ s ∈ ss,(ss.foldl (fun st s=>s.2.foldl (pY n) st) st).1 ∈ s.2:=by
  intro ss;induction ss with
  | nil=>intro st;exact .inl rfl
  | cons s ss ih =>
   intro st;rcases ih (s.2.foldl (pY n) st) with h | ⟨t,ht,h⟩
   ·rw [List.foldl_cons,h];rcases hin s.2 st with h | h
    ·exact .inl h
    ·exact .inr ⟨s,aX,h⟩
   ·exact .inr ⟨t,List.mem_cons_of_mem _ ht,h⟩
 exact hout ss (([],[]),-1)
theorem WE (lv:Value) (ss:List TE) (q:List UInt8) (k:Int) (w:World) (hs:SvsAt w lv ss) (hl:∀ s ∈ ss,∀ z ∈ s.2,((aM z.1).getD []).length≤1000000) (hb:∀ s ∈ ss,∀ z ∈ s.2,∀ x ∈ z.2,x.data.length≤1000000) :
 Calls Tryz.prog 9 #[lv, .agg #[aE q, .int .i64 k]] w (kX w fun r w'=>∃ v,r=.tuple #[.int .i64 (nP ss k 9 q []).1,v]∧Own w.heap.size 4 37 w' v (aF (nP ss k 9 q []).2)):=by
 go_enter Tryz.func9,Tryz.ntmps9
 refine_lift rW ?_;intro _ _ _;refine jP (vs:=[aE q, .int .i64 k]) fun w1 x1 s1 b1 => ?_;refine aB ?_;have z1:=x1.size;refine_lift bK fun _ _ => ?_;go_loopw [6,13] (fun av iv wr=>∃ (j:Nat) (qj:List UInt8) (all:List Rec),j≤9∧iv=.int .i64 j∧Ext w wr∧wr.heap[w.heap.size]? = some (.cells [aE qj, .int .i64 k].toArray 25 (0,0))∧Own w.heap.size 4 37 wr av (aF all)∧all.length≤5000 * j∧nP ss k (9 - j) qj all=nP ss k 9 q []) (fun _ iv _=>9 - (intOf iv).toNat)
 case atStart=>exact ⟨0,q,[],aC,rfl,x1,b1,Own.nil _ _ _ _,Nat.le_refl _,rfl⟩
 case round =>
  obtain ⟨j,qj,all,hj,rfl,hx,hbq,ho,hal,htr⟩:=hrel;have hpq:=aA (cs:=[aE qj, .int .i64 k]) hbq;by_cases hlt:j < 9
  ·obtain ⟨f,hf⟩:∃ f,9 - j=f + 1:=⟨8 - j,aC⟩;rw [hf,IK ss k f qj all] at htr;refine_lift rS ?_;intro _ _ _ _ _ _;refine gR (Ef lv ss qj _ (hs.ext hx) hl) ?_;rintro _ w2 x2 ⟨u,rfl,hu⟩;refine aB ?_;have hbz:∀ x ∈ (jO qj ss).1.2,x.data.length≤1000000:=by
    rcases WD qj ss with h | ⟨s,hs',h⟩
    ·rw [h];simp
    ·exact hb s hs' _ h
   generalize jO qj ss=Z at *;obtain ⟨ua,ul,uc,hue⟩:∃ a n c,u=.slice a n c:=by
    obtain ⟨_,g,_⟩:=hu.sl;obtain ⟨a,c,e,_⟩:=g;exact ⟨_,_,_,e⟩
   subst hue;refine_lift aR ?_;refine dT (z:=iP) fun w3 x3 s3 b3 => ?_;refine aB ?_;refine dH (v:=.agg #[aE Z.1.1, .slice ua ul uc]) b3 (by simp [Value.cells,aE,Value.oneCell']) fun w4 p4 => ?_;have x34:=cB x3 p4;have x24:=x2.trans x34;have hpz:=aA (cs:=[aE Z.1.1, .slice ua ul uc]) p4.this;have hpq4:=hpq.ext x24;have hbq4:=x24.at hbq;have ho4:=ho.ext x24;have hu4:SetsAt w4 (.slice ua ul uc) Z.1.2:=hu.ext x24;have hx4:=hx.trans x24;clear hpq;by_cases hZ:Z.2 < 0
   ·rw [if_pos hZ] at htr;rw [decide_eq_false (show ¬ (0≤Z.2) by omega)];refine_lift aR ?_;exact bodyPost_ret (results_tmp2 rfl _ _ _) rfl ⟨_,rfl,hx4, .slice none 0 0,by rw [← htr];rfl,by rw [← htr];exact Own.nil _ _ _ _⟩
   ·rw [if_neg hZ] at htr;rw [decide_eq_true (show 0≤Z.2 by omega)];refine_lift bK fun _ _ => ?_;refine gR (WZ Z.1.1 (.slice ua ul uc) Z.1.2 qj k _ hu4 hbz) ?_;rintro _ w5 x5 ⟨y,rfl,u1,u2,u3,rfl,g1,g2,g3⟩;refine aB ?_;have hsml:=KJ (o:=Z.1.1) (l:=Z.1.2) (q:=qj) (k:=k);have hn0:=Af Z.1.1 (.slice ua ul uc) k;generalize iU Z.1.1 Z.1.2 qj k=A at *;generalize rT Z.1.1 Z.1.2 qj=E at *;have hpz5:=hpz.ext x5;have hpq5:=hpq4.ext x5;have hbq5:=x5.at hbq4;have ho5:=ho4.ext x5;have hx5:=hx4.trans x5;clear hpz hpq4;refine_lift aR ?_;refine dT (z:=xH) fun w6 x6 s6 b6 => ?_;refine aB ?_;refine dH (v:=.agg #[.int .i64 A.kind,u1,u2,u3]) b6 (gB rfl g1.one g2.one g3.one) fun w7 p7 => ?_;have x67:=cB x6 p7;have hpa:=aA (cs:=[.int .i64 A.kind,u1,u2,u3]) p7.this;have hpz7:=hpz5.ext x67;have hpq7:=hpq5.ext x67;have hbq7:=x67.at hbq5;have ho7:=ho5.ext x67;have hx7:=hx5.trans x67;have g7:=g1.ext x67;have z57:=x67.size;have z45:=x5.size;have z4:=hx4.size;clear hpz5 hpq5;by_cases hbad:E≠0∨A.kind=3∨A.kind=4
    ·rw [if_pos hbad] at htr
     (repeat' first | ((with_reducible refine bH ?_);go_step) | ((with_reducible refine aV ?_);first | refine dR ?_ | (refine bO ?_ ?_ <;> intro hc)) | fail)
     all_goals first
      | (exact bodyPost_ret (results_tmp2 rfl _ _ _) rfl ⟨_,rfl,hx7, .slice none 0 0,by rw [← htr];rfl,by rw [← htr];exact Own.nil _ _ _ _⟩)
      | (have hh:False:=by
          rcases hbad with h | h | h
          ·exact h (by simpa using ‹(!decide (E=0))=false›)
          ·exact absurd h (by assumption)
          ·exact absurd h (by assumption)
         exact hh.elim)
    ·rw [if_neg hbad] at htr;have hE:E=0:=Classical.not_not.1 fun h=>hbad (.inl h);have h3:¬ A.kind=3:=fun h=>hbad (.inr (.inl h));have h4:¬ A.kind=4:=fun h=>hbad (.inr (.inr h));obtain ⟨hal2,hdl⟩:=hsml hE;subst hE
     (repeat' first | ((with_reducible refine bH ?_);go_step) | ((with_reducible refine aV ?_);first | refine dR ?_ | (refine bO ?_ ?_ <;> intro hc)) | fail)
     all_goals first
      | (exact absurd (by assumption) h3)
      | (exact absurd (by assumption) h4)
      | skip
     have hlr:=aK A.ans;have hla:=aK all;refine bW (e:=37) (k:=4) rfl ho7 rfl g7.sl gM aC aC ?_;intro v8 w8 o8 m8 _;refine aB ?_;have b8:=m8.at p7.this (fun e=>by
      have:=(ho7.block _ e.symm);exact ho7.neBlock p7.this aJ e.symm)
     have bz8:=m8.at (x67.at (x5.at p4.this)) (fun e=>ho7.neBlock (x67.at (x5.at p4.this)) aJ e.symm);have bq8:=m8.at hbq7 (fun e=>ho7.neBlock hbq7 aJ e.symm);have hx8:Ext w w8:=ho7.mvx m8 hx7 (Nat.le_refl _);have z24:=x24.size;have g8:=g7.mv m8 (g7.apart ho z24);have hpa8:=aA (cs:=[.int .i64 A.kind,u1,u2,u3]) b8;have hpz8:=aA (cs:=[aE Z.1.1, .slice ua ul uc]) bz8;have hpq8:=aA (cs:=[aE qj, .int .i64 k]) bq8;have hoa:aF all ++ aF A.ans=aF (all ++ A.ans):=by simp [aF]
     rw [hoa] at o8;have hal8:(all ++ A.ans).length≤5000 * (j + 1):=by rw [List.length_append];omega
     clear hpa hpz7 hpq7;refine_lift bK fun _ _ => ?_;refine bZ (hn0 u1 A.ans _ ⟨_,_,_,rfl⟩ g8.sl hdl) fun w9 x9 => ?_;generalize rD Z.1.1 k A.ans=N at *;have hpa9:=hpa8.ext x9;have bq9:=x9.at bq8;have hx9:=hx8.trans x9;have o9:=o8.ext x9;clear hpa8 hpz8 hpq8;cases hN:N.2 with
     | true =>
      rw [if_pos hN] at htr;refine_lift iX fun _ => ?_;refine eZ 0 (aE N.1) bq9 rfl fun w10 p10 => ?_;refine_lift aR ?_;refine ⟨⟨j + 1,N.1,all ++ A.ans,aC,by go_num,cB hx9 p10,p10.this,eJ o9 p10 bq9,hal8,?_⟩,by simp [intOf];omega⟩;rw [show 9 - (j + 1)=f by omega];exact htr
     | false =>
      rw [if_neg (by rw [hN];simp)] at htr;by_cases h2:A.kind=2
      ·rw [if_pos h2] at htr;refine_lift bK fun _ _ => ?_
       all_goals first
        | (exact bodyPost_ret (results_tmp2 rfl _ _ _) rfl ⟨_,rfl,hx9,v8,by rw [← htr];rfl,by rw [← htr];exact o9⟩)
        | (exact absurd h2 (by assumption))
      ·rw [if_neg h2] at htr;refine_lift bK fun _ _ => ?_
       all_goals first
        | (exact absurd (by assumption) h2)
        | (exact bodyPost_ret (results_tmp2 rfl _ _ _) rfl ⟨_,rfl,hx9,v8,by rw [← htr];rfl,by rw [← htr];exact o9⟩)
  ·have hj9:j=9:=aC;subst hj9;refine_lift iX fun _ => ?_;exact bodyPost_ret (results_tmp2 rfl _ _ _) rfl ⟨_,rfl,hx, .slice none 0 0,by rw [← htr];rfl,by rw [← htr];exact Own.nil _ _ _ _⟩
theorem IL (w:World):Calls Tryz.prog 15 #[] w (kX w fun r w'=>∃ a,r=.agg #[a, .int .i64 20, .int .i64 50, .int .i64 1000, .int .i64 5]∧(∃ b n c,a=.slice b n c)∧Sl 1 w' a (bI [0])):=by
 go_enter Tryz.func15,Tryz.ntmps15
 refine_lift lI ?_;intro _ _ _;refine dT (z:=[.slice none 0 0, .int .i64 0, .int .i64 0, .int .i64 0, .int .i64 0]) fun w1 x1 s1 b1 => ?_;refine aB ?_;refine_lift bK fun _ _ => ?_;refine oN (e:=3) (k:=1) (bytes:=8) (xs:=[.int .i64 0]) (by simp [Value.cells]) fun v2 w2 x2 _ sl2 o2 => ?_;refine aB ?_;obtain ⟨ad2,cap2,rfl⟩:∃ a n,v2=.slice a 1 n:=by
  obtain ⟨a,n,e,_⟩:=sl2;exact ⟨a,n,e⟩
 refine aG (v:=.agg #[.slice ad2 1 cap2, .int .i64 20, .int .i64 50, .int .i64 1000, .int .i64 5]) (Runs.build (vals:=[(0, .slice ad2 1 cap2),(1, .int .i64 20),(2, .int .i64 50),(3, .int .i64 1000),(4, .int .i64 5)]) rfl (by kernel_rfl)) ?_;refine aB ?_;refine dH (v:=.agg #[.slice ad2 1 cap2, .int .i64 20, .int .i64 50, .int .i64 1000, .int .i64 5]) (x2.at b1) (by simp [Value.cells,Value.oneCell']) fun w3 p3 => ?_;refine_lift aR ?_;refine IQ (cs:=[.slice ad2 1 cap2, .int .i64 20, .int .i64 50, .int .i64 1000, .int .i64 5]) p3.this ⟨_,rfl,cB (x1.trans x2) p3,_,rfl,⟨_,_,_,rfl⟩,?_⟩;exact (o2.mv p3.mv (.inr fun e=>by have:=(o2.block _ e).1;omega)).sl
theorem tD (l:List Rec):(l.map kG).map (fun x=>x.cells.toList)=aF l:=by
 simp [aF,kG,Rec.cells,Value.cells]
def uQ (l:List Rec):List SrvR:=[⟨0,fZ [] AT,Aw⟩,⟨1,fZ [1,97] (pN l),Ax l⟩]
theorem XZ (v:Value) (l:List Rec) (w:World) (hv:Sl 4 w v (aF l)) (hl:l.length≤5000) (hd:∀ r ∈ l,r.data.length≤4611686018427387904) :
 Calls Tryz.prog 13 #[v] w (kX w fun r w'=>∃ u,r=.tuple #[u, .bool (decide (jJ [1,97] (pN l)=0))]∧SrvsAt w' u (uQ l)):=by
 have hlen:=aK l;go_enter Tryz.func13,Tryz.ntmps13
 refine_lift lI ?_;intro _ _ _;refine aG (v:=kG ⟨[],6,9,OI⟩) (Runs.build (vals:=[(1, .int .i64 6),(2, .int .i64 9),(3,aE OI)]) rfl (by kernel_rfl)) ?_;refine aB ?_;refine aG (v:=kG ⟨[],2,9,[1,114,0]⟩) (Runs.build (vals:=[(1, .int .i64 2),(2, .int .i64 9),(3,aE [1,114,0])]) rfl (by kernel_rfl)) ?_;refine aB ?_;refine aG (v:=kG ⟨[1,97],2,9,[1,110,1,97,0]⟩) (Runs.build (vals:=[(0,aE [1,97]),(1, .int .i64 2),(2, .int .i64 9),(3,aE [1,110,1,97,0])]) rfl (by kernel_rfl)) ?_;refine aB ?_;refine aG (v:=kG ⟨[1,110,1,97],1,9,[10,0,0,1]⟩) (Runs.build (vals:=[(0,aE [1,110,1,97]),(1, .int .i64 1),(2, .int .i64 9),(3,aE [10,0,0,1])]) rfl (by kernel_rfl)) ?_;refine aB ?_;refine oN (e:=37) (k:=4) (bytes:=48) (xs:=AT.map kG) (by
  intro x hx;obtain ⟨r,_,rfl⟩:=List.mem_map.1 hx;simp [kG,Value.cells]) (fun v1 w1 x1 _ sl1 _ => ?_) (hk2:=by decide)
 refine aB ?_;rw [tD] at sl1;refine gR (QC [] v1 AT _ sl1 aJ aJ) ?_;rintro _ w2 x2 ⟨u2,rfl,hs2⟩;refine aB ?_;rw [Cn];obtain ⟨ua,ul,uc,hu2⟩:∃ a n c,u2=.slice a n c:=by
  obtain ⟨_,g,_⟩:=hs2.sets.sl;obtain ⟨a,c,e,_⟩:=g;exact ⟨_,_,_,e⟩
 subst hu2;have hs2:SetsAt w2 (.slice ua ul uc) Aw:=hs2.sets;refine_lift aR ?_;refine dT (z:=iP) fun w3 x3 s3 b3 => ?_;refine aB ?_;refine dH (v:=.agg #[aE (fZ [] AT), .slice ua ul uc]) b3 (by simp [Value.cells,aE,Value.oneCell']) fun w4 p4 => ?_;have x34:=cB x3 p4;have x04:=x1.trans (x2.trans x34);have b4:=p4.this;refine_lift bK fun _ _ => ?_;refine aG (v:=kG ⟨[1,97],6,9,OI⟩) (Runs.build (vals:=[(0,aE [1,97]),(1, .int .i64 6),(2, .int .i64 9),(3,aE OI)]) rfl (by kernel_rfl)) ?_;refine aB ?_;refine aG (v:=kG ⟨[1,97],2,9,[1,110,1,97,0]⟩) (Runs.build (vals:=[(0,aE [1,97]),(1, .int .i64 2),(2, .int .i64 9),(3,aE [1,110,1,97,0])]) rfl (by kernel_rfl)) ?_;refine aB ?_;refine aG (v:=kG ⟨[1,110,1,97],1,9,[10,0,0,1]⟩) (Runs.build (vals:=[(0,aE [1,110,1,97]),(1, .int .i64 1),(2, .int .i64 9),(3,aE [10,0,0,1])]) rfl (by kernel_rfl)) ?_;refine aB ?_;refine oN (e:=37) (k:=4) (bytes:=48) (xs:=(pN []).map kG) (by
  intro x hx;obtain ⟨r,_,rfl⟩:=List.mem_map.1 hx;simp [kG,Value.cells]) (fun v5 w5 x5 _ _ o5 => ?_) (hk2:=by decide)
 refine aB ?_;rw [tD] at o5;have x05:=x04.trans x5;refine_lift bK fun _ _ => ?_;have z5:=x05.size;have hl3:(aF (pN [])).length=3:=rfl;refine bW (B:=w4.heap.size) (e:=37) (k:=4) rfl o5 rfl (hv.ext x05) gM x5.size aC ?_;intro v6 w6 o6 m6 _;refine aB ?_;have x6:Ext w4 w6:=o5.mvx m6 x5 (Nat.le_refl _);have e6:aF (pN []) ++ aF l=aF (pN l):=by simp [aF,pN]
 rw [e6] at o6;have b6:=x6.at b4;refine_lift bK fun _ _ => ?_;refine gR (QC [1,97] v6 (pN l) _ o6.sl (by simp [pN];omega) (by
  intro r hr;rcases List.mem_append.1 hr with hr | hr
  ·exact (show ∀ r ∈ pN [],r.data.length≤4611686018427387904 by decide) r (List.mem_append_left _ hr)
  ·exact hd r hr)) ?_
 rintro _ w7 x7 ⟨u7,rfl,hs7⟩;refine aB ?_;obtain ⟨va,vl,vc,hu7⟩:∃ a n c,u7=.slice a n c:=by
  obtain ⟨_,g,_⟩:=hs7.sets.sl;obtain ⟨a,c,e,_⟩:=g;exact ⟨_,_,_,e⟩
 subst hu7;have hs7:SetsAt w7 (.slice va vl vc) (Ax l):=hs7.sets;refine_lift aR ?_;refine dT (z:=iP) fun w8 x8 s8 b8 => ?_;refine aB ?_;refine dH (v:=.agg #[aE (fZ [1,97] (pN l)), .slice va vl vc]) b8 (by simp [Value.cells,aE,Value.oneCell']) fun w9 p9 => ?_;have x79:=cB x8 p9;have x69:=x7.trans x79;have b9:=x69.at b6;have hpR:=aA (cs:=[aE (fZ [] AT), .slice ua ul uc]) b9;have hpA:=aA (cs:=[aE (fZ [1,97] (pN l)), .slice va vl vc]) p9.this;refine_lift bK fun _ _ => ?_;refine oN (e:=70) (k:=2) (bytes:=40) (xs:=[.agg #[aE (fZ [] AT), .slice ua ul uc]]) (by simp [Value.cells]) fun v10 w10 x10 _ sl10 _ => ?_;refine aB ?_;obtain ⟨ad10,cap10,rfl⟩:∃ a n,v10=.slice a 1 n:=by
  obtain ⟨a,n,e,_⟩:=sl10;exact ⟨a,n,e⟩
 refine aG (v:=.agg #[.int .i64 0, .slice ad10 1 cap10]) (Runs.build (vals:=[(0, .int .i64 0),(1, .slice ad10 1 cap10)]) rfl (by kernel_rfl)) ?_;refine aB ?_;have hpA10:=hpA.ext x10;clear hpA hpR;refine_lift aR ?_;refine oN (e:=70) (k:=2) (bytes:=40) (xs:=[.agg #[aE (fZ [1,97] (pN l)), .slice va vl vc]]) (by simp [Value.cells]) fun v11 w11 x11 _ sl11 _ => ?_;refine aB ?_;obtain ⟨ad11,cap11,rfl⟩:∃ a n,v11=.slice a 1 n:=by
  obtain ⟨a,n,e,_⟩:=sl11;exact ⟨a,n,e⟩
 refine aG (v:=.agg #[.int .i64 1, .slice ad11 1 cap11]) (Runs.build (vals:=[(0, .int .i64 1),(1, .slice ad11 1 cap11)]) rfl (by kernel_rfl)) ?_;refine aB ?_;refine oN (e:=79) (k:=2) (bytes:=32) (xs:=[.agg #[.int .i64 0, .slice ad10 1 cap10], .agg #[.int .i64 1, .slice ad11 1 cap11]]) (by simp [Value.cells]) fun v12 w12 x12 _ sl12 _ => ?_;refine aB ?_;have x1012:=x11.trans x12;have xl:Ext w w12:=x04.trans (x6.trans (x69.trans (x10.trans x1012)));have hfin:SrvsAt w12 v12 (uQ l):=by
  refine ⟨_,sl12,rfl,fun i s hi => ?_⟩
  match i,hi with
  | 0,hi =>
   cases hi
   refine ⟨.slice ad10 1 cap10,rfl,_,sl10.ext x1012,rfl,fun i z hi => ?_⟩
   match i,hi with
   | 0,hi =>
    cases hi
    exact ⟨.slice ua ul uc,rfl,hs2.ext (x34.trans (x6.trans (x69.trans (x10.trans x1012))))⟩
  | 1,hi =>
   cases hi
   refine ⟨.slice ad11 1 cap11,rfl,_,sl11.ext x12,rfl,fun i z hi => ?_⟩
   match i,hi with
   | 0,hi =>
    cases hi
    exact ⟨.slice va vl vc,rfl,hs7.ext (x79.trans (x10.trans x1012))⟩
 refine_lift aR ?_;exact bodyPost_ret (results_tmp2 rfl _ _ _) rfl ⟨_,rfl,xl,v12,rfl,hfin⟩
theorem Ag:AskOk Dk tq 0:=by
 refine ⟨by decide,by decide +kernel,by decide,by decide,by decide +kernel,by decide +kernel,by decide,by decide,by decide,by decide,by decide,by decide,?_,fun _=>rfl,?_,fun _=>rfl⟩
 ·intro y h;cases h
 ·intro i e h;cases h
theorem YA:(bJ (qM 5 tq)).2=0∧1≤(qB 5 tq).length∧(qB 5 tq).length≤65535:=zDk
theorem KK {b:List UInt8} (h:(cO b).2=0):cO b=((cO b).1,0):=by rw [← h]
theorem BO:(1≤(bJ IF.q).1.length∧(bJ IF.q).1.length≤65535)∧(1≤XO.length∧XO.length≤65535)∧(1≤(bJ FP.q).1.length∧(bJ FP.q).1.length≤65535)∧(1≤XR.length∧XR.length≤65535)∧(1≤XU.length∧XU.length≤65535):=zDk
theorem Ah:TaskB IF.t 10:=by
 refine ⟨by decide +kernel,by decide +kernel,by decide +kernel,by decide +kernel,by decide +kernel,?_⟩;intro a h;have h0:IF.t.stop=none:=zDk;rw [h0] at h;cases h
theorem Ai:TaskB FP.t 10:=by
 refine ⟨by decide +kernel,by decide +kernel,by decide +kernel,by decide +kernel,by decide +kernel,?_⟩;intro a h;have h0:FP.t.stop=none:=zDk;rw [h0] at h;cases h
theorem Aj:iK [hR] (bJ IF.q).1 false=(XO,true):=by
 show _=((iK [hR] (bJ IF.q).1 false).1,true);rw [← Cr]
theorem Ak:iK [hA [gD]] (bJ FP.q).1 false=(XR,true):=by
 show _=((iK [hA [gD]] (bJ FP.q).1 false).1,true);rw [← Cx]
theorem Al:tS2.nt=some FP:=by
 have h:=SU.1;unfold FP;cases hh:tS2.nt with
 | none=>rw [hh] at h;cases h
 | some x=>rfl
theorem KM:tS3.out=[(91,XU)]:=by
 have h:=Da;unfold XU
 match tS3.out,h with
 | [(a,b)],h =>
  simp at h;rw [h];rfl
theorem iD:((XP.an.length≤300∧XP.au.length≤300∧XP.ex.length≤300)∧(XS.an.length≤300∧XS.au.length≤300∧XS.ex.length≤300))∧(XP.au.all fun r=>decide (r.data.length≤1000))=true∧(XP.ex.all fun r=>decide (r.data.length≤1000))=true∧(XS.au.all fun r=>decide (r.data.length≤1000))=true∧(XS.ex.all fun r=>decide (r.data.length≤1000))=true:=zDk
theorem uR {t:TaskR} {l:List Rec} (h:(l.all fun r=>decide (r.data.length≤1000))=true) (z:List UInt8) (k:Int):∀ r ∈ t.of l z k,r.data.length≤9223372036854775807:=by
 refine UZ fun r hr => ?_;have:=List.all_eq_true.1 h r hr;simp at this;omega
theorem FK:SrvOk (uQ [gD]):=by
 refine ⟨by decide,by decide +kernel,by decide +kernel,by decide +kernel,?_⟩;have h:((uQ [gD]).all fun s=>decide (s.l.length≤100000) && s.l.all fun x=>decide (x.data.length≤1000000))=true:=zDk;intro s hs;have h1:=List.all_eq_true.1 h s hs;simp only [Bool.and_eq_true,decide_eq_true_eq,List.all_eq_true] at h1;exact h1
theorem MC:((uQ [gD])[0]?).map SrvR.held=some hR∧((uQ [gD])[1]?).map SrvR.held=some (hA [gD]):=by
 have h1:=Cn;have h2:=Co;constructor
 ·show some (SrvR.held ⟨0,fZ [] AT,Aw⟩)=_;unfold fZ;rw [if_pos h1];rfl
 ·show some (SrvR.held ⟨1,fZ [1,97] (pN [gD]),Ax [gD]⟩)=_;unfold fZ;rw [if_pos h2];rfl
def Am (l:List Rec):List TE:=(uQ l).map fun s=>(s.node,[(s.o,s.l)])
theorem TI:nP (Am [gD]) 1 9 [1,120,1,97] []=(0,[gD]):=by
 have h:(nP (Am [gD]) 1 9 [1,120,1,97] []).1=0∧(nP (Am [gD]) 1 9 [1,120,1,97] []).2=[gD]:=zDk;exact Prod.ext h.1 h.2
theorem SrvsAt.svs {ss:List SrvR} (h:SrvsAt w v ss):SvsAt w v (ss.map fun s=>(s.node,[(s.o,s.l)])):=by
 obtain ⟨css,h1,h2,h3⟩:=h;refine ⟨css,h1,by rw [h2,List.length_map],fun i s hi => ?_⟩;rw [List.getElem?_map] at hi;obtain ⟨t,ht,rfl⟩:=Option.map_eq_some_iff.1 hi;exact h3 i t ht
theorem IM:(∀ s ∈ Am [gD],∀ z ∈ s.2,((aM z.1).getD []).length≤1000000)∧∀ s ∈ Am [gD],∀ z ∈ s.2,∀ x ∈ z.2,x.data.length≤1000000:=by
 have h:((Am [gD]).all fun s=>s.2.all fun z=>decide (((aM z.1).getD []).length≤1000000) && z.2.all fun x=>decide (x.data.length≤1000000))=true:=zDk;have h1:=List.all_eq_true.1 h;constructor
 ·intro s hs z hz;have:=List.all_eq_true.1 (h1 s hs) z hz;simp only [Bool.and_eq_true,decide_eq_true_eq] at this;exact this.1
 ·intro s hs z hz x hx;have:=List.all_eq_true.1 (h1 s hs) z hz;simp only [Bool.and_eq_true,decide_eq_true_eq,List.all_eq_true] at this;exact this.2 x hx
theorem Kf.mvb {T:List TypeId} {N:List Nat} {t:Nat} (hm:Mv (some b) w w') (hb:w.heap[b]? = some (.cells cs t fz)) (ht:t ∈ T):Kf T N w w':=by
 refine ⟨fun j cs' t' fz' hj ht'=>hm.at hj (fun e => ?_),fun j es c hj _=>hm.at hj (fun e => ?_)⟩
 ·cases e
  rw [hb] at hj;injection (Option.some.inj hj) with _ e2
  exact ht' (e2 ▸ ht)
 ·cases e
  rw [hb] at hj;cases hj
theorem WF {wL:World} {M:NodeM} {S:NodeR} (h:NodeI wL w M S) (now:Int) (hn:0≤now∧now≤1099511627776) (hI:S.nt=none) :
 Calls Tryz.prog 47 #[.pointer (some ⟨M.nb,0,none⟩), .int .i64 now] w (IH wL w M S True []):=by
 have cN:∀ w',Ext w w'→Calls Tryz.prog 94 #[.pointer (some ⟨M.nb,0,none⟩)] w' (kX w' fun r w''=>Own 0 1 3 w'' r []):=fun w' hx=>by
  refine (DN (h.w.grow hx)).mono ?_;rintro e w'' ⟨r,rfl,hxx,hr⟩;rw [show AR S=[] by rw [AR,hI]] at hr;exact ⟨r,rfl,hxx,hr.weaken (Nat.zero_le _)⟩
 go_enter Tryz.func47,Tryz.ntmps47
 refine_lift mP fun _ _ _ _ => ?_;refine bZ (rC hn _) fun w1 x1 => ?_;refine_lift mP fun _ _ _ _ => ?_;refine gR (cN _ x1) fun v w2 x2 o2 => ?_;refine aB ?_;have sl2:=o2.sl;have ul:(([]:List (List Value))).length=0:=rfl;have x02:=x1.trans x2;refine_lift aR ?_;go_loopw [18] (fun iv w9=>iv=.int .i64 0∧w9=w2) (fun _ _=>0)
 case atStart=>exact ⟨rfl,rfl⟩
 case round =>
  obtain ⟨rfl,rfl⟩:=hrel;refine_lift lI fun _ _ _ => ?_;refine gI (FJ (h.w.grow x02)) ?_;rintro _ w7 ⟨rfl,h7,o7,k7,f7,z7⟩;refine ⟨_,rfl,?_⟩;refine aB ?_;refine_lift aR ?_;go_ret;exact ⟨_,⟨M.nb,M.rv, .slice none 0 0,M.cb,M.em,M.db,M.tb,M.tm,M.mb,M.sb⟩,rfl,rfl,h7,o7,(Ko.of x02).trans k7,fun _=>⟨(Bn.of x02).trans x02.size f7,fun _=>⟨rfl,rfl,rfl⟩⟩,by have:=x02.size;omega⟩
theorem KN {b0:Nat} {Y:TierM} {ss:List SrvR} {room now:Int} {S:NodeR} {p:iW} {pv:Value} (h:TierW b0 w Y ss room S [p] pv (.slice none 0 0) now) (hp:p.2.1=91) (hl:p.2.2.length≤1000000) {m:MsgR} (hd:cO p.2.2=(m,0)) (hm:m.resp=true) :
 Calls Tryz.prog 17 #[.pointer (some ⟨Y.tb,0,none⟩), .int .i64 0] w (fun e w'=>e=.returned (.bool true)∧Lo b0 w w'∧∃ pv' hv q a u x B,TierW b0 w' Y ss room S [] pv' hv now∧Own Y.L 13 54 w' hv [aO m q a u x]∧MsgW B w' m q a u x):=by
 obtain ⟨q1,q2,q3⟩:=p;have hq:q2=91:=hp;subst hq;have hblk:=h.blk;obtain ⟨l1,l2,l3,l4⟩:=h.le;obtain ⟨d1,d2,d3,d4⟩:=h.b0;obtain ⟨wL,eL,hN⟩:=h.nod;go_enter Tryz.func17,Tryz.ntmps17
 have hpt:=aA (cs:=[.pointer (some ⟨Y.nb,0,none⟩), .pointer (some ⟨Y.M.nb,0,none⟩), .map (some Y.hm), .slice none 0 0, .int .i64 now]) hblk;refine_lift lI ?_;intro _ _ _;refine gI (FI h.net aC) ?_;rintro _ w1 ⟨rfl,pv1,n1,k1,lo1,_⟩;refine ⟨_,rfl,?_⟩;refine aB ?_;have z1:=lo1.size;have b1:=k1.cells _ _ _ _ hblk aJ;refine_lift aR ?_;refine dT (z:=iL) fun w2 x2 s2 b2 => ?_;refine aB ?_;refine dH (v:=.agg #[.int .i64 q1, .int .i64 91,aE q3]) b2 (by simp [Value.cells,aE,Value.oneCell']) fun w3 p3 => ?_;have x13:=cB x2 p3;have hpp:=aA (cs:=[.int .i64 q1, .int .i64 91,aE q3]) p3.this;have hN1:=hN.kf (T:=[147,107]) k1 aJ z1;rw [eL] at hN1;have hH1:=h.held.lo lo1 aC (Nat.le_refl _) aC;have cD:=vP (w:=w3) q3 hl;unfold xZ at cD;rw [hd] at cD;clear hpt;refine_lift EA fun _ _ _ _ _ => ?_;refine gI cD ?_;rintro _ w4 ⟨q,a,u,x,rfl,⟨o1,o2,o3,o4⟩,x4⟩;refine ⟨_,rfl,?_⟩;refine aB ?_;have x14:=x13.trans x4;have hm4:MsgW w3.heap.size w4 m q a u x:=⟨o1,o2,o3,o4⟩;refine_lift aR ?_;refine dT (z:=iV) fun w5 x5 s5 b5 => ?_;refine aB ?_;refine dH (v:=.agg (aO m q a u x).toArray) b5 (dP (hm4.msg.ext x5)) fun w6 p6 => ?_;have x46:=cB x5 p6;have x16:=x14.trans x46;have hpm:=aA (cs:=aO m q a u x) p6.this;unfold aO at hpm;rw [hm] at hpm;have hpt6:=aA (cs:=[.pointer (some ⟨Y.nb,0,none⟩), .pointer (some ⟨Y.M.nb,0,none⟩), .map (some Y.hm), .slice none 0 0, .int .i64 now]) (x16.at b1);clear hpp;refine_lift aR ?_;have hm6:=hm4.ext x46;have z6:=x16.size;refine aP 7 (Ext w6) zDk ?_;intro w7 x7 _;refine ⟨x7,?_⟩;refine dC 0 ?_;refine dC 1 ?_;refine dC 2 ?_;refine dC 3 ?_;refine bE 4 ?_;refine bE 5 ?_;refine dM 6 ?_;refine oN (e:=54) (k:=13) (bytes:=144) (xs:=[.agg #[.int .i64 m.id, .bool true, .int .i64 m.op, .bool m.auth, .bool m.trunc, .bool m.want, .bool m.avail, .int .i64 m.rcode,q,a,u,x, .int .i64 m.size]]) (by simp [Value.cells]) fun v8 w8 x8 _ sl8 _ => ?_;refine aB ?_;have x68:=x7.trans x8;refine aD ⟨aS x68,?_⟩;refine dM 7 ?_;refine bW (B:=w8.heap.size) (e:=54) (k:=13) rfl (Own.nil _ _ _ _) rfl sl8 (by
  intro f hf v hv;have hf:f=[.int .i64 m.id, .bool true, .int .i64 m.op, .bool m.auth, .bool m.trunc, .bool m.want, .bool m.avail, .int .i64 m.rcode,q,a,u,x, .int .i64 m.size]:=by simpa [Value.cells] using hf
  have:=dP hm6.msg;simp only [Value.cells] at this;rw [hf] at hv;have h9:=List.all_eq_true.1 (by simpa using this) v (by unfold aO;rw [hm];exact hv);exact h9) (Nat.le_refl _) aX ?_
 intro v9 w9 o9 m9 _;refine aB ?_;have x89:Ext w8 w9:=(Own.nil w8.heap.size 13 54 w8).mvx m9 (Ext.refl _) (Nat.le_refl _);have x69:=x68.trans x89;have x19:=x16.trans x69;refine aD ⟨aN rfl,?_⟩;refine dC 8 ?_;refine dC 9 ?_;refine dM 10 ?_;have b9:=x19.at b1;refine eZ 3 v9 b9 o9.one fun w10 p10 => ?_;refine aD ⟨aN rfl,?_⟩;refine kK ?_;refine_lift aR ?_;go_ret;have z9:=x19.size;have z8:=x68.size;have z10:=p10.size;have hm9:=hm6.ext x69;have e9:([]:List (List Value)) ++ List.map (fun x=>x.cells.toList) [Value.agg #[.int .i64 m.id, .bool true, .int .i64 m.op, .bool m.auth, .bool m.trunc, .bool m.want, .bool m.avail, .int .i64 m.rcode,q,a,u,x, .int .i64 m.size]]=[aO m q a u x]:=by
  unfold aO;rw [hm];simp [Value.cells]
 rw [e9] at o9;have k10:Kf [92] [] w9 w10:=Kf.put p10 b9 aX;have lo10:Lo b0 w9 w10:=Lo.put p10 d1;have hH9:=hH1.mid (w':=w9) (fun _ _=>x19.at) (Mid.of x19 aC) aC aC;have hH10:=hH9.mid (w':=w10) (fun es c e=>by rw [p10.other _ (by intro e';rw [e',b9] at e;cases e)];exact e) (fun g g1 g2=>p10.other g aC) aC aC;have n9:=n1.ext x19;have n10:NetV Y.Hn w10 Y.nb 100 room pv1 []:=⟨n9.ge,(p10.other _ aC).trans n9.blk,n9.row.keep k10.keep aJ⟩;have hN10:=(hN1.grow x19).kf (T:=[92]) k10 aJ aC;rw [cM aC] at hN10;have hlo:Lo b0 w w10:=(lo1.mono aC).trans ((Lo.of x19).trans lo10);refine ⟨rfl,hlo,pv1,v9,q,a,u,x,w3.heap.size,⟨h.b0,⟨l1,l2,l3,aC⟩,p10.this,n10,⟨_,cM (w:=w10) (n:=Y.L) aC,hN10⟩,hH10⟩,(o9.keep k10.keep aJ).weaken aC,?_⟩;exact ⟨hm9.oq.keep k10.keep aJ,hm9.oa.keep k10.keep aJ,hm9.ou.keep k10.keep aJ,hm9.oe.keep k10.keep aJ⟩
theorem De {b0:Nat} {Y:TierM} {ss:List SrvR} {room now:Int} {S:NodeR} {pv hv:Value} (h:TierW b0 w Y ss room S [] pv hv now) (hr:1≤room∧room≤1000) (id:Int) (q:mH) (hE:(bJ (qM id q)).2=0) (hl:1≤(qB id q).length∧(qB id q).length≤65535) :
 Calls Tryz.prog 16 #[.pointer (some ⟨Y.tb,0,none⟩), .int .i64 id, .agg #[aE q.1, .int .i64 q.2]] w (fun e w'=>e=.returned (.int .i64 0)∧Lo b0 w w'∧∃ pv',TierW b0 w' Y ss room S [(91,90,qB id q)] pv' hv now):=by
 have hblk:=h.blk;obtain ⟨l1,l2,l3,l4⟩:=h.le;obtain ⟨d1,d2,d3,d4⟩:=h.b0;obtain ⟨wL,eL,hN⟩:=h.nod;go_enter Tryz.func16,Tryz.ntmps16
 refine_lift rW ?_;intro _ _ _;refine jP (vs:=[aE q.1, .int .i64 q.2]) fun w1 x1 s1 b1 => ?_;refine aB ?_;have hpq:=aA (cs:=[aE q.1, .int .i64 q.2]) b1;refine_lift bK fun _ _ => ?_;refine oN (e:=25) (k:=2) (bytes:=24) (xs:=[.agg #[aE q.1, .int .i64 q.2]]) (by simp [Value.cells]) fun v2 w2 x2 _ sl2 _ => ?_;refine aB ?_;obtain ⟨ad2,cap2,rfl⟩:∃ a n,v2=.slice a 1 n:=by
  obtain ⟨a,n,e,_⟩:=sl2;exact ⟨a,n,e⟩
 refine aG (v:=.agg (aO (qM id q) (.slice ad2 1 cap2) aI aI aI).toArray) (Runs.build (vals:=[(0, .int .i64 id),(5, .bool true),(8, .slice ad2 1 cap2)]) rfl (by kernel_rfl)) ?_;refine aB ?_;have hm2:MsgV w2 (qM id q) (.slice ad2 1 cap2) aI aI aI:=⟨sl2,Sl.nil _ _,Sl.nil _ _,Sl.nil _ _⟩;refine_lift aR ?_;refine bZ (rB hm2) fun w3 x3 => ?_;rw [hE];have x03:=x1.trans (x2.trans x3);have hpt:=aA (cs:=[.pointer (some ⟨Y.nb,0,none⟩), .pointer (some ⟨Y.M.nb,0,none⟩), .map (some Y.hm),hv, .int .i64 now]) (x03.at hblk);clear hpq;refine_lift bK fun _ _ => ?_;refine aG (v:=.agg #[.int .i64 91, .int .i64 90,aE (qB id q)]) (Runs.build (vals:=[(0, .int .i64 91),(1, .int .i64 90),(2,aE (qB id q))]) rfl (by kernel_rfl)) ?_;refine aB ?_;refine_lift aR ?_;have z3:=x03.size;refine gI (KI (h.net.ext x03) aC (91,90,qB id q) (by show (0:Int)≤91∧(91:Int)≤100 - 1;decide) (by show (0:Int)≤90∧(90:Int)≤100 - 1;decide) hl (by show ((0:Nat):Int) < room;omega) hr.2 aJ) ?_;rintro _ w7 ⟨rfl,pv7,n7,k7,lo7,_⟩;refine ⟨_,rfl,?_⟩;refine aB ?_;refine_lift aR ?_;go_ret;have z7:=lo7.size;have hH6:=h.held.mid (w':=w3) (fun _ _=>x03.at) (Mid.of x03 aC) aC aC;have hH7:=hH6.lo lo7 aC (Nat.le_refl _) aC;have hN7:=(hN.grow x03).kf (T:=[147,107]) k7 aJ z7;rw [eL] at hN7;exact ⟨rfl,(Lo.of x03).trans (lo7.mono aC),pv7,h.b0,⟨l1,l2,l3,aC⟩,k7.cells _ _ _ _ (x03.at hblk) aJ,n7,⟨_,cM (w:=w7) (n:=Y.L) aC,hN7⟩,hH7⟩
theorem NodeR.noout {S:NodeR} (h:S.out=[]):({ S with out:=[] }:NodeR)=S:=by
 cases S
 cases h
 rfl
abbrev YB:List TypeId:=[92,147,107,155]
theorem TJ {b0:Nat} {Y:TierM} {ss:List SrvR} {room now:Int} {S:NodeR} {ps:List iW} {pv hv:Value} (h:TierW b0 w Y ss room S ps pv hv now) (hI:S.nt=none) (t:Int) (ht:t≤10000) (hn:0≤now∧now≤1000000000) (hps:(ps.length:Int)≤room) (hr:room≤1000) :
 Calls Tryz.prog 20 #[.pointer (some ⟨Y.tb,0,none⟩), .int .i64 t] w (fun e w'=>e=.returned (.tuple #[])∧Lo b0 w w'∧Kf YB [] w w'∧∃ M' pv',TierW b0 w' { Y with M:=M' } ss room S ps pv' hv (now + (t.toNat:Nat))):=by
 obtain ⟨l1,l2,l3,l4⟩:=h.le;obtain ⟨d1,d2,d3,d4⟩:=h.b0;go_enter Tryz.func20,Tryz.ntmps20
 refine_lift bK ?_;intro _ _;go_loopw [11] (fun iv wr=>∃ (k:Nat) (M':NodeM) (pv':Value),k≤t.toNat∧iv=.int .i64 k∧Lo b0 w wr∧Kf YB [] w wr∧TierW b0 wr { Y with M:=M' } ss room S ps pv' hv (now + k)) (fun iv _=>t.toNat - (intOf iv).toNat)
 case atStart=>exact ⟨0,Y.M,pv,Nat.zero_le _,rfl,Lo.of (Ext.refl _),Kf.of (Ext.refl _),by rw [show now + ((0:Nat):Int)=now by omega];exact h⟩
 case round =>
  obtain ⟨k,M',pv',hk,rfl,hL,hK,hT⟩:=hrel;have hblk:=hT.blk;obtain ⟨wL,eL,hN⟩:=hT.nod;have hout:=hN.out;have m4:=hT.le.2.2.2;have hnet:=hT.net;have hheld:=hT.held;dsimp only at hblk eL hN m4 hnet hheld;clear hT;by_cases hlt:(k:Int) < t
  ·have hpt:=aA (cs:=[.pointer (some ⟨Y.nb,0,none⟩), .pointer (some ⟨M'.nb,0,none⟩), .map (some Y.hm),hv, .int .i64 (now + k)]) hblk;refine_lift rS ?_;intro _ _ _ _ _ _;refine eZ 4 (.int .i64 (now + k + 1)) hblk rfl fun w1 p1 => ?_;have z1:=p1.size;have k1:Kf [92] [] wr w1:=Kf.put p1 hblk aX;have b1:=p1.this;have hN1:=hN.kf (T:=[92]) k1 aJ aC;rw [eL] at hN1;have n1:NetV Y.Hn w1 Y.nb 100 room pv' ps:=⟨hnet.ge,(p1.other _ aC).trans hnet.blk,hnet.row.keep k1.keep aJ⟩;have hH1:=hheld.mid (w':=w1) (fun es c e=>by rw [p1.other _ (by intro e';rw [e',hblk] at e;cases e)];exact e) (fun g g1 g2=>p1.other g aC) aC aC;have hpt1:=aA (cs:=[.pointer (some ⟨Y.nb,0,none⟩), .pointer (some ⟨M'.nb,0,none⟩), .map (some Y.hm),hv, .int .i64 (now + k + 1)]) b1;clear hpt;refine_lift aR ?_;refine aP 9 (Ext w1) zDk ?_;intro w2 x2 _;refine ⟨x2,?_⟩;refine dC 0 ?_;refine dC 1 ?_;refine dC 2 ?_;refine dC 3 ?_;refine bE 4 ?_;refine dC 5 ?_;refine dC 6 ?_;refine dC 7 ?_;refine bE 8 ?_;refine dM 9 ?_;have z2:=x2.size;have hN2:=(hN1.grow x2).here;rw [cM aC] at hN2;refine gI (WF hN2 (now + k + 1) ⟨aC,aC⟩ hI) ?_;rintro _ w3 ⟨r,M3,rfl,nM,hN3,o3,ko3,hb3,z3⟩;refine ⟨_,rfl,?_⟩;refine aB ?_;refine aD ⟨aN rfl,?_⟩;have bn3:=(hb3 trivial).1;have lo3:Lo Y.L w2 w3:=Lo.cut hN3.w.ext aC z3;have k3:Kf [155] [] w2 w3:=by
    have hnb:=hN2.w.nod.blk;refine ⟨fun c cs t fz hc ht => ?_,fun c es q hc _ => ?_⟩
    ·have hl:=(Array.getElem?_eq_some_iff.1 hc).1;rw [bn3 c hl hl (by simp;rintro rfl;rw [hnb] at hc;injection (Option.some.inj hc) with _ e2;exact ht (by simp [← e2]))];exact hc
    ·have hl:=(Array.getElem?_eq_some_iff.1 hc).1;rw [bn3 c hl hl (by simp;rintro rfl;rw [hnb] at hc;cases hc)];exact hc
   have b3:=k3.cells _ _ _ _ (x2.at b1) aJ;have n2:=n1.ext x2;have n3:NetV Y.Hn w3 Y.nb 100 room pv' ps:=⟨n2.ge,k3.cells _ _ _ _ n2.blk aJ,n2.row.keep k3.keep aJ⟩;rw [hout] at o3;refine dM 10 ?_;refine gI (MA (os:=[]) b3 n3 aC aC o3 aX (by simpa using hps) hr) ?_;rintro _ w4 ⟨rfl,pv4,n4,k4,lo4⟩;refine ⟨_,rfl,?_⟩;refine aB ?_;refine aD ⟨aN rfl,?_⟩;refine kK ?_;refine_lift aR ?_;have z4:=lo4.size;rw [show ps ++ xO []=ps by simp [xO]] at n4;rw [NodeR.noout hout] at hN3;have hN4:=hN3.kf (T:=[147,107]) k4 aJ z4;have eN:(xN w2 Y.L).heap.size=Y.L:=cM aC;rw [eN] at hN4;have hH4:=((hH1.mid (w':=w2) (fun _ _=>x2.at) (Mid.of x2 aC) aC aC).lo lo3 aC aC aC).lo lo4 aC (Nat.le_refl _) aC;have b4:=k4.cells _ _ _ _ b3 aJ;refine ⟨⟨k + 1,M3,pv4,aC,by go_num,?_,?_,h.b0,⟨l1,l2,l3,by dsimp only;omega⟩,?_,n4,⟨_,cM (w:=w4) (n:=Y.L) aC,hN4⟩,hH4⟩,by simp [intOf];omega⟩
   ·exact hL.trans ((Lo.put p1 d1).trans ((Lo.of x2).trans ((lo3.mono aC).trans (lo4.mono aC))))
   ·exact hK.trans ((k1.mono aX aX).trans ((Kf.of x2).trans ((k3.mono aX aX).trans (k4.mono aX aX))))
   ·dsimp only;rw [nM,show now + ((k + 1:Nat):Int)=now + k + 1 by omega];exact b4
  ·have hkt:k=t.toNat:=aC;subst hkt;refine_lift iX fun _ => ?_
   go_end0
   exact ⟨rfl,hL,hK,M',pv',h.b0,⟨l1,l2,l3,m4⟩,hblk,hnet,⟨wL,eL,hN⟩,hheld⟩
section
variable {b0:Nat} {w:World} {Y:TierM} {ss:List SrvR} {room now:Int} {S:NodeR} {ps:List iW} {pv hv:Value}
theorem WG (h:TierW b0 w Y ss room S [] pv hv now) (i:Int):Calls Tryz.prog 21 #[.pointer (some ⟨Y.tb,0,none⟩), .int .i64 i] w (aY w (.bool false)):=by
 have hpt:=aA (cs:=[.pointer (some ⟨Y.nb,0,none⟩), .pointer (some ⟨Y.M.nb,0,none⟩), .map (some Y.hm),hv, .int .i64 now]) h.blk;go_enter Tryz.func21,Tryz.ntmps21
 refine_lift bK fun _ _ => ?_;refine bZ (LW h.net i) fun w1 x1 => ?_;refine_lift aR ?_;refine dT (z:=iL) fun w2 x2 s2 b2 => ?_;refine aB ?_;refine dH (v:=.agg iL.toArray) b2 (by simp [iL,Value.cells,aE,Value.oneCell']) fun w3 p3 => ?_;refine_lift aR ?_;go_ret;exact ⟨rfl,x1.trans (cB x2 p3)⟩
theorem OP (h:TierW b0 w Y ss room S [] pv hv now) (i:Int):Calls Tryz.prog 22 #[.pointer (some ⟨Y.tb,0,none⟩), .int .i64 i] w (aY w (.int .i64 5)):=by
 have hpt:=aA (cs:=[.pointer (some ⟨Y.nb,0,none⟩), .pointer (some ⟨Y.M.nb,0,none⟩), .map (some Y.hm),hv, .int .i64 now]) h.blk;go_enter Tryz.func22,Tryz.ntmps22
 refine_lift bK fun _ _ => ?_;refine bZ (OL h.net i) fun w1 x1 => ?_;refine_lift aR ?_;go_ret;exact ⟨rfl,x1⟩
theorem IN (h:TierW b0 w Y ss room S ps pv hv now):Calls Tryz.prog 19 #[.pointer (some ⟨Y.tb,0,none⟩)] w (aY w (.int .i64 ps.length)):=by
 have hpt:=aA (cs:=[.pointer (some ⟨Y.nb,0,none⟩), .pointer (some ⟨Y.M.nb,0,none⟩), .map (some Y.hm),hv, .int .i64 now]) h.blk;go_enter Tryz.func19,Tryz.ntmps19
 refine_lift bK fun _ _ => ?_;refine bZ (TA h.net) fun w1 x1 => ?_;refine_lift aR ?_;go_ret;exact ⟨rfl,x1⟩
theorem IP (h:TierW b0 w Y ss room S ps pv hv now):Calls Tryz.prog 23 #[.pointer (some ⟨Y.tb,0,none⟩)] w (aY w (.int .i64 now)):=by
 have hpt:=aA (cs:=[.pointer (some ⟨Y.nb,0,none⟩), .pointer (some ⟨Y.M.nb,0,none⟩), .map (some Y.hm),hv, .int .i64 now]) h.blk;go_enter Tryz.func23,Tryz.ntmps23
 refine_lift aR ?_;go_ret;exact ⟨rfl,Ext.refl _⟩
end
section
variable (w:World)
theorem WH (i:Int):Calls Tryz.prog 21 #[.pointer none, .int .i64 i] w (aY w (.bool false)):=by
 go_enter Tryz.func21,Tryz.ntmps21
 refine_lift aR ?_;go_ret;exact ⟨rfl,Ext.refl _⟩
theorem OQ (i:Int):Calls Tryz.prog 22 #[.pointer none, .int .i64 i] w (aY w (.int .i64 1)):=by
 go_enter Tryz.func22,Tryz.ntmps22
 refine_lift aR ?_;go_ret;exact ⟨rfl,Ext.refl _⟩
theorem An:Calls Tryz.prog 19 #[.pointer none] w (aY w (.int .i64 0)):=by
 go_enter Tryz.func19,Tryz.ntmps19
 refine_lift aR ?_;go_ret;exact ⟨rfl,Ext.refl _⟩
theorem Ao:Calls Tryz.prog 23 #[.pointer none] w (aY w (.int .i64 0)):=by
 go_enter Tryz.func23,Tryz.ntmps23
 refine_lift aR ?_;go_ret;exact ⟨rfl,Ext.refl _⟩
theorem TK:Calls Tryz.prog 18 #[.pointer none] w (aY w (.slice none 0 0)):=by
 go_enter Tryz.func18,Tryz.ntmps18
 refine_lift aR ?_;go_ret;exact ⟨rfl,Ext.refl _⟩
theorem WI (t:Int):Calls Tryz.prog 20 #[.pointer none, .int .i64 t] w (aY w (.tuple #[])):=by
 go_enter Tryz.func20,Tryz.ntmps20
 refine_lift aR ?_;exact bodyPost_ret (results_none rfl _ _ _) rfl ⟨rfl,Ext.refl _⟩
theorem KO (i:Int):Calls Tryz.prog 17 #[.pointer none, .int .i64 i] w (aY w (.bool false)):=by
 go_enter Tryz.func17,Tryz.ntmps17
 refine_lift aR ?_;go_ret;exact ⟨rfl,Ext.refl _⟩
theorem Ap (id:Int) (q:mH):Calls Tryz.prog 16 #[.pointer none, .int .i64 id, .agg #[aE q.1, .int .i64 q.2]] w (aY w (.int .i64 1)):=by
 go_enter Tryz.func16,Tryz.ntmps16
 refine_lift mO fun _ _ => ?_;refine jP (vs:=[aE q.1, .int .i64 q.2]) fun w1 x1 s1 b1 => ?_;refine aB ?_;refine_lift aR ?_;go_ret;exact ⟨rfl,x1⟩
end
def Fq (k:Nat):NodeR:=if k=0 then Dk else if k≤2 then OJ else if k≤4 then VW else VX
def Fs (k:Nat):List iW:=if k=0 then [(91,90,qB 5 tq)] else if k=1 then [(90,0,(bJ IF.q).1)] else if k=2 then [(0,90,XO)] else if k=3 then [(90,1,(bJ FP.q).1)] else if k=4 then [(1,90,XR)] else if k=5 then [(90,91,XU)] else []
def WayT (b0:Nat) (w0 w:World) (tb:Nat) (k:Nat):Prop:=Ext w0 w∧∃ Y pv hv,Y.tb=tb∧TierW b0 w Y (uQ [gD]) 10 (Fq k) (Fs k) pv hv 0∧(k < 6→hv=.slice none 0 0)∧(k=6→∃ q a u x B,Own Y.L 13 54 w hv [aO SX q a u x]∧MsgW B w SX q a u x)
theorem WayT.step {b0:Nat} {tb:Nat} (h:WayT b0 w0 w tb k) (hk:k < 6) (hb:w0.heap.size≤b0):Calls Tryz.prog 17 #[.pointer (some ⟨tb,0,none⟩), .int .i64 0] w (fun e w'=>e=.returned (.bool true)∧WayT b0 w0 w' tb (k + 1)):=by
 obtain ⟨hx,Y,pv,hv,rfl,hT,h1,_⟩:=h;have hv0:=h1 hk;subst hv0
 match k,hT,hk with
 | 0,hT,_ =>
  refine (tC (S':=tS1) hT rfl aJ (fun wL w' hN=>WC hN 91 0 (qB 5 tq) zDk aJ aJ Cq rfl tq rfl rfl Ag) (by
   rw [SS];intro o ho;rw [List.mem_singleton.1 ho];exact ⟨by decide,BO.1⟩) (by rw [SS];decide)).mono ?_
  rintro e w' ⟨rfl,lo,M',pv',hT'⟩;refine ⟨rfl,lo.ext hx hb,{ Y with M:=M' },pv',_,rfl,?_,fun _=>rfl,fun h=>by omega⟩;rw [SS] at hT';exact hT'
 | 1,hT,_ =>
  refine (AW (i:=0) (s:=⟨0,fZ [] AT,Aw⟩) (b:=XO) hT FK rfl rfl aJ aJ (by have:=BO.1;show (bJ IF.q).1.length≤1000000;omega) (by
   have:=MC.1;have h2:SrvR.held ⟨0,fZ [] AT,Aw⟩=hR:=Option.some.inj this;rw [h2];exact Aj) BO.2.1).mono ?_
  rintro e w' ⟨rfl,lo,pv',hT'⟩;exact ⟨rfl,lo.ext hx hb,Y,pv',_,rfl,hT',fun _=>rfl,fun h=>by omega⟩
 | 2,hT,_ =>
  have e1:=SU;refine (tC (S':=tS2) hT rfl aJ (fun wL w' hN=>by
   have:=LZ hN 0 XO (by have:=BO.2.1;omega) Cu (by rw [e1.2.1];decide) aJ (KK Cs) XQ.1 Ct zDk XQ.2 Ah aJ iD.1.1.1 iD.1.1.2.1 iD.1.1.2.2 (fun z=>uR iD.2.1 z 2) (fun z=>uR iD.2.2.1 z 1) (t:=OK.1) (ac:=OK.2.1) (ls:=OK.2.2) rfl (.inl ST.1) zDk zDk aJ Cv (by rw [ST.2.2];decide);rw [e1.2.1] at this;exact this) (by
   rw [SV];intro o ho;rw [List.mem_singleton.1 ho];exact ⟨by decide,BO.2.2.1⟩) (by rw [SV];decide)).mono ?_
  rintro e w' ⟨rfl,lo,M',pv',hT'⟩;refine ⟨rfl,lo.ext hx hb,{ Y with M:=M' },pv',_,rfl,?_,fun _=>rfl,fun h=>by omega⟩;rw [SV] at hT';exact hT'
 | 3,hT,_ =>
  refine (AW (i:=1) (s:=⟨1,fZ [1,97] (pN [gD]),Ax [gD]⟩) (b:=XR) hT FK rfl rfl aJ aJ (by have:=BO.2.2.1;show (bJ FP.q).1.length≤1000000;omega) (by
   have:=MC.2;have h2:SrvR.held ⟨1,fZ [1,97] (pN [gD]),Ax [gD]⟩=hA [gD]:=Option.some.inj this;rw [h2];exact Ak) BO.2.2.2.1).mono ?_
  rintro e w' ⟨rfl,lo,pv',hT'⟩;exact ⟨rfl,lo.ext hx hb,Y,pv',_,rfl,hT',fun _=>rfl,fun h=>by omega⟩
 | 4,hT,_ =>
  have e1:=SU;refine (tC (S':=tS3) hT rfl aJ (fun wL w' hN=>by
   have:=LZ hN 0 XR (by have:=BO.2.2.2.1;omega) Al (by rw [e1.2.2.1];decide) aJ (KK Cy) XT.1 Cw e1.2.2.2.symm XT.2 Ai aJ iD.1.2.1 iD.1.2.2.1 iD.1.2.2.2 (fun z=>uR iD.2.2.2.1 z 2) (fun z=>uR iD.2.2.2.2 z 1) (t:=TO.1) (ac:=TO.2.1) (ls:=TO.2.2) rfl (.inr ⟨SW.1,SW.2.1⟩) zDk zDk aJ Cz (by rw [SW.2.2];decide);rw [e1.2.2.1] at this;exact this) (by
   rw [KM];intro o ho;rw [List.mem_singleton.1 ho];exact ⟨by decide,BO.2.2.2.2⟩) (by rw [KM];decide)).mono ?_
  rintro e w' ⟨rfl,lo,M',pv',hT'⟩;refine ⟨rfl,lo.ext hx hb,{ Y with M:=M' },pv',_,rfl,?_,fun _=>rfl,fun h=>by omega⟩;rw [KM] at hT';exact hT'
 | 5,hT,_ =>
  refine (KN hT rfl (by have:=BO.2.2.2.2;show XU.length≤1000000;omega) (KK Db) SY.1).mono ?_;rintro e w' ⟨rfl,lo,pv',hv,q,a,u,x,B,hT',ho,hm⟩;exact ⟨rfl,lo.ext hx hb,Y,pv',hv,rfl,hT',fun h=>by omega,fun _=>⟨q,a,u,x,B,ho,hm⟩⟩
theorem MD:SX.qs.length≤1000000∧SX.an.length≤1000000∧SX.au.length≤1000000∧SX.ex.length≤1000000:=zDk
theorem rE (w:World):Calls Tryz.prog 8 #[] w (aY w (.bool true)):=by
 go_enter Tryz.func8,Tryz.ntmps8
 refine_lift bK fun _ _ => ?_;refine aG (v:=kG gD) (Runs.build (vals:=[(0,aE [1,120,1,97]),(1, .int .i64 1),(2, .int .i64 7),(3,aE [49,50,51,52])]) rfl (by kernel_rfl)) ?_;refine aB ?_;refine oN (e:=37) (k:=4) (bytes:=48) (xs:=[gD].map kG) (by
  intro x hx;obtain ⟨r,_,rfl⟩:=List.mem_map.1 hx;simp [kG,Value.cells]) (fun v1 w1 x1 _ sl1 _ => ?_) (hk2:=by decide)
 refine aB ?_;rw [tD] at sl1;refine gR (XZ v1 [gD] _ sl1 aJ aJ) ?_;rintro _ w2 x2 ⟨u,rfl,hs⟩;refine aB ?_;rw [decide_eq_true Co];refine_lift bK fun _ _ => ?_;refine gR (IL _) ?_;rintro _ w3 x3 ⟨a,rfl,⟨ab,an,ac,rfl⟩,ha⟩;refine aB ?_;have hok:CfgOk w3 (.slice ab an ac) [0] 20 50 1000 5:=⟨ha,by decide,by decide,by decide,by decide,by decide,by decide⟩;refine gI (LY u (uQ [gD]) _ (hs.ext x3) FK (.slice ab an ac) 20 50 1000 5 10 aJ [0] (.inl hok)) ?_;rintro _ w4 ⟨x4,⟨Y,_,rfl,hT⟩ | ⟨h0,_⟩⟩
 rotate_left
 ·exact absurd h0 aJ
 refine ⟨_,rfl,?_⟩;refine aB ?_;have x24:=x3.trans x4;refine_lift bK fun _ _ => ?_;refine aG (v:=.agg #[.slice none 0 0, .int .i64 0, .int .i64 0, .int .i64 0, .int .i64 0]) (Runs.build0 (by kernel_rfl)) ?_;refine aB ?_;refine gI (LY u (uQ [gD]) _ (hs.ext x24) FK (.slice none 0 0) 0 0 0 0 10 aJ [] (.inr ⟨rfl,rfl,rfl,rfl,rfl⟩)) ?_;rintro _ w5 ⟨x5,⟨Y',h1,_⟩ | ⟨_,rfl⟩⟩
 ·exact absurd h1 aJ
 refine ⟨_,rfl,?_⟩;refine aB ?_;refine_lift bK fun _ _ => ?_;refine aG (v:=.agg #[aE tq.1, .int .i64 tq.2]) (Runs.build (vals:=[(0,aE [1,88,1,97]),(1, .int .i64 1)]) rfl (by kernel_rfl)) ?_;refine aB ?_;refine gI (De (hT.ext x5) aJ 5 tq YA.1 YA.2) ?_;rintro _ w6 ⟨rfl,lo6,pv6,hT6⟩;refine ⟨_,rfl,?_⟩;refine aB ?_;have z25:=(x24.trans x5).size;have z3:=x3.size;have hb3:w2.heap.size≤w3.heap.size:=x3.size;have x26:Ext w2 w6:=lo6.ext (x24.trans x5) hb3;have hW6:WayT w3.heap.size w2 w6 Y.tb 0:=⟨x26,Y,pv6,_,rfl,hT6,fun _=>rfl,fun h=>by omega⟩;refine_lift bK fun _ _ => ?_;go_loopw [8] (fun nv wr=>∃ k:Nat,k≤6∧nv=.int .i64 k∧WayT w3.heap.size w2 wr Y.tb k) (fun nv _=>6 - (intOf nv).toNat)
 case atStart=>exact ⟨0,aC,rfl,hW6⟩
 case round =>
  obtain ⟨k,hk,rfl,hW⟩:=hrel;by_cases hlt:k < 6
  ·refine_lift EA ?_;intro _ _ _ _ _;refine gI (hW.step hlt hb3) ?_;rintro _ w7 ⟨rfl,hW7⟩;refine ⟨_,rfl,?_⟩;refine aB ?_;refine_lift iX fun _ => ?_;exact ⟨⟨k + 1,aC,by go_num,hW7⟩,by simp [intOf];omega⟩
  ·have hk6:k=6:=aC;subst hk6;obtain ⟨x7,Z,pv,hv,hZ,hT7,_,h6⟩:=hW;obtain ⟨q,a,u',x,B,ho,hm⟩:=h6 rfl;rw [← hZ];refine_lift EA ?_;intro _ _ _ _ _;refine bZ (AX hT7 0) fun w8 x8 => ?_;refine_lift bK fun _ _ => ?_;refine gR (TG (hT7.ext x8) (ho.ext x8).sl ((hm.ext x8).msg) MD.1 MD.2.1 MD.2.2.1 MD.2.2.2) ?_;rintro hq w9 x9 ⟨q9,a9,u9,y9,B9,o9,m9⟩;refine aB ?_;have x79:=x8.trans x9;refine_lift bK fun _ _ => ?_;refine aG (v:=.agg #[aE [1,120,1,97], .int .i64 1]) (Runs.build (vals:=[(0,aE [1,120,1,97]),(1, .int .i64 1)]) rfl (by kernel_rfl)) ?_;refine aB ?_;refine gR (WE u (Am [gD]) [1,120,1,97] 1 _ ((hs.svs).ext (x7.trans x79)) IM.1 IM.2) ?_;rintro _ w10 x10 ⟨v10,rfl,o10⟩;refine aB ?_;rw [TI] at o10 ⊢;have x710:=x79.trans x10;refine_lift bK fun _ _ => ?_;refine gI (TJ (hT7.ext x710) (by show VX.nt=none;have h:=Dc;cases hh:VX.nt with | none=>rfl | some _=>rw [hh] at h;cases h) 3 aJ aJ aJ aJ) ?_;rintro _ w11 ⟨rfl,lo11,k11,M11,pv11,hT11⟩;refine ⟨_,rfl,?_⟩;refine aB ?_;have x211:Ext w2 w11:=lo11.ext (x7.trans x710) hb3;have oh:=(o9.ext x10).keep k11.keep aJ;have oa:=(m9.ext x10).oa.keep k11.keep aJ;have or:=o10.keep k11.keep aJ;have slh:=oh.sl;have hl1:([aO SX q9 a9 u9 y9]:List (List Value)).length=1:=rfl;have hel:Pts w11 (cJ hq ((0:Int).toNat * 13)) (aO SX q9 a9 u9 y9):=slh.elem (i:=0) rfl;have sla:=oa.sl;rw [SY.2.2] at sla;have hla:(aF [gD]).length=1:=rfl;unfold aO at hel;rw [SY.2.1] at hel;have cS:∀ w',Ext w11 w'→Calls Tryz.prog 12 #[v10,a9] w' (aY w' (.bool true)):=fun w' hx=>by
    have:=UC v10 a9 [gD] [gD] w' (or.ext hx).sl (sla.ext hx)
    rwa [decide_eq_true (rfl:[gD]=[gD])] at this
   (repeat' first | ((with_reducible refine bH ?_);go_step) | ((with_reducible refine aV ?_);first | refine dR ?_ | (refine bO ?_ ?_ <;> intro hc)) | fail)
   refine bZ (cS _ (Ext.refl _)) fun w12 x12 => ?_;refine_lift aR ?_;refine bZ (IP ((hT11.ext x12))) fun w13 x13 => ?_;refine_lift jD (fun hc => ?_) (fun hc => ?_);refine bZ (IN ((hT11.ext x12).ext x13)) fun w14 x14 => ?_;refine_lift aR ?_;go_ret;exact ⟨rfl,x1.trans (x2.trans (x211.trans (x12.trans (x13.trans x14))))⟩
   all_goals first | exact absurd rfl hc | (simp at hc;done) | skip
   all_goals trace_state
theorem Dl (d n:Int) (qn:List UInt8) (qt:Int) (w:World):Calls Tryz.prog 5 #[.agg #[.int .i64 d, .int .i64 n,aE qn, .int .i64 qt]] w (aY w (.bool true)):=by
 go_enter Tryz.func5,Tryz.ntmps5
 refine_lift bK fun _ _ => ?_;refine jP (vs:=[.int .i64 d, .int .i64 n,aE qn, .int .i64 qt]) fun w1 x1 s1 b1 => ?_;refine aB ?_;have hb:=aA (cs:=[.int .i64 d, .int .i64 n,aE qn, .int .i64 qt]) b1;have hq:Pts w1 (aT (.pointer (some ⟨w.heap.size,0,none⟩)) 2) [aE qn, .int .i64 qt]:=(hb.part 2).front 2;refine_lift YJ (fun _ _ _ => ?_) (fun _ _ _ _ _ => ?_)
 ·refine bZ (rE w1) fun w2 x2 => ?_;refine_lift aR ?_;go_ret;exact ⟨rfl,x1.trans x2⟩
 ·refine aG (v:=.agg #[.slice none 0 0, .int .i64 0, .int .i64 0, .int .i64 0, .int .i64 0]) (Runs.build0 (by kernel_rfl)) ?_;refine aB ?_;refine_lift aR ?_;refine gI (LY (.slice none 0 0) [] w1 ⟨⟨[],Sl.nil _ _,rfl,fun _ _ h=>by simp at h⟩⟩ ⟨by decide,aX,aX,aX,aX⟩ (.slice none 0 0) 0 0 0 0 10 aJ [] (.inr ⟨rfl,rfl,rfl,rfl,rfl⟩)) ?_;rintro _ w2 ⟨x2,(⟨_,h,_⟩ | ⟨_,rfl⟩)⟩
  ·exact absurd h aJ
  refine ⟨_,rfl,?_⟩;refine aB ?_;have hb2:=hb.ext x2;clear hq;refine_lift bK fun _ _ => ?_;refine bZ (WI w2 n) fun w3 x3 => ?_;have hb3:=hb2.ext x3;have hq3:Pts w3 (aT (.pointer (some ⟨w.heap.size,0,none⟩)) 2) [aE qn, .int .i64 qt]:=(hb3.part 2).front 2;clear hb hb2;refine_lift bK fun _ _ => ?_;refine bZ (Ap w3 n (qn,qt)) fun w4 x4 => ?_;have hb4:=hb3.ext x4;clear hq3 hb3;refine_lift aR ?_;refine bZ (KO w4 n) fun w5 x5 => ?_;have hb5:=hb4.ext x5;refine_lift aR ?_;refine bZ (WH w5 n) fun w6 x6 => ?_;have hb6:=hb5.ext x6;refine_lift aR ?_;refine bZ (OQ w6 n) fun w7 x7 => ?_;refine_lift aR ?_;refine bZ (TK w7) fun w8 x8 => ?_;have sl8:Sl 13 w8 (.slice none 0 0) []:=Sl.nil _ _;refine_lift jD (fun hc => ?_) (fun hc => ?_);refine bZ (An w8) fun w9 x9 => ?_;refine_lift aR ?_;refine bZ (Ao w9) fun w10 x10 => ?_;refine_lift aR ?_;refine bZ (rE w10) fun w11 x11 => ?_;refine_lift aR ?_;go_ret;exact ⟨rfl,x1.trans (x2.trans (x3.trans (x4.trans (x5.trans (x6.trans (x7.trans (x8.trans (x9.trans (x10.trans x11)))))))))⟩
  all_goals first | exact absurd rfl hc | (simp at hc;done) | skip
open Go.ChangeShapes Go.WideShapes Go.ChangeAt
theorem TL {H:Type} {enc:TypeId × Value→H} {spare:Nat→Bool} {cl:List Value} {x:DataW H × List MemPlace} (h:DataW.trod enc Tryz.prog w base spare held fuel 58 cl=some x) :
 ∃ p:(Int × Int) × (List UInt8 × Int),cl=[.int .i64 p.1.1, .int .i64 p.1.2,aE p.2.1, .int .i64 p.2.2]:=by
 obtain ⟨xs,n',_,_,hl,hxl,hf⟩:=DataW.trod_struct Tryz.underlying58 h;have c2:Tryz.prog.cellsOf 23=1:=by kernel_rfl
 have c3:Tryz.prog.cellsOf 3=1:=by kernel_rfl
 have c7:Tryz.prog.cellsOf 25=2:=by kernel_rfl
 have c8:Tryz.prog.cellsOf 58=4:=by kernel_rfl
 rw [c8] at hl
 match cl,hl,xs,hxl with
 | [a0,a1,a2,a3],_,[y0,y1,y2],_ =>
  have g0:=hf 0 _ rfl;have g1:=hf 1 _ rfl;have g2:=hf 2 _ rfl;simp [c3,c7] at g0 g1 g2;obtain ⟨n0,rfl,_⟩:=yN Tryz.underlying3 g0;obtain ⟨n1,rfl,_⟩:=yN Tryz.underlying3 g1;obtain ⟨xs',n'',_,_,hl',hxl',hf'⟩:=DataW.trod_struct Tryz.underlying25 g2
  match xs',hxl' with
  | [z0,z1],_ =>
   have k0:=hf' 0 _ rfl;have k1:=hf' 1 _ rfl;simp [c2,c3] at k0 k1;obtain ⟨s0,rfl,_⟩:=PA Tryz.underlying23 k0;obtain ⟨m1,rfl,_⟩:=yN Tryz.underlying3 k1;exact ⟨((n0,n1),(s0,m1)),rfl⟩
theorem Ay {H:Type} {enc:TypeId × Value→H} {spare:Nat→Bool} {x:DataW H × List MemPlace} (h:DataW.trod enc Tryz.prog w base spare held fuel 62 [v]=some x):∃ ps:List ((Int × Int) × (List UInt8 × Int)),Sl 4 w v (ps.map fun p=>[.int .i64 p.1.1, .int .i64 p.1.2,aE p.2.1, .int .i64 p.2.2]):=by
 obtain ⟨es,hs,he⟩:=MI Tryz.underlying62 (show Tryz.prog.cellsOf 58=4 by kernel_rfl) aC h;obtain ⟨l,rfl⟩:∃ l:List ((Int × Int) × (List UInt8 × Int)),es=l.map fun p=>[.int .i64 p.1.1, .int .i64 p.1.2,aE p.2.1, .int .i64 p.2.2]:=KS fun c hc=>let ⟨_,_,hy⟩:=he c hc;TL hy;exact ⟨l,hs⟩
theorem own:ownKnob Tryz.prog.godebug=none:=by kernel_rfl
theorem Dm:laidOutB Tryz.prog=true:=by kernel_rfl
def WJ (l:List ((Int × Int) × (List UInt8 × Int))):List (List Value):=l.map fun p=>[.int .i64 p.1.1, .int .i64 p.1.2,aE p.2.1, .int .i64 p.2.2]
def RestT (b0:Nat) (w0 w:World) (tb:Nat) (now:Int):Prop:=Ext w0 w∧∃ Y pv,Y.tb=tb∧TierW b0 w Y (uQ []) 10 Dk [] pv (.slice none 0 0) now
theorem RestT.grow {b0:Nat} {tb:Nat} {now:Int} (h:RestT b0 w0 w tb now) (hx:Ext w w'):RestT b0 w0 w' tb now:=by
 obtain ⟨x,Y,pv,e,hT⟩:=h;exact ⟨x.trans hx,Y,pv,e,hT.ext hx⟩
theorem WK:SrvOk (uQ []):=by
 refine ⟨by decide,by decide +kernel,by decide +kernel,by decide +kernel,?_⟩;have h:((uQ []).all fun s=>decide (s.l.length≤100000) && s.l.all fun x=>decide (x.data.length≤1000000))=true:=zDk;intro s hs;have h1:=List.all_eq_true.1 h s hs;simp only [Bool.and_eq_true,decide_eq_true_eq,List.all_eq_true] at h1;exact h1
theorem Df (v:Value) (l:List ((Int × Int) × (List UInt8 × Int))) (w:World) (hv:Sl 4 w v (WJ l)):Calls Tryz.prog 6 #[v] w (aY w (.bool true)):=by
 have hle:=hv.le;have hlen:(WJ l).length=l.length:=List.length_map ..;go_enter Tryz.func6,Tryz.ntmps6
 refine_lift bK fun _ _ => ?_;refine gR (XZ (.slice none 0 0) [] _ (Sl.nil _ _) aJ aJ) ?_;rintro _ w2 x2 ⟨u,rfl,hs⟩;refine aB ?_;rw [decide_eq_true Cp];refine_lift bK fun _ _ => ?_;refine gR (IL _) ?_;rintro _ w3 x3 ⟨a,rfl,⟨ab,an,ac,rfl⟩,ha⟩;refine aB ?_;have hok:CfgOk w3 (.slice ab an ac) [0] 20 50 1000 5:=⟨ha,by decide,by decide,by decide,by decide,by decide,by decide⟩;refine gI (LY u (uQ []) _ (hs.ext x3) WK (.slice ab an ac) 20 50 1000 5 10 aJ [0] (.inl hok)) ?_;rintro _ w4 ⟨x4,⟨Y,_,rfl,hT⟩ | ⟨h0,_⟩⟩
 rotate_left
 ·exact absurd h0 aJ
 refine ⟨_,rfl,?_⟩;refine aB ?_;have hb3:w.heap.size≤w3.heap.size:=(x2.trans x3).size;have hR:RestT w3.heap.size w w4 Y.tb 0:=⟨x2.trans (x3.trans x4),Y,_,rfl,hT⟩;refine_lift bK fun _ _ => ?_;go_loopw [7,8] (fun nv iv wr=>∃ (k:Nat) (now:Int),k≤l.length∧k≤30∧iv=.int .i64 k∧nv=.int .i64 now∧0≤now∧now≤50 * k∧RestT w3.heap.size w wr Y.tb now) (fun _ iv _=>l.length - (intOf iv).toNat)
 case atStart=>exact ⟨0,0,Nat.zero_le _,by decide,rfl,rfl,by decide,by decide,hR⟩
 case round =>
  obtain ⟨k,now,hk,hk3,rfl,rfl,hn0,hn1,hRr⟩:=hrel;obtain ⟨xr,Z,pv,hZ,hT⟩:=hRr;have hvr:=hv.ext xr;rw [← hZ];by_cases ck:k < l.length
  ·have hel:=hvr.elem (show (WJ l)[k]? = some [.int .i64 l[k].1.1, .int .i64 l[k].1.2,aE l[k].2.1, .int .i64 l[k].2.2] by simp [WJ,ck])
   (repeat' first | ((with_reducible refine bH ?_);go_step) | ((with_reducible refine aV ?_);first | refine dR ?_ | (refine bO ?_ ?_ <;> intro hc)) | fail)
   ·refine dT (z:=[.int .i64 0, .int .i64 0,aE [], .int .i64 0]) fun w5 x5 s5 b5 => ?_;refine aB ?_;refine dH (v:=.agg #[.int .i64 l[k].1.1, .int .i64 l[k].1.2,aE l[k].2.1, .int .i64 l[k].2.2]) b5 (by simp [Value.cells,aE,Value.oneCell']) fun w6 p6 => ?_;have x6:=cB x5 p6;have b6:=p6.this;have hpb:=aA (cs:=[.int .i64 l[k].1.1, .int .i64 l[k].1.2,aE l[k].2.1, .int .i64 l[k].2.2]) b6;have hT6:=hT.ext x6;clear hel hvr
    (repeat' first | ((with_reducible refine bH ?_);go_step) | ((with_reducible refine aV ?_);first | refine dR ?_ | (refine bO ?_ ?_ <;> intro hc)) | fail)
    ·refine bZ (rE w6) fun w9 x9 => ?_;refine_lift aR ?_;go_ret;exact ⟨rfl,(xr.trans x6).trans x9⟩
    ·exact ⟨⟨k + 1,now,aC,aC,by go_num,rfl,aC,by push_cast;omega,xr.trans x6,Z,_,rfl,hT6⟩,by simp [intOf];omega⟩
    ·refine bZ (WG hT6 _) fun w7 x7 => ?_;have hT7:=hT6.ext x7;have x67:=(xr.trans x6).trans x7;refine_lift bK fun _ _ => ?_;refine bZ (IN hT7) fun w8 x8 => ?_;refine_lift jD (fun hc => ?_) (fun hc => ?_);refine bZ (IP (hT7.ext x8)) fun w9 x9 => ?_;refine_lift aR ?_;refine gR (uP ((hT7.ext x8).ext x9)) fun v10 w10 x10 o10 => ?_;refine aB ?_;have sl10:=o10.sl;clear hpb;refine_lift iX fun _ => ?_;exact ⟨⟨k + 1,now,aC,aC,by go_num,rfl,aC,by push_cast;omega,(x67.trans x8).trans (x9.trans x10),Z,_,rfl,((hT7.ext x8).ext x9).ext x10⟩,by simp [intOf];omega⟩
     all_goals first | exact absurd rfl hc | (simp at hc;done) | skip
     all_goals trace_state
    ·refine bZ (OP hT6 _) fun w7 x7 => ?_;have hT7:=hT6.ext x7;have x67:=(xr.trans x6).trans x7;refine_lift bK fun _ _ => ?_;refine bZ (IN hT7) fun w8 x8 => ?_;refine_lift jD (fun hc => ?_) (fun hc => ?_);refine bZ (IP (hT7.ext x8)) fun w9 x9 => ?_;refine_lift aR ?_;refine gR (uP ((hT7.ext x8).ext x9)) fun v10 w10 x10 o10 => ?_;refine aB ?_;have sl10:=o10.sl;clear hpb;refine_lift iX fun _ => ?_;exact ⟨⟨k + 1,now,aC,aC,by go_num,rfl,aC,by push_cast;omega,(x67.trans x8).trans (x9.trans x10),Z,_,rfl,((hT7.ext x8).ext x9).ext x10⟩,by simp [intOf];omega⟩
     all_goals first | exact absurd rfl hc | (simp at hc;done) | skip
     all_goals trace_state
    ·refine gI (TJ hT6 rfl l[k].1.2 aC aC aJ aJ) ?_;rintro _ w7 ⟨rfl,lo7,k7,M7,pv7,hT7⟩;refine ⟨_,rfl,?_⟩;refine aB ?_;have x67:Ext w w7:=lo7.ext (xr.trans x6) hb3;have hpb7:=aA (cs:=[.int .i64 l[k].1.1, .int .i64 l[k].1.2,aE l[k].2.1, .int .i64 l[k].2.2]) (k7.keep _ _ _ _ b6 aJ);have hmx:max l[k].1.2 0=((l[k].1.2.toNat:Nat):Int):=aC;have hmb:((l[k].1.2.toNat:Nat):Int)≤50:=aC;clear hpb;refine_lift aR ?_;refine aG (v:=.int .i64 ((l[k].1.2.toNat:Nat):Int)) (by rw [← hmx];exact Runs.maxI rfl rfl) ?_;refine aB ?_;refine_lift bK fun _ _ => ?_;refine bZ (IN hT7) fun w8 x8 => ?_;refine_lift jD (fun hc => ?_) (fun hc => ?_);refine bZ (IP (hT7.ext x8)) fun w9 x9 => ?_;refine_lift aR ?_;refine gR (uP ((hT7.ext x8).ext x9)) fun v10 w10 x10 o10 => ?_;refine aB ?_;have sl10:=o10.sl;clear hpb7;refine_lift iX fun _ => ?_;exact ⟨⟨k + 1,now + (l[k].1.2.toNat:Nat),aC,aC,by go_num,by go_num,aC,by push_cast;omega,(x67.trans x8).trans (x9.trans x10),{ Z with M:=M7 },_,rfl,((hT7.ext x8).ext x9).ext x10⟩,by simp [intOf];omega⟩
     all_goals first | exact absurd rfl hc | (simp at hc;done) | skip
     all_goals trace_state
    ·refine bZ (AX hT6 _) fun w7 x7 => ?_;have hT7:=hT6.ext x7;have x67:=(xr.trans x6).trans x7;refine_lift bK fun _ _ => ?_;refine bZ (IN hT7) fun w8 x8 => ?_;refine_lift jD (fun hc => ?_) (fun hc => ?_);refine bZ (IP (hT7.ext x8)) fun w9 x9 => ?_;refine_lift aR ?_;refine gR (uP ((hT7.ext x8).ext x9)) fun v10 w10 x10 o10 => ?_;refine aB ?_;have sl10:=o10.sl;clear hpb;refine_lift iX fun _ => ?_;exact ⟨⟨k + 1,now,aC,aC,by go_num,rfl,aC,by push_cast;omega,(x67.trans x8).trans (x9.trans x10),Z,_,rfl,((hT7.ext x8).ext x9).ext x10⟩,by simp [intOf];omega⟩
     all_goals first | exact absurd rfl hc | (simp at hc;done) | skip
     all_goals trace_state
   all_goals
    refine bZ (rE wr) fun w9 x9 => ?_;refine_lift aR ?_;go_ret;exact ⟨rfl,xr.trans x9⟩
  ·refine_lift lI fun hc _ _ => ?_
   all_goals
    refine bZ (rE wr) fun w9 x9 => ?_;refine_lift aR ?_;go_ret;exact ⟨rfl,xr.trans x9⟩
end Go.Proofs.X
