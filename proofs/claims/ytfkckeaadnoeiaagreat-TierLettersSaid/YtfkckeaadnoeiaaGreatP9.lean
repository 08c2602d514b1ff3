/- Laws and walks that the proof of the statement is made of (part 9). -/
import Derived.Test.YtfkckeaadnoeiaaGreatP8
set_option linter.unusedSimpArgs false
set_option linter.unusedVariables false
set_option maxRecDepth 100000
set_option maxHeartbeats 20000000
namespace Go.Proofs.X
open Go.RowKit
variable {cs:Array Value} {held:Bool} {qt:Int} {ps rs:List (List UInt8×Nat)} {ls:List (List UInt8)} {css css0 es:List (List Value)} {d l m n o qn s t x y z:List UInt8} {B a b base c e fuel i j k p q:Nat} {fz:Nat×Nat} {row:Option Nat} {r u v:Value} {w w' w0 w1 w2:World}
def TRet (w0 w:World) (b:Nat) (r:TaskR×ActR) (e:Ending) (w':World):Prop:=∃ u,e=.returned u∧ActRet w0 b r u w'∧Mv (some b) w w'
theorem TaskV.neBox {t:TaskR} {rv sv gv ev:Value} (h:TaskV w0 w b t rv sv gv ev):some w.heap.size≠some b:=by
 intro e;have e1:=Option.some.inj e;have e2:=(Array.getElem?_eq_some_iff.1 h.blk).1;omega
theorem TRet.box {r:TaskR×ActR} (hu:ActRet w0 b r u w1) (hm:Mv (some b) w w1) (hc:w1.heap[c]? = some (.cells eY.toArray 201 (0,0))) (hg:w.heap.size≤c) (h0:w0.heap.size≤w.heap.size)
 (hp:Put w1 w2 c (.cells u.cells 201 (0,0))):∃ u1 u2,u=.agg (dV r.2 u1 u2).toArray∧TRet w0 w b r (.returned (.agg (dV r.2 u1 u2).toArray)) w2:=by
 obtain ⟨u1,u2,e,q1,q2⟩:=(hu.1.put hp hc aK).out;obtain ⟨rv,sv,gv,ev,hT⟩:=hu.2;exact ⟨u1,u2,e,_,rfl,⟨⟨u1,u2,rfl,q1,q2⟩,rv,sv,gv,ev,hT.other hp hc (Nat.le_trans h0 hg)⟩,hm.fresh hp.mv hg⟩
theorem FT {t:TaskR} {rv sv gv ev:Value} (h:TaskV w0 w b t rv sv gv ev) (code:Int) (v1 v2:Value) (ans auth:List Rec) (o1:Own w0.heap.size 4 37 w v1 (aF ans)) (o2:Own w0.heap.size 4 37 w v2 (aF auth)) (h1':ans.length≤1000000) (h2':auth.length≤1000000) :
 Calls Tryz.prog 185 #[.pointer (some ⟨b,0,none⟩), .int .i64 code,v1,v2] w (TRet w0 w b (t.done code ans auth)):=by
 have hp:=aA (cs:=fR t rv sv gv ev) h.blk;go_enter Tryz.func185,Tryz.ntmps185
 refine_lift bU fun _ _=>?_;refine dX (z:=eY) fun w1 x1 s1 h1=>?_;refine aB ?_;have hp1:=hp.ext x1;refine_lift bU fun _ _=>?_;refine cG (v:=.agg (dV ⟨2,0,[],0,code,ans,auth⟩ v1 v2).toArray) rfl (Runs.build (vals:=[(0, .int .i64 2),(3, .int .i64 code),(4,v1),(5,v2)]) rfl (by obtain ⟨_,_,_,rfl⟩:=o1.sl.slf;obtain ⟨_,_,_,rfl⟩:=o2.sl.slf;kernel_rfl)) ?_;refine aB ?_;refine jO (vs:=dV ⟨2,0,[],0,code,ans,auth⟩ v1 v2) fun w2 x2 s2 h2=>?_;refine aB ?_;have hx2:=x1.trans x2;have hp2:=hp1.ext x2;have hh:=h.grow hx2;refine_lift aT ?_;refine fA 8 (.pointer (some ⟨w1.heap.size,0,none⟩)) hh.blk rfl fun w3 p3=>?_;have p3':Put w2 w3 b (.cells (fR { t with stop:=some ⟨2,0,[],0,code,ans,auth⟩ } rv sv gv (.pointer (some ⟨w1.heap.size,0,none⟩))).toArray 273 (0,0)):=p3;obtain ⟨k1,k2,k3,-⟩:=hh.kept p3;have hnb:some w.heap.size≠some b:=by
  intro e;have e1:=Option.some.inj e;have e2:=(Array.getElem?_eq_some_iff.1 h.blk).1;omega
 have hne:some w1.heap.size≠some b:=by
  intro e;have e1:=Option.some.inj e;have e2:=hh.blk;rw [← e1,h2]at e2;simp only [Option.some.injEq,Obj.cells.injEq]at e2;exact absurd e2.2.1 aK
 have hT:TaskV w0 w3 b { t with stop:=some ⟨2,0,[],0,code,ans,auth⟩ } rv sv gv (.pointer (some ⟨w1.heap.size,0,none⟩)) :=
  hh.put p3' k1 k2 k3 ⟨w1.heap.size,v1,v2,rfl,Nat.le_trans h.ext.size x1.size,p3.mv.at h2 hne,(o1.ext hx2).mv p3.mv (.inr ((o1.ext hx2).neBlock hh.blk aK)),(o2.ext hx2).mv p3.mv (.inr ((o2.ext hx2).neBlock hh.blk aK)),rfl⟩
 clear p3';refine_lift bU fun _ _=>?_;refine sC (MJ ⟨_,_,_,_,hT⟩ rfl h1' h2') fun u w4 x4 hu=>?_;have h14:=x4.at (p3.mv.at (x2.at h1) hnb);refine dB (v:=u) rfl rfl rfl h14 (by rw [hu.1.size];exact (zDk:dG Tryz.prog 201 7=true)) (by rw [hu.1.size];rfl) hu.1.one ?_;intro w5 p5;obtain ⟨u1,u2,rfl,hr⟩:=TRet.box hu ((hx2.mv _).trans (p3.mv.trans (x4.mv _))) h14 (Nat.le_refl _) h.ext.size p5;refine_lift aT ?_;exact bodyPost_ret (fG (cs:=dV ⟨2,0,[],0,code,ans,auth⟩ u1 u2) rfl rfl p5.this (zDk:eF Tryz.prog 201 7=true)) rfl hr
theorem ML {t:TaskR} (h:TaskAt w0 w b t):Calls Tryz.prog 201 #[.pointer (some ⟨b,0,none⟩)] w (TRet w0 w b (t.done 2 [] [])):=by
 obtain ⟨rv,sv,gv,ev,h⟩:=h;go_enter Tryz.func201,Tryz.ntmps201
 refine_lift bU fun _ _=>?_;refine dX (z:=eY) fun w1 x1 s1 h1=>?_;refine aB ?_;refine_lift bU fun _ _=>?_;refine gS (FT (h.grow x1) 2 (.slice none 0 0) (.slice none 0 0) [] [] (Own.nil _ _ _ _) (Own.nil _ _ _ _) aK aK) ?_;rintro e w4 ⟨u,rfl,hu,hm⟩;refine ⟨_,rfl,?_⟩;refine aB ?_;have h14:=hm.at h1 h.neBox;refine dB (v:=u) rfl rfl rfl h14 (by rw [hu.1.size];exact (zDk:dG Tryz.prog 201 7=true)) (by rw [hu.1.size];rfl) hu.1.one ?_;intro w5 p5;obtain ⟨u1,u2,rfl,hr⟩:=TRet.box hu ((x1.mv _).trans hm) h14 (Nat.le_refl _) h.ext.size p5;refine_lift aT ?_;exact bodyPost_ret (fG (cs:=dV (t.done 2 [] []).2 u1 u2) rfl rfl p5.this (zDk:eF Tryz.prog 201 7=true)) rfl hr
theorem VS {t:TaskR} (h:TaskAt w0 w b t) (h0:0≤t.left) (h1:t.left≤1000000):Calls Tryz.prog 152 #[.pointer (some ⟨b,0,none⟩)] w (TRet w0 w b t.on):=by
 have hA:=h;obtain ⟨rv,sv,gv,ev,h⟩:=h;have hp:=aA (cs:=fR t rv sv gv ev) h.blk;have hsl:=h.ss.sl;have hle:=hsl.le;have hil:(bO t.servers).length=t.servers.length:=List.length_map ..;go_enter Tryz.func152,Tryz.ntmps152
 refine_lift bU fun _ _=>?_;refine dX (z:=eY) fun w1 x1 s1 hb1=>?_;refine aB ?_;have hp1:=hp.ext x1;have hsl1:=hsl.ext x1;by_cases hz:t.servers=[]∨t.left=0
 ·have hE:t.on=t.done 2 [] []:=by
   unfold TaskR.on;split
   ·rfl
   ·rename_i hs;rw [if_pos (hz.resolve_left (by rw [hs];simp))]
  (repeat' first|((with_reducible refine aZ ?_);go_step)|((with_reducible refine aS ?_);first|refine dN ?_|(refine bG ?_ ?_<;>intro hc))|fail)
  all_goals first
   | (exfalso;rcases hz with hz|hz;(have h5:t.servers.length=0:=by rw [hz];rfl);omega;omega)
   | skip
  all_goals (
   refine gS (ML (hA.grow x1)) ?_;rintro e w4 ⟨u,rfl,hu,hm⟩;refine ⟨_,rfl,?_⟩;refine aB ?_;have h14:=hm.at hb1 h.neBox;refine dB (v:=u) rfl rfl rfl h14 (by rw [hu.1.size];exact (zDk:dG Tryz.prog 201 7=true)) (by rw [hu.1.size];rfl) hu.1.one ?_;intro w5 p5;obtain ⟨u1,u2,rfl,hr⟩:=TRet.box hu ((x1.mv _).trans hm) h14 (Nat.le_refl _) h.ext.size p5;refine_lift aT ?_;exact bodyPost_ret (fG (cs:=dV (t.done 2 [] []).2 u1 u2) rfl rfl p5.this (zDk:eF Tryz.prog 201 7=true)) rfl (by rw [hE];exact hr))
 ·cases hs:t.servers with
  | nil=>exact absurd (.inl hs) hz
  | cons s rest =>
   have hl:¬ t.left=0:=fun e=>hz (.inr e);have hE:t.on=({ t with servers:=rest,left:=t.left - 1 },⟨1,s,t.qn,t.qt,0,[],[]⟩):=by
    unfold TaskR.on;rw [hs];exact if_neg hl
   have hpe:=hsl1.elem (i:=0) (e:=[.int .i64 s]) (by rw [hs];rfl);have hil2:(bO t.servers).length=rest.length+1:=by rw [hil,hs];rfl
   have hh1:=h.grow x1
   (repeat' first|((with_reducible refine aZ ?_);go_step)|((with_reducible refine aS ?_);first|refine dN ?_|(refine bG ?_ ?_<;>intro hc))|fail)
   all_goals first
    | (exfalso;omega)
    | skip
   refine aO 12 (Ext w1) zDk ?_;intro w2 x2 _;refine ⟨x2,?_⟩;refine bE 0 ?_;refine bE 1 ?_;refine bE 2 ?_;refine bE 3 ?_;refine bE 4 ?_;refine bE 5 ?_;refine bE 6 ?_;refine bE 7 ?_;refine bE 8 ?_;have hq1:Pts w1 (aV (.pointer (some ⟨b,0,none⟩)) 0) [aE t.qn, .int .i64 t.qt]:=(hp1.part 0).front 2;refine bT (i:=9) (v:=.agg #[aE t.qn, .int .i64 t.qt]) rfl rfl rfl zDk zDk zDk zDk rfl (fun w' c=>Runs.loadN (hq1.ext c) rfl (zDk:eF Tryz.prog 25 2=true)) (fun _ _ _ h=>h) ?_;refine aB ?_;refine bT (i:=10) (v:=.agg (dV ⟨1,s,t.qn,t.qt,0,[],[]⟩ (.slice none 0 0) (.slice none 0 0)).toArray) rfl rfl rfl zDk zDk zDk zDk rfl (fun w' _=>Runs.build (vals:=[(0, .int .i64 1),(1, .int .i64 s),(2, .agg #[aE t.qn, .int .i64 t.qt])]) rfl (by kernel_rfl)) (fun _ _ _ h=>h) ?_;refine aB ?_;refine dH 11 ?_;refine dX (z:=eY) fun w3 x3 s3 hb3=>?_;refine aB ?_;have x23:=x2.trans x3;refine aD ⟨aR x23,?_⟩;refine dH 12 ?_;refine dL (v:=.agg (dV ⟨1,s,t.qn,t.qt,0,[],[]⟩ (.slice none 0 0) (.slice none 0 0)).toArray) hb3 (nN rfl rfl) fun w4 p4=>?_;refine aD ⟨aN rfl,?_⟩;refine jP ?_;have x4:=cJ x23 p4;have hh4:=hh1.grow x4;have hp4:=aA (cs:=fR t rv sv gv ev) hh4.blk;have hsl4:=hsl1.ext x4;have hb4:=p4.this;have hbx:=x4.at hb1;have hpb4:=aA (cs:=dV ⟨1,s,t.qn,t.qt,0,[],[]⟩ (.slice none 0 0) (.slice none 0 0)) hb4;have hss4:=hh4.ss;clear hq1 hp1 hp hsl1 hsl;refine_lift bU fun _ _=>?_;refine fA 4 (dD sv 1 1 (bO t.servers).length) hh4.blk (hss4.drop (m:=1) aC).sl.one fun w5 p5=>?_;have p5':Put w4 w5 b (.cells (fR { t with servers:=rest } rv (dD sv 1 1 (bO t.servers).length) gv ev).toArray 273 (0,0)):=p5;obtain ⟨k1,k2,k3,k4⟩:=hh4.kept p5;have hd:OwnOff w0.heap.size 1 3 w5 (dD sv 1 1 (bO t.servers).length) (bO rest):=by
    have hd:=k2.drop (m:=1) aC;rw [show (bO t.servers).drop 1=bO rest by rw [hs];rfl]at hd;exact hd
   have hT5:=hh4.put p5' k1 hd k3 k4;have hp5:=aA (cs:=fR { t with servers:=rest } rv (dD sv 1 1 (bO t.servers).length) gv ev) hT5.blk;clear p5' hp4 hpe;refine_lift bU fun _ _=>?_;refine fA 7 (.int .i64 (t.left - 1)) hT5.blk rfl fun w6 p6=>?_;have p6':Put w5 w6 b (.cells (fR { t with servers:=rest,left:=t.left - 1 } rv (dD sv 1 1 (bO t.servers).length) gv ev).toArray 273 (0,0)):=p6;obtain ⟨j1,j2,j3,j4⟩:=hT5.kept p6;have hT6:=hT5.put p6' j1 j2 j3 j4;have hbn:=(Array.getElem?_eq_some_iff.1 h.blk).1;have sz2:=x2.size;have sz1:=x1.size;have hb6:w6.heap[w2.heap.size]? = some (.cells (dV ⟨1,s,t.qn,t.qt,0,[],[]⟩ (.slice none 0 0) (.slice none 0 0)).toArray 201 (0,0)):=p6.mv.at (p5.mv.at hb4 (by intro e;have:=Option.some.inj e;omega)) (by intro e;have:=Option.some.inj e;omega);have hbx6:=p6.mv.at (p5.mv.at hbx h.neBox) h.neBox;have hpb6:=aA (cs:=dV ⟨1,s,t.qn,t.qt,0,[],[]⟩ (.slice none 0 0) (.slice none 0 0)) hb6;have hm6:Mv (some b) w w6:=((x1.trans x4).mv _).trans (p5.mv.trans p6.mv);clear p6' hp5 hpb4;refine_lift bU fun _ _=>?_;refine aG (Runs.loadN hpb6 rfl (zDk:eF Tryz.prog 201 7=true)) ?_;refine aB ?_;refine dL (v:=.agg (dV ⟨1,s,t.qn,t.qt,0,[],[]⟩ (.slice none 0 0) (.slice none 0 0)).toArray) hbx6 (nN rfl rfl) fun w7 p7=>?_;have hAV:ActV w6 (.agg (dV ⟨1,s,t.qn,t.qt,0,[],[]⟩ (.slice none 0 0) (.slice none 0 0)).toArray) ⟨1,s,t.qn,t.qt,0,[],[]⟩:=⟨_,_,rfl,Own.nil _ _ _ _,Own.nil _ _ _ _⟩;obtain ⟨u1,u2,hu,hr⟩:=TRet.box (r:=t.on) (by rw [hE];exact ⟨hAV,_,_,_,_,hT6⟩) hm6 hbx6 (Nat.le_refl _) h.ext.size p7;refine_lift aT ?_;refine JR (cs:=dV ⟨1,s,t.qn,t.qt,0,[],[]⟩ (.slice none 0 0) (.slice none 0 0)) p7.this ?_;rw [← hu]at hr;exact hr
theorem SF {t:TaskR} (h:TaskAt w0 w b t) (n:List UInt8) (h0:0≤t.left) (h1:t.left≤1000000) (h2:0≤t.chain) (h3:t.chain≤8):Calls Tryz.prog 187 #[.pointer (some ⟨b,0,none⟩),aE n] w (TRet w0 w b (t.follow n)):=by
 have hA:=h;obtain ⟨rv,sv,gv,ev,h⟩:=h;have hp:=aA (cs:=fR t rv sv gv ev) h.blk;go_enter Tryz.func187,Tryz.ntmps187
 refine_lift bU fun _ _=>?_;refine dX (z:=eY) fun w1 x1 s1 hb1=>?_;refine aB ?_;have hp1:=hp.ext x1;have hh1:=h.grow x1;by_cases hc8:t.chain=8
 ·have hE:t.follow n=t.done 2 [] []:=by rw [TaskR.follow,if_pos hc8]
  refine_lift EZ fun _ _ _ _ _=>?_
  all_goals first
   | (exfalso;omega)
   | skip
  refine gS (ML (hA.grow x1)) ?_;rintro e w4 ⟨u,rfl,hu,hm⟩;refine ⟨_,rfl,?_⟩;refine aB ?_;have h14:=hm.at hb1 h.neBox;refine dB (v:=u) rfl rfl rfl h14 (by rw [hu.1.size];exact (zDk:dG Tryz.prog 201 7=true)) (by rw [hu.1.size];rfl) hu.1.one ?_;intro w5 p5;obtain ⟨u1,u2,rfl,hr⟩:=TRet.box hu ((x1.mv _).trans hm) h14 (Nat.le_refl _) h.ext.size p5;refine_lift aT ?_;exact bodyPost_ret (fG (cs:=dV (t.done 2 [] []).2 u1 u2) rfl rfl p5.this (zDk:eF Tryz.prog 201 7=true)) rfl (by rw [hE];exact hr)
 ·refine_lift lQ fun _ _ _=>?_
  all_goals first
   | (exfalso;omega)
   | skip
  refine fA 6 (.int .i64 (t.chain+1)) hh1.blk rfl fun w2 p2=>?_;have p2':Put w1 w2 b (.cells (fR { t with chain:=t.chain+1 } rv sv gv ev).toArray 273 (0,0)):=p2;obtain ⟨k1,k2,k3,k4⟩:=hh1.kept p2;have hT2:=hh1.put p2' k1 k2 k3 k4;have hp2:=aA (cs:=fR { t with chain:=t.chain+1 } rv sv gv ev) hT2.blk;clear p2' hp1 hp;refine_lift bU fun _ _=>?_;refine fA 0 (aE n) hT2.blk rfl fun w3 p3=>?_;have p3':Put w2 w3 b (.cells (fR { t with chain:=t.chain+1,qn:=n } rv sv gv ev).toArray 273 (0,0)):=p3;obtain ⟨k1,k2,k3,k4⟩:=hT2.kept p3;have hT3:=hT2.put p3' k1 k2 k3 k4;clear p3' hp2;refine_lift aT ?_;refine fA 3 (aE []) hT3.blk rfl fun w4 p4=>?_;have p4':Put w3 w4 b (.cells (fR { t with chain:=t.chain+1,qn:=n,zone:=[] } rv sv gv ev).toArray 273 (0,0)):=p4;obtain ⟨k1,k2,k3,k4⟩:=hT3.kept p4;have hT4:=hT3.put p4' k1 k2 k3 k4;clear p4';refine_lift aT ?_;refine fA 4 rv hT4.blk k1.one fun w5 p5=>?_;have p5':Put w4 w5 b (.cells (fR { t with chain:=t.chain+1,qn:=n,zone:=[],servers:=t.roots } rv rv gv ev).toArray 273 (0,0)):=p5;obtain ⟨k1,k2,k3,k4⟩:=hT4.kept p5;have hT5:=hT4.put p5' k1 k1.off k3 k4;have hE:t.follow n={ t with chain:=t.chain+1,qn:=n,zone:=[],servers:=t.roots }.on:=by rw [TaskR.follow,if_neg hc8]
  have hm5:Mv (some b) w w5:=(x1.mv _).trans (p2.mv.trans (p3.mv.trans (p4.mv.trans p5.mv)));clear p5';refine_lift bU fun _ _=>?_;refine gS (VS ⟨_,_,_,_,hT5⟩ h0 h1) ?_;rintro e w6 ⟨u,rfl,hu,hm⟩;refine ⟨_,rfl,?_⟩;refine aB ?_;have h14:=hm.at (p5.mv.at (p4.mv.at (p3.mv.at (p2.mv.at hb1 h.neBox) h.neBox) h.neBox) h.neBox) h.neBox;refine dB (v:=u) rfl rfl rfl h14 (by rw [hu.1.size];exact (zDk:dG Tryz.prog 201 7=true)) (by rw [hu.1.size];rfl) hu.1.one ?_;intro w7 p7;obtain ⟨u1,u2,rfl,hr⟩:=TRet.box hu (hm5.trans hm) h14 (Nat.le_refl _) h.ext.size p7;refine_lift aT ?_;exact bodyPost_ret (fG (cs:=dV { t with chain:=t.chain+1,qn:=n,zone:=[],servers:=t.roots }.on.2 u1 u2) rfl rfl p7.this (zDk:eF Tryz.prog 201 7=true)) rfl (by rw [hE];exact hr)
theorem OP {j:JudR} (h:k<j.au.length):(j.au.take (k+1)).foldl j.step ([],-1) =
 if j.au[k].kind=2∧bW j.qn (fold j.au[k].name)=true∧oR (fold j.au[k].name) j.zone=false∧((j.au.take k).foldl j.step ([],-1)).2<RV (fold j.au[k].name)then (fold j.au[k].name,RV (fold j.au[k].name))else (j.au.take k).foldl j.step ([],-1):=by
 rw [List.take_succ_eq_append_getElem h,List.foldl_append];rfl
theorem KZ (j:JudR) (an au:Value) (w:World) (ha:Sl 4 w an (aF j.an)) (hu:Sl 4 w au (aF j.au)):Calls Tryz.prog 237 #[.agg (mQ j an au).toArray] w (bC w (.tuple #[.int .i64 j.referral.1,aE j.referral.2])):=by
 have hlen:=aJ j.au;have hle:=hu.le;go_enter Tryz.func237,Tryz.ntmps237
 refine_lift mT fun _ _=>?_;refine jO (vs:=mQ j an au) fun w1 x1 s1 h1=>?_;refine aB ?_;have hp:=aA (cs:=mQ j an au) h1;have hj0:Pts w1 (aV (.pointer (some ⟨w.heap.size,0,none⟩)) 0) [aE j.qn, .int .i64 j.qt]:=(hp.part 0).front 2;have hj2:Pts w1 (aV (.pointer (some ⟨w.heap.size,0,none⟩)) 2) [aE j.zone]:=(hp.part 2).front 1;have hj3:Pts w1 (aV (.pointer (some ⟨w.heap.size,0,none⟩)) 3) [.int .i64 j.code]:=(hp.part 3).front 1;have hj5:Pts w1 (aV (.pointer (some ⟨w.heap.size,0,none⟩)) 5) [au]:=hp.part 5;have hu1:=hu.ext x1;refine_lift bU fun _ _=>?_;go_loopw [4,5,13] (fun b m i wr=>∃ k:Nat,k≤j.au.length∧i=.int .i64 k∧Ext w1 wr∧b=aE ((j.au.take k).foldl j.step ([],-1)).1∧m=.int .i64 ((j.au.take k).foldl j.step ([],-1)).2) (fun _ _ i _=>j.au.length - (intOf i).toNat)
 case atStart=>exact ⟨0,Nat.zero_le _,rfl,Ext.refl _,rfl,rfl⟩
 case round =>
  obtain ⟨k,hk,rfl,hx,rfl,rfl⟩:=hrel;have hx0:=x1.trans hx;have hu2:=hu1.ext hx;have hz2:=hj0.ext hx;have hz3:=hj2.ext hx;by_cases hlt:k<j.au.length
  ·have hpe:=hu2.elem (eX hlt);have hst:=OP hlt;generalize (j.au.take k).foldl j.step ([],-1)=S at *;refine_lift rR ?_;intro _ _ _ _ _ _;refine dX (z:=iR) fun w2 x2 s2 h2=>?_;refine aB ?_;refine dL (v:=.agg #[aE j.au[k].name, .int .i64 j.au[k].kind, .int .i64 j.au[k].ttl,aE j.au[k].data]) h2 (gE rfl rfl rfl rfl) fun w3 p3=>?_;have x3:=cJ x2 p3;have hp3:=aA (cs:=[aE j.au[k].name, .int .i64 j.au[k].kind, .int .i64 j.au[k].ttl,aE j.au[k].data]) p3.this;have hz23:=hz2.ext x3;have hz33:=hz3.ext x3;have hx3:=hx.trans x3;clear p3 h2 x2;refine_lift bU fun _ _=>?_;refine cB (vQ j.au[k].name _) fun w4 x4=>?_;refine_lift bU fun _ _=>?_;refine sC (uR (fold j.au[k].name) _) fun lv w5 x5 o5=>?_;have hsl5:=o5.sl;have htl:=bH ((aM (fold j.au[k].name)).getD []);have hL:RV (fold j.au[k].name)=((aH ((aM (fold j.au[k].name)).getD [])).length:Int):=by rw [htl];rfl
   have x45:=x4.trans x5;have hp5:=hp3.ext x45;have hy5:=hz23.ext x45;have hz5:=hz33.ext x45;have hx5:=hx3.trans x45;clear hp3 hz23 hz33 hz2 hz3 hpe hu2;rw [hL]at hst;clear htl;generalize aH ((aM (fold j.au[k].name)).getD [])=T at *;generalize fold j.au[k].name=N at *;by_cases c1:j.au[k].kind=2
   ·refine_lift HO (fun hc=>?_) (fun _ _ hc=>?_)
    all_goals first
     | exact absurd c1 ‹_›
     | skip
    refine cB (jI j.qn N _) fun w6 x6=>?_;have hp6:=hp5.ext x6;have hz6:=hz5.ext x6;have hx6:=hx5.trans x6;cases c2:bW j.qn N with
    | false =>
     rw [if_neg (by rw [c2];rintro ⟨_,h,_⟩;cases h)]at hst;refine_lift aT ?_;exact ⟨⟨k+1,aC,by go_num,hx6,by rw [hst],by rw [hst]⟩,by simp [intOf];omega⟩
    | true =>
     refine_lift aT ?_;refine cB (yO N j.zone _) fun w7 x7=>?_;have hx7:=hx6.trans x7;cases c3:oR N j.zone with
     | true =>
      rw [if_neg (by rw [c3];rintro ⟨_,_,h,_⟩;cases h)]at hst;refine_lift aT ?_;exact ⟨⟨k+1,aC,by go_num,hx7,by rw [hst],by rw [hst]⟩,by simp [intOf];omega⟩
     | false =>
      by_cases c4:S.2<(T.length:Int)
      ·rw [if_pos ⟨c1,c2,c3,c4⟩]at hst;refine_lift jQ fun _=>?_
       all_goals first
        | (exfalso;omega)
        | skip
       exact ⟨⟨k+1,aC,by go_num,hx7,by rw [hst],by rw [hst]⟩,by simp [intOf];omega⟩
      ·rw [if_neg (by rintro ⟨_,_,_,h⟩;exact c4 h)]at hst;refine_lift jQ fun _=>?_
       all_goals first
        | (exfalso;omega)
        | skip
       exact ⟨⟨k+1,aC,by go_num,hx7,by rw [hst],by rw [hst]⟩,by simp [intOf];omega⟩
   ·rw [if_neg (by rintro ⟨h,_⟩;exact c1 h)]at hst;refine_lift HO (fun hc=>?_) (fun _ _ hc=>?_)
    all_goals first
     | exact absurd ‹j.au[k].kind=2› c1
     | skip
    exact ⟨⟨k+1,aC,by go_num,hx5,by rw [hst],by rw [hst]⟩,by simp [intOf];omega⟩
  ·have:k=j.au.length:=aC;subst this;rw [List.take_length];have hz4:=hj3.ext hx;have hB:j.best=j.au.foldl j.step ([],-1):=rfl;rw [← hB];by_cases c1:j.best.2<0
   ·have hE:j.referral=(6,[]):=by rw [JudR.referral,if_pos (.inl c1)]
    refine_lift mH fun _ _ _ hc=>?_
    all_goals first
     | (exfalso;omega)
     | skip
    go_ret2;exact ⟨by rw [hE];rfl,hx0⟩
   ·by_cases c2:j.code=0
    ·have hE:j.referral=(4,j.best.1):=by rw [JudR.referral,if_neg (by rintro (h|h);exact c1 h;exact h c2)]
     (repeat' first|((with_reducible refine aZ ?_);go_step)|((with_reducible refine aS ?_);first|refine dN ?_|(refine bG ?_ ?_<;>intro hc))|fail)
     all_goals first
      | (exfalso;omega)
      | (exfalso;have hh:=‹(!decide (j.code=0))=true›;simp [c2]at hh;done)
      | skip
     go_ret2;exact ⟨by rw [hE];rfl,hx0⟩
    ·have hE:j.referral=(6,[]):=by rw [JudR.referral,if_pos (.inr c2)]
     (repeat' first|((with_reducible refine aZ ?_);go_step)|((with_reducible refine aS ?_);first|refine dN ?_|(refine bG ?_ ?_<;>intro hc))|fail)
     all_goals first
      | (exfalso;omega)
      | (exfalso;have hh:=‹(!decide (j.code=0))=false›;simp [c2]at hh;done)
      | skip
     go_ret2;exact ⟨by rw [hE];rfl,hx0⟩
theorem VT {r:Rec} (h:bI r=0):r.data.length≤4000:=by
 unfold bI at h;split at h
 ·cases h
 ·split at h
  ·cases h
  ·omega
theorem OQ {l:List Rec} {r:Rec} (h:r∈bX l z):bI r=0:=by
 have:=(List.mem_filter.1 h).2;simp at this;exact this.1
theorem JudR.referral_ne (j:JudR):¬ j.referral.1=0:=by
 unfold JudR.referral;split<;>simp
theorem VU {j:JudR} {v1 v2:Value} (h1:v1.oneCell'=true) (h2:v2.oneCell'=true):(Value.agg (mQ j v1 v2).toArray).cells.all (·.oneCell')=true:=by
 have k1:∀ s,(aE s).oneCell'=true:=fun _=>rfl;have k2:∀ n,(Value.int .i64 n).oneCell'=true:=fun _=>rfl;simp [mQ,Value.cells,h1,h2,k1,k2]
def YC:List Value:=[aE [], .int .i64 0,aE [], .int .i64 0, .slice none 0 0, .slice none 0 0]
theorem VW (qn:List UInt8) (qt:Int) (m:MsgR) (q a u e:Value) (z:List UInt8) (w:World) (hm:MsgV w m q a u e) (hl:m.an.length≤100000) (hl2:m.au.length≤100000) :
 Calls Tryz.prog 183 #[.agg #[aE qn, .int .i64 qt], .agg (aP m q a u e).toArray,aE z] w (bC w (.tuple #[.int .i64 (fF qn qt m z).1,aE (fF qn qt m z).2])):=by
 go_enter Tryz.func183,Tryz.ntmps183
 refine_lift mT fun _ _=>?_;refine mW (vs:=[aE qn, .int .i64 qt]) fun pq w1 x1 hq=>?_;refine aB ?_;refine mW (vs:=aP m q a u e) fun pm w2 x2 hp=>?_;refine aB ?_;have hx2:=x1.trans x2;have hq2:=hq.ext x2;have hm2:=hm.ext hx2;refine_lift mH fun _ _ _ _=>?_;refine cB (jI qn z _) fun w3 x3=>?_;have hx3:=hx2.trans x3;have hp3:=hp.ext x3;have hq3:=hq2.ext x3;have hm3:=hm2.ext x3;clear hp hq2 hm2 hq;cases c1:bW qn z with
 | false =>
  have hE:fF qn qt m z=(0,[]):=by rw [fF,if_pos (.inl c1)]
  refine_lift aT ?_;go_ret2;exact ⟨by rw [hE];rfl,hx3⟩
 | true =>
  cases c2:m.trunc with
  | true =>
   have hE:fF qn qt m z=(0,[]):=by rw [fF,if_pos (.inr (.inl c2))]
   have hp4:Pts w3 pm [.int .i64 m.id, .bool m.resp, .int .i64 m.op, .bool m.auth, .bool true, .bool m.want, .bool m.avail, .int .i64 m.rcode,q,a,u,e, .int .i64 m.size]:=by rw [← c2];exact hp3
   clear hp3;refine_lift aT ?_;go_ret2;exact ⟨by rw [hE];rfl,hx3⟩
  | false =>
   have hp4:Pts w3 pm [.int .i64 m.id, .bool m.resp, .int .i64 m.op, .bool m.auth, .bool false, .bool m.want, .bool m.avail, .int .i64 m.rcode,q,a,u,e, .int .i64 m.size]:=by rw [← c2];exact hp3
   clear hp3;by_cases hok:m.rcode=0∨m.rcode=3
   ·(repeat' first|((with_reducible refine aZ ?_);go_step)|((with_reducible refine aS ?_);first|refine dN ?_|(refine bG ?_ ?_<;>intro hc))|fail)
    all_goals first
     | (exfalso;have h1:=‹(!decide (m.rcode=0))=true›;have h2:=‹(!decide (m.rcode=3))=true›;simp at h1 h2;rcases hok with h|h;exact h1 h;exact h2 h;done)
     | skip
    all_goals (
     have hE:fF qn qt m z=(if (⟨qn,qt,z,m.rcode,bX m.an z,bX m.au z⟩:JudR).answer.1≠0 then (⟨qn,qt,z,m.rcode,bX m.an z,bX m.au z⟩:JudR).answer else if (⟨qn,qt,z,m.rcode,bX m.an z,bX m.au z⟩:JudR).alias.1≠0 then (⟨qn,qt,z,m.rcode,bX m.an z,bX m.au z⟩:JudR).alias else if (⟨qn,qt,z,m.rcode,bX m.an z,bX m.au z⟩:JudR).denial.1≠0 then (⟨qn,qt,z,m.rcode,bX m.an z,bX m.au z⟩:JudR).denial else (⟨qn,qt,z,m.rcode,bX m.an z,bX m.au z⟩:JudR).referral):=by rw [fF,if_neg (by rintro (h|h|⟨h1,h2⟩);rw [c1]at h;cases h;rw [c2]at h;cases h;rcases hok with h|h;exact h1 h;exact h2 h)]
     generalize hJ:(⟨qn,qt,z,m.rcode,bX m.an z,bX m.au z⟩:JudR)=J at *;have hJ1:J.an=bX m.an z:=by rw [← hJ]
     have hJ2:J.au=bX m.au z:=by rw [← hJ]
     have hJd:∀ r∈J.an,r.data.length≤4000:=fun r hr=>by
      rw [hJ1]at hr;exact VT (OQ hr)
     have hJc:∀ v1 v2,mQ J v1 v2=[aE qn, .int .i64 qt,aE z, .int .i64 m.rcode,v1,v2]:=fun v1 v2=>by rw [← hJ];rfl
     refine cQ (S:=fun w'=>Ext w3 w') zDk ?_;intro w21 x21 hh21;refine dM 0 ?_;refine aB ?_;refine dM 1 ?_;refine aB ?_;refine dM 2 ?_;refine aB ?_;refine dM 3 ?_;refine aB ?_;refine dM 4 ?_;refine aB ?_;refine dM 5 ?_;refine aB ?_;refine dM 6 ?_;refine aB ?_;refine dM 8 ?_;refine aB ?_;refine dM 9 ?_;refine aB ?_;refine dM 10 ?_;refine aB ?_;refine UQ 7 11 12 13 14 39 43 44 8 (fun b1 b2 b3 b4 b5=>(!b2||b1)&&(!b3||b1)&&(!b3||b2)&&(!b5||b3)&&(!b5||b4)) (fun b1 b2 b3 b4 b5 => !b2 && !b3) (fun b1 b2 b3 b4 b5=>b1 && !b3) (fun b1 b2 b3 b4 b5=>b1&&b2 && !b5) (fun b1 b2 b3 b4 b5 => !b5) (fun b1 b2 b3 b4 b5=>b3&&b4) (fun b1 b2 b3 b4 b5 v1 v2 v3 v4 w'=>∃ zk,Ext w3 w'∧(b1=true→Own w3.heap.size 4 37 w' v1 (aF J.an))∧(b2=true→Own w3.heap.size 4 37 w' v2 (aF J.au))∧(b3=true→v3=.agg (mQ J v1 v2).toArray)∧(b4=true→v4=.pointer (some ⟨zk,0,none⟩)∧w3.heap.size≤zk∧w'.heap[zk]? = some (.cells (bif b5 then mQ J v1 v2 else YC).toArray 365 (0,0)))) ?_ ?_ ?_ ?_ ?_ ?_ ?_
     ·exact ⟨0,x21,aX,aX,aX,aX⟩
     ·rintro b1 b2 b3 b4 b5 v1 v2 v3 v4 w4 hq ⟨zk,x4,f1,f2,f3,f4⟩;have hb2:b2=false:=by revert hq;cases b2<;>simp
      have hb3:b3=false:=by revert hq;subst hb2;cases b3<;>simp
      have hb5:b5=false:=by revert hq;subst hb3;cases b5<;>simp
      subst hb2 hb3 hb5;refine aB ?_;refine sC (BD a m.an z _ (hm3.an.ext x4) hl) fun v5 w5 x5 o5=>?_;refine aD ⟨x4.trans x5,_,rfl,zk,x4.trans x5,fun _=>by rw [hJ1];exact o5.weaken x4.size,aX,aX,fun e=>?_⟩;obtain ⟨g1,g2,g3⟩:=f4 e;exact ⟨g1,g2,x5.at g3⟩
     ·rintro b1 b2 b3 b4 b5 v1 v2 v3 v4 w4 hq ⟨zk,x4,f1,f2,f3,f4⟩;have hb1:b1=true:=by revert hq;cases b1<;>simp
      have hb3:b3=false:=by revert hq;cases b3<;>simp
      have hb5:b5=false:=by revert hq;subst hb3;cases b5<;>simp
      subst hb1 hb3 hb5;refine aB ?_;refine sC (BD u m.au z _ (hm3.au.ext x4) hl2) fun v5 w5 x5 o5=>?_;refine aD ⟨x4.trans x5,_,rfl,zk,x4.trans x5,fun _=>(f1 rfl).ext x5,fun _=>by rw [hJ2];exact o5.weaken x4.size,aX,fun e=>?_⟩;obtain ⟨g1,g2,g3⟩:=f4 e;exact ⟨g1,g2,x5.at g3⟩
     ·rintro b1 b2 b3 b4 b5 v1 v2 v3 v4 w4 hq ⟨zk,x4,f1,f2,f3,f4⟩;have hb1:b1=true:=by revert hq;cases b1<;>simp
      have hb2:b2=true:=by revert hq;cases b2<;>simp
      have hb5:b5=false:=by revert hq;cases b5<;>simp
      subst hb1 hb2 hb5;refine aB ?_;have q1:=(f1 rfl).sl.slf;have q2:=(f2 rfl).sl.slf;refine cG (v:=.agg (mQ J v1 v2).toArray) rfl (Runs.build (vals:=[(0, .agg #[aE qn, .int .i64 qt]),(1,aE z),(2, .int .i64 m.rcode),(3,v1),(4,v2)]) rfl (by rw [hJc];obtain ⟨_,_,_,rfl⟩:=q1;obtain ⟨_,_,_,rfl⟩:=q2;kernel_rfl)) ?_;refine aB ?_;refine aD ⟨x4,_,rfl,zk,x4,fun _=>f1 rfl,fun _=>f2 rfl,fun _=>rfl,f4⟩
     ·rintro b1 b2 b3 b4 b5 v1 v2 v3 v4 w4 hq ⟨zk,x4,f1,f2,f3,f4⟩;have hb5:b5=false:=by revert hq;cases b5<;>simp
      subst hb5;refine aB ?_;refine dX (z:=YC) fun w5 x5 s5 h5=>?_;refine aB ?_;refine aD ⟨x4.trans x5,_,rfl,_,x4.trans x5,fun e=>(f1 e).ext x5,fun e=>(f2 e).ext x5,f3,fun _=>⟨rfl,x4.size,h5⟩⟩
     ·rintro b1 b2 b3 b4 b5 v1 v2 v3 v4 w4 hq ⟨zk,x4,f1,f2,f3,f4⟩;have hb3:b3=true:=by revert hq;cases b3<;>simp
      have hb4:b4=true:=by revert hq;cases b4<;>simp
      subst hb3 hb4;have g3:=f3 rfl;subst g3;obtain ⟨rfl,g5,g6⟩:=f4 rfl;have hb2:b2=true:=by revert hq;cases b2<;>simp
      have hb1:b1=true:=by revert hq;subst hb2;cases b1<;>simp
      subst hb1 hb2;have q1:=(f1 rfl).sl.one;have q2:=(f2 rfl).sl.one;have n1:=(f1 rfl).neBlock g6 aK;have n2:=(f2 rfl).neBlock g6 aK;refine aB ?_;refine dL (v:=.agg (mQ J v1 v2).toArray) g6 (VU q1 q2) fun w5 p5=>?_;have x5:=cJ x4 p5;refine aD ⟨x5,rfl,zk,x5,fun _=>(f1 rfl).mv p5.mv (.inr n1),fun _=>(f2 rfl).mv p5.mv (.inr n2),aX,fun _=>⟨rfl,g5,p5.this⟩⟩
     ·rintro v1 v2 v3 v4 w9 ⟨zk,x9,f1,f2,f3,f4⟩;have o1:=(f1 rfl).sl;have o2:=(f2 rfl).sl;have k3:=f3 rfl;obtain ⟨k5,k6,k7⟩:=f4 rfl;clear f1 f2 f3 f4;subst k3 k5;refine aB ?_;refine cO zDk ?_;have k7':w9.heap[zk]? = some (.cells (mQ J v1 v2).toArray 365 (0,0)):=k7;have hpz:=aA (cs:=mQ J v1 v2) k7';refine_lift mH fun _ _ _ _=>?_;refine aG (v:=.agg #[.func (.func 234) #[] #[], .func (.func 235) #[] #[], .func (.func 236) #[] #[], .func (.func 237) #[] #[]]) (Runs.build rfl (by kernel_rfl)) ?_;refine aB ?_;refine_lift aT ?_;have hx9:=hx3.trans x9;go_loopw [46] (fun i wr=>∃ k:Nat,k≤4∧i=.int .i64 k∧Ext w9 wr∧(0<k→J.answer.1=0)∧(1<k→J.alias.1=0)∧(2<k→J.denial.1=0)∧(3<k→J.referral.1=0)) (fun i _=>4 - (intOf i).toNat)
      case atStart=>exact ⟨0,aC,rfl,Ext.refl _,aC,aC,aC,aC⟩
      case round =>
       obtain ⟨k,hk,rfl,hx,g0,g1,g2,g3⟩:=hrel;have hpz2:=hpz.ext hx;rcases (by omega:k=0∨k=1∨k=2∨k=3∨k=4)with rfl|rfl|rfl|rfl|rfl
       ·refine_lift rR ?_;intro _ _ _ _ _ _;refine aG (v:=.func (.func 234) #[] #[]) (Runs.idxA (i:=0) rfl rfl rfl aK (zDk:zB Tryz.prog 368 4=true)) ?_;refine aB ?_;refine_lift bU fun _ _=>?_;refine aG (Runs.loadN hpz2 rfl (zDk:eF Tryz.prog 365 6=true)) ?_;refine aB ?_;refine dW (enters_of Tryz.func234 rfl rfl) rfl rfl rfl (RX J v1 v2 _ (o1.ext hx) (o2.ext hx)) ?_;rintro e w10 ⟨rfl,x10⟩;refine ⟨_,rfl,?_⟩;refine aB ?_;by_cases ck:J.answer.1=0
        ·refine_lift lP (fun _=>?_) (fun _=>?_)
         all_goals first
          | (exfalso;have hh:=‹(!decide (J.answer.1=0))=true›;simp [ck]at hh;done)
          | skip
         exact ⟨⟨1,aC,by go_num,hx.trans x10,fun _=>ck,aC,aC,aC⟩,by simp [intOf]⟩
        ·refine_lift lP (fun _=>?_) (fun _=>?_)
         all_goals first
          | (exfalso;have hh:=‹(!decide (J.answer.1=0))=false›;simp [ck]at hh;done)
          | skip
         go_ret2;exact ⟨by rw [hE,if_pos ck];rfl,(hx9.trans hx).trans x10⟩
       ·refine_lift rR ?_;intro _ _ _ _ _ _;refine aG (v:=.func (.func 235) #[] #[]) (Runs.idxA (i:=1) rfl rfl rfl aK (zDk:zB Tryz.prog 368 4=true)) ?_;refine aB ?_;refine_lift bU fun _ _=>?_;refine aG (Runs.loadN hpz2 rfl (zDk:eF Tryz.prog 365 6=true)) ?_;refine aB ?_;refine dW (enters_of Tryz.func235 rfl rfl) rfl rfl rfl (VO J v1 v2 _ (o1.ext hx) (o2.ext hx) hJd) ?_;rintro e w10 ⟨rfl,x10⟩;refine ⟨_,rfl,?_⟩;refine aB ?_;by_cases ck:J.alias.1=0
        ·refine_lift lP (fun _=>?_) (fun _=>?_)
         all_goals first
          | (exfalso;have hh:=‹(!decide (J.alias.1=0))=true›;simp [ck]at hh;done)
          | skip
         exact ⟨⟨2,aC,by go_num,hx.trans x10,fun _=>g0 aC,fun _=>ck,aC,aC⟩,by simp [intOf]⟩
        ·refine_lift lP (fun _=>?_) (fun _=>?_)
         all_goals first
          | (exfalso;have hh:=‹(!decide (J.alias.1=0))=false›;simp [ck]at hh;done)
          | skip
         go_ret2;exact ⟨by rw [hE,if_neg (by rw [g0 aC];decide),if_pos ck];rfl,(hx9.trans hx).trans x10⟩
       ·refine_lift rR ?_;intro _ _ _ _ _ _;refine aG (v:=.func (.func 236) #[] #[]) (Runs.idxA (i:=2) rfl rfl rfl aK (zDk:zB Tryz.prog 368 4=true)) ?_;refine aB ?_;refine_lift bU fun _ _=>?_;refine aG (Runs.loadN hpz2 rfl (zDk:eF Tryz.prog 365 6=true)) ?_;refine aB ?_;refine dW (enters_of Tryz.func236 rfl rfl) rfl rfl rfl (RY J v1 v2 _ (o1.ext hx) (o2.ext hx)) ?_;rintro e w10 ⟨rfl,x10⟩;refine ⟨_,rfl,?_⟩;refine aB ?_;by_cases ck:J.denial.1=0
        ·refine_lift lP (fun _=>?_) (fun _=>?_)
         all_goals first
          | (exfalso;have hh:=‹(!decide (J.denial.1=0))=true›;simp [ck]at hh;done)
          | skip
         exact ⟨⟨3,aC,by go_num,hx.trans x10,fun _=>g0 aC,fun _=>g1 aC,fun _=>ck,aC⟩,by simp [intOf]⟩
        ·refine_lift lP (fun _=>?_) (fun _=>?_)
         all_goals first
          | (exfalso;have hh:=‹(!decide (J.denial.1=0))=false›;simp [ck]at hh;done)
          | skip
         go_ret2;exact ⟨by rw [hE,if_neg (by rw [g0 aC];decide),if_neg (by rw [g1 aC];decide),if_pos ck];rfl,(hx9.trans hx).trans x10⟩
       ·refine_lift rR ?_;intro _ _ _ _ _ _;refine aG (v:=.func (.func 237) #[] #[]) (Runs.idxA (i:=3) rfl rfl rfl aK (zDk:zB Tryz.prog 368 4=true)) ?_;refine aB ?_;refine_lift bU fun _ _=>?_;refine aG (Runs.loadN hpz2 rfl (zDk:eF Tryz.prog 365 6=true)) ?_;refine aB ?_;refine dW (enters_of Tryz.func237 rfl rfl) rfl rfl rfl (KZ J v1 v2 _ (o1.ext hx) (o2.ext hx)) ?_;rintro e w10 ⟨rfl,x10⟩;refine ⟨_,rfl,?_⟩;refine aB ?_;by_cases ck:J.referral.1=0
        ·refine_lift lP (fun _=>?_) (fun _=>?_)
         all_goals first
          | (exfalso;have hh:=‹(!decide (J.referral.1=0))=true›;simp [ck]at hh;done)
          | skip
         exact ⟨⟨4,aC,by go_num,hx.trans x10,fun _=>g0 aC,fun _=>g1 aC,fun _=>g2 aC,fun _=>ck⟩,by simp [intOf]⟩
        ·refine_lift lP (fun _=>?_) (fun _=>?_)
         all_goals first
          | (exfalso;have hh:=‹(!decide (J.referral.1=0))=false›;simp [ck]at hh;done)
          | skip
         go_ret2;exact ⟨by rw [hE,if_neg (by rw [g0 aC];decide),if_neg (by rw [g1 aC];decide),if_neg (by rw [g2 aC];decide)];rfl,(hx9.trans hx).trans x10⟩
       ·exact absurd (g3 aC) J.referral_ne)
   ·have hE:fF qn qt m z=(0,[]):=by rw [fF,if_pos (.inr (.inr ⟨fun h=>hok (.inl h),fun h=>hok (.inr h)⟩))]
    (repeat' first|((with_reducible refine aZ ?_);go_step)|((with_reducible refine aS ?_);first|refine dN ?_|(refine bG ?_ ?_<;>intro hc))|fail)
    all_goals first
     | (exfalso;apply hok;left;simpa using ‹(!decide (m.rcode=0))=false›;done)
     | (exfalso;apply hok;right;simpa using ‹(!decide (m.rcode=3))=false›;done)
     | skip
    go_ret2;exact ⟨by rw [hE];rfl,hx3⟩
structure Fr (b:Nat) (gv:Value) (w w':World):Prop where
 size:w.heap.size≤w'.heap.size
 block:∀ j,j<w.heap.size→j≠b→gv.ownBlock≠some j→w'.heap[j]? = w.heap[j]?
theorem Fr.mv {gv:Value} (h:Fr b gv w w1) (hm:Mv row w1 w2) (hr:∀ c,row=some c→c=b∨gv.ownBlock=some c∨w.heap.size≤c):Fr b gv w w2 :=
 ⟨Nat.le_trans h.size hm.size,fun j hj hb hg=>by
  rw [hm.block j (Nat.lt_of_lt_of_le hj h.size) (by
   intro e;rcases hr j e.symm with e1|e1|e1
   ·exact hb e1
   ·exact hg e1
   ·omega),h.block j hj hb hg]⟩
theorem Fr.ext {gv:Value} (h:Fr b gv w w1) (hx:Ext w1 w2):Fr b gv w w2:=h.mv (hx.mv none) (by intro c e;cases e)
theorem Fr.of {gv:Value} (hx:Ext w w1):Fr b gv w w1:=⟨hx.size,fun j hj _ _=>hx.block j hj⟩
def RRet (w0 w:World) (b:Nat) (gv:Value) (r:TaskR×ActR×List LrnR) (e:Ending) (w':World):Prop :=
 ∃ u l,e=.returned (.tuple #[u,l])∧ActRet w0 b (r.1,r.2.1) u w'∧LrnsV w.heap.size w' l r.2.2∧Fr b gv w w'
theorem ActRet.ext {r:TaskR×ActR} (h:ActRet w0 b r u w) (hx:Ext w w'):ActRet w0 b r u w':=⟨h.1.ext hx,h.2.grow hx⟩
theorem RRet.box {r:TaskR×ActR} {lr:List LrnR} {gv l:Value} (hu:ActRet w0 b r u w1) (hf:Fr b gv w w1) (hc:w1.heap[c]? = some (.cells eY.toArray 201 (0,0))) (hg:w.heap.size≤c) (h0:w0.heap.size≤w.heap.size)
 (hl:LrnsV B w1 l lr) (hB:c<B) (hp:Put w1 w2 c (.cells u.cells 201 (0,0))):∃ u1 u2,u=.agg (dV r.2 u1 u2).toArray∧RRet w0 w b gv (r.1,r.2,lr) (.returned (.tuple #[.agg (dV r.2 u1 u2).toArray,l])) w2:=by
 obtain ⟨u1,u2,e,q1,q2⟩:=(hu.1.put hp hc aK).out;obtain ⟨rv,sv,gv,ev,hT⟩:=hu.2;exact ⟨u1,u2,e,_,_,rfl,⟨⟨u1,u2,rfl,q1,q2⟩,rv,sv,gv,ev,hT.other hp hc (Nat.le_trans h0 hg)⟩,(hl.mvb hp.mv hB).weaken aC,hf.mv hp.mv (by rintro k ⟨⟩;exact .inr (.inr hg))⟩
theorem BE (a b:List Rec):aF (a++b)=aF a++aF b:=List.map_append
theorem TRet.tup {r:TaskR×ActR} {gv:Value} (h:TRet w0 w b r (.returned u) w'):RRet w0 w b gv (r.1,r.2,[]) (.returned (.tuple #[u, .slice none 0 0])) w':=by
 obtain ⟨u',e,h1,h2⟩:=h;cases e
 exact ⟨u,_,rfl,h1,LrnsV.nil _ _,h2.size,fun j hj hb _=>h2.block j hj (by intro e;exact hb (Option.some.inj e))⟩
theorem Own.cut1 (h:Own B k e w v es) (h1:1≤es.length):Own B k e w (dD v k 0 1) (es.take 1):=by
 rcases h.form with ⟨_,rfl⟩|⟨g,cap,rfl,_⟩
 ·simp at h1
 ·have:=h.short h1
  simpa [dD,Addr.add]using this
theorem TaskV.gotp {t:TaskR} {rv sv gv gv' ev:Value} {l:List Rec} (h:TaskV w0 w b t rv sv gv ev) (hs:t.stop=none) (hm:Mv gv.ownBlock w w1) (o1:Own w0.heap.size 4 37 w1 gv' (aF l))
 (hp:Put w1 w2 b (.cells (fR { t with got:=l } rv sv gv' ev).toArray 273 (0,0))):TaskV w0 w2 b { t with got:=l } rv sv gv' ev:=by
 have b1:=hm.at h.blk (fun e=>h.gs.neBlock h.blk aK e.symm);have r1:=h.rs.mv hm (h.rs.ne h.gs aK);have s1:OwnOff w0.heap.size 1 3 w1 sv (bO t.servers):=h.ss.mv hm (by
  rcases h.ss.neOwn h.gs aK with e|e
  ·cases hv:sv.ownBlock with
   | none=>exact .inl rfl
   | some r=>exact .inr (by rw [e];simp)
  ·exact .inr fun e'=>e e'.symm)
 refine ⟨h.ge,(h.ext.move hm (fun k hk=>(h.gs.block k hk).1)).move hp.mv (by rintro k ⟨⟩;exact h.ge),hp.this,r1.mv hp.mv (.inr (r1.neBlock b1 aK)),s1.mv hp.mv (.inr (s1.neBlock b1 aK)),o1.mv hp.mv (.inr (o1.neBlock b1 aK)),?_⟩;have he:=h.es;rw [hs]at he;show StopV w0.heap.size w2 ev t.stop;rw [hs];exact he
theorem VX {n:Nat} {t:TaskR} {rv sv gv ev:Value} (h:TaskV w0 w b t rv sv gv ev) (hB:TaskB t n) (hn:n≤100000) (m:MsgR) (q a u e:Value) (hm:∀ w',Mv (some b) w w'→MsgV w' m q a u e) (h1:m.an.length≤300) (h2:m.au.length≤300) (h3:m.ex.length≤300) (hd1:∀ z,∀ r∈t.of m.au z 2,r.data.length≤9223372036854775807) (hd2:∀ n,∀ r∈t.of m.ex n 1,r.data.length≤9223372036854775807) :
 Calls Tryz.prog 137 #[.pointer (some ⟨b,0,none⟩), .agg (aP m q a u e).toArray] w (RRet w0 w b gv (t.reply m)):=by
 have hp:=aA (cs:=fR t rv sv gv ev) h.blk;go_enter Tryz.func137,Tryz.ntmps137
 refine_lift mT fun _ _=>?_;refine jO (vs:=aP m q a u e) fun w1 x1 s1 hb1=>?_;refine aB ?_;have hp1:=aA (cs:=aP m q a u e) hb1;have hpt1:=hp.ext x1;refine_lift aT ?_;refine dX (z:=eY) fun w2 x2 s2 hb2=>?_;refine aB ?_;have hp2:=hp1.ext x2;have hpt2:=hpt1.ext x2;have he:=h.es;have hh2:=h.grow (x1.trans x2);cases hst:t.stop with
 | some a' =>
  rw [hst]at he;obtain ⟨c,v1,v2,rfl,hc,hcb,o1,o2,-⟩:=he;have hE:t.reply m=(t,a',[]):=by rw [TaskR.reply,hst]
  have hst':=hB.stop a' hst;refine_lift mH fun _ _ _ _=>?_;refine sC (MJ ⟨_,_,_,_,hh2⟩ hst aC aC) fun u' w4 x4 hu=>?_;have h14:=x4.at hb2;refine dB (v:=u') rfl rfl rfl h14 (by rw [hu.1.size];exact (zDk:dG Tryz.prog 201 7=true)) (by rw [hu.1.size];rfl) hu.1.one ?_;intro w5 p5;obtain ⟨u1,u2,rfl,hr⟩:=TRet.box hu (((x1.trans x2).trans x4).mv (some b)) h14 x1.size h.ext.size p5;refine_lift aT ?_;refine uC (cs:=dV a' u1 u2) p5.this ?_;rw [hE];exact hr.tup
 | none =>
  rw [hst]at he;have hev:ev=.pointer none:=he;subst hev;have hfr:∀ w',Mv (some b) w w'→MsgV w' m q a u e:=hm;refine_lift BX (fun _ _ _=>?_) (fun _ _ _=>?_)
  all_goals (
   have hR:IW m=if m.auth=true then 4 else 3:=rfl
   simp only [‹m.auth=_›,if_true,if_false,Bool.false_eq_true]at hR;refine aG (v:=.agg #[aE t.qn, .int .i64 t.qt]) (Runs.loadN ((hpt2.part 0).front 2) rfl (zDk:eF Tryz.prog 25 2=true)) ?_;refine aB ?_;refine dX (z:=[aE [], .int .i64 0]) fun w3 x3 s3 h3'=>?_;refine aB ?_;refine dL (v:=.agg #[aE t.qn, .int .i64 t.qt]) h3' (by simp [Value.cells,show ∀ s,(aE s).oneCell'=true from fun _=>rfl,show ∀ n,(Value.int .i64 n).oneCell'=true from fun _=>rfl]) fun w4 p4=>?_;have x4:=cJ x3 p4;have hbq:w4.heap[w2.heap.size]? = some (.cells [aE t.qn, .int .i64 t.qt].toArray 25 (0,0)):=p4.this;have hpq:=aA hbq;have hp4:=hp2.ext x4;have hpt4:=hpt2.ext x4;have hh4:=hh2.grow x4;have hm4:=hm _ (((x1.trans x2).trans x4).mv _);clear p4 h3' x3 hp hp1 hpt1 hp2 hpt2;refine_lift bU fun _ _=>?_;have hJ:=fun w (h:MsgV w m q a u e)=>VW t.qn t.qt m q a u e t.zone w h aC aC;generalize hjj:fF t.qn t.qt m t.zone=jj at *;refine cQ (S:=fun w'=>Ext w4 w') zDk ?_;intro w5 x5 _;refine dJ (i:=0) (v:=.agg #[aE t.qn, .int .i64 t.qt]) rfl rfl zDk zDk zDk rfl x5 (fun w' c=>Runs.loadN (hpq.ext c) rfl (zDk:eF Tryz.prog 25 2=true)) (fun _ _ _ h=>h) ?_;refine aB ?_;refine dJ (i:=1) (v:=.agg (aP m q a u e).toArray) rfl rfl zDk zDk zDk rfl x5 (fun w' c=>Runs.loadN (hp4.ext c) rfl (zDk:eF Tryz.prog 54 13=true)) (fun _ _ _ h=>h) ?_;refine aB ?_;refine dM 2 ?_;refine aB ?_;refine dM 3 ?_;refine aB ?_;refine dM 4 ?_;refine aB ?_;refine dM 5 ?_;refine aB ?_;refine bZ (i:=6) zDk rfl rfl ?_;refine cB (hJ _ (hm4.ext x5)) fun w6 x6=>?_;have x46:=x5.trans x6;refine aD ⟨x46,?_⟩;refine dM 7 ?_;refine aB ?_;refine dM 8 ?_;refine aB ?_;refine dM 9 ?_;refine aB ?_;refine dM 10 ?_;refine aB ?_;refine dM 11 ?_;refine aB ?_;refine cO zDk ?_;have hp6:=hp4.ext x46;have hpt6:=hpt4.ext x46;have hpq6:=hpq.ext x46;have hh6:=hh4.grow x46;have hb6:=(x4.trans x46).at hb2;have x06:=x1.trans (x2.trans (x4.trans x46));clear hp4 hpt4 hpq hh4 hm4 hbq;have hm6:=hm _ (x06.mv _);by_cases k1:jj.1=1
   ·have hE:t.reply m=(({ t with got:=t.got++t.of m.an t.qn t.qt }.done 0 (t.got++t.of m.an t.qn t.qt) []).1,({ t with got:=t.got++t.of m.an t.qn t.qt }.done 0 (t.got++t.of m.an t.qn t.qt) []).2,fQ (t.of m.an t.qn t.qt) (IW m)):=by
     unfold TaskR.reply;simp only [hst,hjj,k1,if_true]
    refine_lift EZ fun _ _ _ _ _=>?_;refine sC (OL ⟨_,_,_,_,hh6⟩ a m.an t.qn t.qt hm6.an aC) fun lv w7 x7 o7=>?_;have hLl:=nO t m.an t.qn t.qt;generalize hL:t.of m.an t.qn t.qt=L at *;have hh7:=hh6.grow x7;have hpt7:=hpt6.ext x7;have hb7:=x7.at hb6;have hgb:∀ r,gv.ownBlock=some r→w0.heap.size≤r∧r<w.heap.size:=h.gs.block;have hgl:=hB.got;have sz06:=x06.size;refine_lift bU fun _ _=>?_;refine bV (v0:=gv) (es:=aF t.got) (fs:=aF L) rfl hh7.gs rfl o7.sl gN hh7.ext.size (by rw [aJ,aJ];omega) ?_;intro gv8 w8 o8 m8 hk8;refine aB ?_;have o8':Own w0.heap.size 4 37 w8 gv8 (aF (t.got++L)):=by rw [BE];exact o8
    have b8:=m8.at hh7.blk (fun e=>hh7.gs.neBlock hh7.blk aK e.symm);have lvb:lv.ownBlock=none∨lv.ownBlock≠gv.ownBlock:=by
     cases hv:lv.ownBlock with
     | none=>exact .inl rfl
     | some r =>
      refine .inr fun e=>?_;have q1:=(o7.block r hv).1;have q2:=(hgb r e.symm).2;omega
    have l8:=o7.mv m8 lvb;refine_lift aT ?_;refine fA 5 gv8 b8 o8'.one fun w9 p9=>?_;have hT9:=hh7.gotp hst m8 o8' p9;have hbn:=(Array.getElem?_eq_some_iff.1 h.blk).1;have sz1:=x1.size;have hn9:some w1.heap.size≠some b:=by intro e;have:=Option.some.inj e;omega
    have hb9:=p9.mv.at (m8.at hb7 (by intro e;have:=hgb _ e.symm;omega)) hn9;have l9:=eM l8 p9 b8;have o9:=eM o8' p9 b8;have hpt9:=aA (cs:=fR { t with got:=t.got++L } rv sv gv8 (.pointer none)) hT9.blk;have f9:Fr b gv w w9:=((Fr.of (x06.trans x7)).mv m8 (fun c hc=>.inr (.inl hc))).mv p9.mv (by rintro c ⟨⟩;exact .inl rfl);clear hpt6 hpt7 hp6 hpq6 o8 l8;refine_lift bU fun _ _=>?_;refine gS (FT hT9 0 gv8 (.slice none 0 0) (t.got++L) [] o9 (Own.nil _ _ _ _) (by rw [List.length_append];omega) aK) ?_;rintro e10 w10 ⟨u10,rfl,hu10,hm10⟩;refine ⟨_,rfl,?_⟩;refine aB ?_;have l10:=l9.mv hm10 (.inr (l9.neBlock hT9.blk aK));have hb10:=hm10.at hb9 hn9;refine_lift aT ?_;refine sC (uU lv L _ _ l10.sl aC) fun ll w11 x11 l11=>?_;have hu11:=hu10.ext x11;have hb11:=x11.at hb10;have f11:=(f9.mv hm10 (by rintro c ⟨⟩;exact .inl rfl)).ext x11;have szb:=(Array.getElem?_eq_some_iff.1 hb10).1;refine dB (v:=u10) rfl rfl rfl hb11 (by rw [hu11.1.size];exact (zDk:dG Tryz.prog 201 7=true)) (by rw [hu11.1.size];rfl) hu11.1.one ?_;intro w12 p12;obtain ⟨u1,u2,rfl,hr⟩:=RRet.box hu11 f11 hb11 sz1 h.ext.size l11 szb p12;refine_lift aT ?_;refine uC (cs:=dV _ u1 u2) p12.this ?_;rw [hE,hR];exact hr
   ·by_cases k5:jj.1=5
    ·have hE:t.reply m=(({ t with got:=t.got++(t.of m.an t.qn 5).take 1 }.follow jj.2).1,({ t with got:=t.got++(t.of m.an t.qn 5).take 1 }.follow jj.2).2,fQ ((t.of m.an t.qn 5).take 1) (IW m)):=by
      unfold TaskR.reply;simp only [hst,hjj,k5,if_true,if_neg (show ¬ (5:Int)=1 by decide)]
     have hne:=SD (t:=t) (m:=m) (by rw [hjj];exact k5);refine_lift rR fun _ _ _ _ _ _=>?_;refine sC (OL ⟨_,_,_,_,hh6⟩ a m.an t.qn 5 hm6.an aC) fun lv w7 x7 o7=>?_;have hLl:=nO t m.an t.qn 5;generalize hL:t.of m.an t.qn 5=L at *;have hh7:=hh6.grow x7;have hpt7:=hpt6.ext x7;have hb7:=x7.at hb6;have s7:=o7.sl;have hcL:=aJ L;have hgb:∀ r,gv.ownBlock=some r→w0.heap.size≤r∧r<w.heap.size:=h.gs.block;have hgl:=hB.got;have sz06:=x06.size;have hcut:∀ {w:World},Sl 4 w lv (aF L)→Sl 4 w (dD lv 4 0 1) (aF (L.take 1)):=fun h=>by
      have:=h.cut (m:=0) (n:=1) aC aC;rw [List.drop_zero]at this;rw [aF,List.map_take];exact this
     refine_lift bU fun _ _=>?_;refine bV (v0:=gv) (es:=aF t.got) (fs:=aF (L.take 1)) rfl hh7.gs rfl (hcut o7.sl) gN hh7.ext.size (by rw [aJ,aJ,List.length_take];omega) ?_;intro gv8 w8 o8 m8 hk8;refine aB ?_;have o8':Own w0.heap.size 4 37 w8 gv8 (aF (t.got++L.take 1)):=by rw [BE];exact o8
     have b8:=m8.at hh7.blk (fun e=>hh7.gs.neBlock hh7.blk aK e.symm);have lvb:lv.ownBlock=none∨lv.ownBlock≠gv.ownBlock:=by
      cases hv:lv.ownBlock with
      | none=>exact .inl rfl
      | some r =>
       refine .inr fun e=>?_;have q1:=(o7.block r hv).1;have q2:=(hgb r e.symm).2;omega
     have l8:=o7.mv m8 lvb;refine_lift aT ?_;refine fA 5 gv8 b8 o8'.one fun w9 p9=>?_;have hT9:=hh7.gotp hst m8 o8' p9;have hbn:=(Array.getElem?_eq_some_iff.1 h.blk).1;have sz1:=x1.size;have hn9:some w1.heap.size≠some b:=by intro e;have:=Option.some.inj e;omega
     have hb9:=p9.mv.at (m8.at hb7 (by intro e;have:=hgb _ e.symm;omega)) hn9;have l9:=eM l8 p9 b8;have o9:=eM o8' p9 b8;have hpt9:=aA (cs:=fR { t with got:=t.got++L.take 1 } rv sv gv8 (.pointer none)) hT9.blk;have f9:Fr b gv w w9:=((Fr.of (x06.trans x7)).mv m8 (fun c hc=>.inr (.inl hc))).mv p9.mv (by rintro c ⟨⟩;exact .inl rfl);clear hpt6 hpt7 hp6 hpq6 o8 l8;refine_lift bU fun _ _=>?_;refine gS (SF ⟨_,_,_,_,hT9⟩ jj.2 hB.l0 (Int.le_trans hB.l1 aK) hB.c0 hB.c1) ?_;rintro e10 w10 ⟨u10,rfl,hu10,hm10⟩;refine ⟨_,rfl,?_⟩;refine aB ?_;have l10:=l9.mv hm10 (.inr (l9.neBlock hT9.blk aK));have hb10:=hm10.at hb9 hn9;refine_lift aT ?_;refine sC (uU (dD lv 4 0 1) (L.take 1) _ _ (hcut l10.sl) (by rw [List.length_take];omega)) fun ll w11 x11 l11=>?_;have hu11:=hu10.ext x11;have hb11:=x11.at hb10;have f11:=(f9.mv hm10 (by rintro c ⟨⟩;exact .inl rfl)).ext x11;have szb:=(Array.getElem?_eq_some_iff.1 hb10).1;refine dB (v:=u10) rfl rfl rfl hb11 (by rw [hu11.1.size];exact (zDk:dG Tryz.prog 201 7=true)) (by rw [hu11.1.size];rfl) hu11.1.one ?_;intro w12 p12;obtain ⟨u1,u2,rfl,hr⟩:=RRet.box hu11 f11 hb11 sz1 h.ext.size l11 szb p12;refine_lift aT ?_;refine uC (cs:=dV _ u1 u2) p12.this ?_;rw [hE,hR];exact hr
    ·have hm6':=hm6;by_cases k3:jj.1=3
     ·have hE:t.reply m=((t.done 3 t.got ((t.of m.au jj.2 6).take 1)).1,(t.done 3 t.got ((t.of m.au jj.2 6).take 1)).2,[]):=by
       unfold TaskR.reply;simp only [hst,hjj,k3,if_true,if_neg (show ¬ (3:Int)=1 by decide),if_neg (show ¬ (3:Int)=5 by decide)]
      have hne:=EH (t:=t) (m:=m) (by rw [hjj];exact .inr k3);rw [hjj]at hne;have hLl:=nO t m.au jj.2 6;have hof:=fun w (h:TaskV w0 w b t rv sv gv (.pointer none)) (hmm:MsgV w m q a u e)=>OL ⟨_,_,_,_,h⟩ u m.au jj.2 6 hmm.au aC;generalize hL:t.of m.au jj.2 6=L at *;have hcL:=aJ L;have hgl:=hB.got;refine_lift Ej fun _ _ _ _ _ _ _=>?_;refine aO 11 (Ext w6) zDk ?_;intro w7 x7 _;refine ⟨x7,?_⟩;refine bE 0 ?_;refine bE 1 ?_;refine bE 2 ?_;refine bE 3 ?_;refine bE 4 ?_;refine bE 5 ?_;refine bE 6 ?_;refine bE 7 ?_;refine bE 8 ?_;refine dH 9 ?_;refine sC (hof _ (hh6.grow x7) (hm6.ext x7)) fun lv w8 x8 o8=>?_;have x68:=x7.trans x8;refine aD ⟨aR x68,?_⟩;have sL:=o8.sl;refine dH 10 ?_
      ((with_reducible refine aS ?_);(first|(refine gV ?_;refine eS ?_)|(refine lY ?_;refine nR ?_;(with_reducible refine aS ?_);refine gV ?_;refine eS ?_)))
      refine aD ⟨aR x68,?_⟩;have hh8:=hh6.grow x68;have szx:=x68.size;have o8c:Own w0.heap.size 4 37 w8 (dD lv 4 0 1) (aF (L.take 1)):=by
       have:=o8.cut1 aC;rw [aF,List.map_take];exact this.weaken (by have:=h.ext.size;have:=x06.size;have:=x7.size;omega)
      refine dH 11 ?_;refine gS (FT hh8 3 gv (dD lv 4 0 1) t.got (L.take 1) hh8.gs o8c aC (by rw [List.length_take];omega)) ?_;rintro e9 w9 ⟨u9,rfl,hu9,hm9⟩;refine ⟨_,rfl,?_⟩;refine aB ?_;refine aD ⟨aN rfl,?_⟩;refine dH 12 ?_;have sz1:=x1.size;have hbn:=(Array.getElem?_eq_some_iff.1 h.blk).1;have hn9:some w1.heap.size≠some b:=by intro e;have:=Option.some.inj e;omega
      have hb9:=hm9.at (x68.at hb6) hn9;refine dB (v:=u9) rfl rfl rfl hb9 (by rw [hu9.1.size];exact (zDk:dG Tryz.prog 201 7=true)) (by rw [hu9.1.size];rfl) hu9.1.one ?_;intro w10 p10;refine aD ⟨aN rfl,?_⟩;obtain ⟨u1,u2,rfl,hr⟩:=TRet.box hu9 (((x06.trans x68).mv (some b)).trans hm9) hb9 sz1 h.ext.size p10;refine dH 13 ?_
      ((with_reducible refine aS ?_);(first|(refine gV ?_;refine eS ?_)|(refine lY ?_;refine nR ?_;(with_reducible refine aS ?_);refine gV ?_;refine eS ?_)))
      refine aD ⟨aN rfl,?_⟩;refine jP ?_;refine_lift aT ?_;refine uC (cs:=dV _ u1 u2) p10.this ?_;rw [hE];exact hr.tup
     ·by_cases k2:jj.1=2
      ·have hE:t.reply m=((t.done 0 t.got ((t.of m.au jj.2 6).take 1)).1,(t.done 0 t.got ((t.of m.au jj.2 6).take 1)).2,[]):=by
        unfold TaskR.reply;simp only [hst,hjj,k2,if_true,if_neg (show ¬ (2:Int)=1 by decide),if_neg (show ¬ (2:Int)=5 by decide),if_neg (show ¬ (2:Int)=3 by decide)]
       have hne:=EH (t:=t) (m:=m) (by rw [hjj];exact .inl k2);rw [hjj]at hne;have hLl:=nO t m.au jj.2 6;have hof:=fun w (h:TaskV w0 w b t rv sv gv (.pointer none)) (hmm:MsgV w m q a u e)=>OL ⟨_,_,_,_,h⟩ u m.au jj.2 6 hmm.au aC;generalize hL:t.of m.au jj.2 6=L at *;have hcL:=aJ L;have hgl:=hB.got
       (repeat' first|((with_reducible refine aZ ?_);go_step)|((with_reducible refine aS ?_);first|refine dN ?_|(refine bG ?_ ?_<;>intro hc))|fail)
       refine aO 11 (Ext w6) zDk ?_;intro w7 x7 _;refine ⟨x7,?_⟩;refine bE 0 ?_;refine bE 1 ?_;refine bE 2 ?_;refine bE 3 ?_;refine bE 4 ?_;refine bE 5 ?_;refine bE 6 ?_;refine bE 7 ?_;refine bE 8 ?_;refine dH 9 ?_;refine sC (hof _ (hh6.grow x7) (hm6.ext x7)) fun lv w8 x8 o8=>?_;have x68:=x7.trans x8;refine aD ⟨aR x68,?_⟩;have sL:=o8.sl;refine dH 10 ?_
       ((with_reducible refine aS ?_);(first|(refine gV ?_;refine eS ?_)|(refine lY ?_;refine nR ?_;(with_reducible refine aS ?_);refine gV ?_;refine eS ?_)))
       refine aD ⟨aR x68,?_⟩;have hh8:=hh6.grow x68;have szx:=x68.size;have o8c:Own w0.heap.size 4 37 w8 (dD lv 4 0 1) (aF (L.take 1)):=by
        have:=o8.cut1 aC;rw [aF,List.map_take];exact this.weaken (by have:=h.ext.size;have:=x06.size;have:=x7.size;omega)
       refine dH 11 ?_;refine gS (FT hh8 0 gv (dD lv 4 0 1) t.got (L.take 1) hh8.gs o8c aC (by rw [List.length_take];omega)) ?_;rintro e9 w9 ⟨u9,rfl,hu9,hm9⟩;refine ⟨_,rfl,?_⟩;refine aB ?_;refine aD ⟨aN rfl,?_⟩;refine dH 12 ?_;have sz1:=x1.size;have hbn:=(Array.getElem?_eq_some_iff.1 h.blk).1;have hn9:some w1.heap.size≠some b:=by intro e;have:=Option.some.inj e;omega
       have hb9:=hm9.at (x68.at hb6) hn9;refine dB (v:=u9) rfl rfl rfl hb9 (by rw [hu9.1.size];exact (zDk:dG Tryz.prog 201 7=true)) (by rw [hu9.1.size];rfl) hu9.1.one ?_;intro w10 p10;refine aD ⟨aN rfl,?_⟩;obtain ⟨u1,u2,rfl,hr⟩:=TRet.box hu9 (((x06.trans x68).mv (some b)).trans hm9) hb9 sz1 h.ext.size p10;refine dH 13 ?_
       ((with_reducible refine aS ?_);(first|(refine gV ?_;refine eS ?_)|(refine lY ?_;refine nR ?_;(with_reducible refine aS ?_);refine gV ?_;refine eS ?_)))
       refine aD ⟨aN rfl,?_⟩;refine jP ?_;refine_lift aT ?_;refine uC (cs:=dV _ u1 u2) p10.this ?_;rw [hE];exact hr.tup
      ·by_cases k4:jj.1=4
       ·have hE:t.reply m=((t.refer m jj.2).1.on.1,(t.refer m jj.2).1.on.2,(t.refer m jj.2).2):=by
         unfold TaskR.reply;simp only [hst,hjj,k4,if_true,if_neg (show ¬ (4:Int)=1 by decide),if_neg (show ¬ (4:Int)=5 by decide),if_neg (show ¬ (4:Int)=3 by decide),if_neg (show ¬ (4:Int)=2 by decide)]
        (repeat' first|((with_reducible refine aZ ?_);go_step)|((with_reducible refine aS ?_);first|refine dN ?_|(refine bG ?_ ?_<;>intro hc))|fail)
        refine aG (v:=.agg (aP m q a u e).toArray) (Runs.loadN hp6 rfl (zDk:eF Tryz.prog 54 13=true)) ?_;refine aB ?_;refine_lift aT ?_;refine gS (VR ⟨_,_,_,_,hh6⟩ m q a u e jj.2 (fun w' h'=>hm w' ((x06.mv _).trans h')) hst aC aC (hd1 jj.2) (hd2)) ?_;rintro e7 w7 ⟨ll,rfl,l7,hT7,hm7⟩;refine ⟨_,rfl,?_⟩;refine aB ?_;have sz1:=x1.size;have hbn:=(Array.getElem?_eq_some_iff.1 h.blk).1;have hn9:some w1.heap.size≠some b:=by intro e;have:=Option.some.inj e;omega
        have hb7:=hm7.at hb6 hn9;refine_lift bU fun _ _=>?_;refine gS (VS hT7 hB.l0 (Int.le_trans hB.l1 aK)) ?_;rintro e8 w8 ⟨u8,rfl,hu8,hm8⟩;refine ⟨_,rfl,?_⟩;refine aB ?_;have szb6:=(Array.getElem?_eq_some_iff.1 hb6).1;have l8:=l7.mvb hm8 (by have:=x06.size;omega);have hb8:=hm8.at hb7 hn9;have f8:=((Fr.of x06).mv hm7 (gv:=gv) (b:=b) (by rintro c ⟨⟩;exact .inl rfl)).mv hm8 (by rintro c ⟨⟩;exact .inl rfl);refine_lift aT ?_;refine dB (v:=u8) rfl rfl rfl hb8 (by rw [hu8.1.size];exact (zDk:dG Tryz.prog 201 7=true)) (by rw [hu8.1.size];rfl) hu8.1.one ?_;intro w12 p12;obtain ⟨u1,u2,rfl,hr⟩:=RRet.box hu8 f8 hb8 sz1 h.ext.size l8 szb6 p12;refine_lift aT ?_;refine uC (cs:=dV _ u1 u2) p12.this ?_;rw [hE];exact hr
       ·have hE:t.reply m=(t.on.1,t.on.2,[]):=by
         unfold TaskR.reply;simp only [hst,hjj,if_neg k1,if_neg k5,if_neg k3,if_neg k2,if_neg k4]
        refine_lift Ej fun _ _ _ _ _ _ _=>?_;refine gS (VS ⟨_,_,_,_,hh6⟩ hB.l0 (Int.le_trans hB.l1 aK)) ?_;rintro e8 w8 ⟨u8,rfl,hu8,hm8⟩;refine ⟨_,rfl,?_⟩;refine aB ?_;have sz1:=x1.size;have hbn:=(Array.getElem?_eq_some_iff.1 h.blk).1;have hn9:some w1.heap.size≠some b:=by intro e;have:=Option.some.inj e;omega
        have hb8:=hm8.at hb6 hn9;refine dB (v:=u8) rfl rfl rfl hb8 (by rw [hu8.1.size];exact (zDk:dG Tryz.prog 201 7=true)) (by rw [hu8.1.size];rfl) hu8.1.one ?_;intro w10 p10;obtain ⟨u1,u2,rfl,hr⟩:=TRet.box hu8 ((x06.mv (some b)).trans hm8) hb8 sz1 h.ext.size p10;refine_lift aT ?_;refine uC (cs:=dV _ u1 u2) p10.this ?_;rw [hE];exact hr.tup)
section
variable {P:Program} {a:Act} {w:World} {d:Option Nat} {ty:TypeId} {ps:String} {af:Array Edge} {g:Option (Nat×Bool)}
end
section
variable {P:Program} {w:World} {ts:List Value} {df:List Deferred} {d:Option Nat} {ty:TypeId} {ps:String} {af:Array Edge} {g:Option (Nat×Bool)}
end
theorem Aa (n:Int) (w:World):Calls Tryz.prog 193 #[.int .i64 n] w (bC w (.bool (!(decide (0≤n)&&decide (n≤99))))):=by
 go_enter Tryz.func193,Tryz.ntmps193
 refine_lift bU fun _ _=>?_;refine cB (XY n 0 99 _) fun w1 x1=>?_;refine_lift aT ?_;go_ret;exact ⟨rfl,x1⟩
def YD (f:FuncId) (l:List Int) (p:Int→Bool):Prop:=∀ n∈l,∀ w',Calls Tryz.prog f #[.int .i64 n] w' (bC w' (.bool (p n)))
theorem FU (v:Value) (l:List Int) (f:FuncId) (p:Int→Bool) (w:World) (hv:Sl 1 w v (bO l)) (he:Enters Tryz.prog f) (hf:YD f l p):Calls Tryz.prog 126 #[v, .func (.func f) #[] #[]] w (bC w (.int .i64 (oO p l))):=by
 have hle:=hv.le;have hlen:(bO l).length=l.length:=List.length_map ..;go_enter Tryz.func126,Tryz.ntmps126
 refine_lift bU fun _ _=>?_;go_loopw [5,8] (fun _ i wr=>∃ k:Nat,k≤l.length∧i=.int .i64 k∧Ext w wr∧(l.take k).any p=false) (fun _ i _=>l.length - (intOf i).toNat)
 case atStart=>exact ⟨0,Nat.zero_le _,rfl,Ext.refl _,rfl⟩
 case round =>
  obtain ⟨k,hk,rfl,hx,hall⟩:=hrel;have hv2:=hv.ext hx;by_cases hlt:k<l.length
  ·have hpe:=hv2.elem (NU hlt);refine_lift rR ?_;intro _ _ _ _ _ _;refine dW he rfl rfl rfl (hf _ (List.getElem_mem hlt) _) ?_;rintro e w2 ⟨rfl,x2⟩;refine ⟨_,rfl,?_⟩;refine aB ?_;cases hp:p l[k] with
   | true =>
    refine_lift aT ?_;go_ret;exact ⟨by rw [vT hlt hall hp];rfl,hx.trans x2⟩
   | false =>
    refine_lift aT ?_;exact ⟨⟨k+1,aC,by go_num,hx.trans x2,oL hlt hall hp⟩,by simp [intOf];omega⟩
  ·have:k=l.length:=aC;subst this;rw [List.take_length]at hall;refine_lift jQ fun _=>?_;go_ret;exact ⟨by rw [vU hall];rfl,hx⟩
theorem qA (v:Value) (l:List Int) (f:FuncId) (p:Int→Bool) (w:World) (hv:Sl 1 w v (bO l)) (he:Enters Tryz.prog f) (hf:YD f l p):Calls Tryz.prog 67 #[v, .func (.func f) #[] #[]] w (bC w (.bool (l.any p))):=by
 go_enter Tryz.func67,Tryz.ntmps67
 refine_lift bU fun _ _=>?_;refine cB (FU v l f p _ hv he hf) fun w1 x1=>?_;refine_lift aT ?_;go_ret;exact ⟨by rw [← uL];rfl,x1⟩
theorem JB (v:Value) (l:List Int) (w:World) (hv:Sl 1 w v (bO l)) (hl:l.length≤1000000):Calls Tryz.prog 69 #[v] w (kZ w fun v' w'=>Own w.heap.size 1 3 w' v' (bO l)):=by
 have hlen:(bO l).length=l.length:=List.length_map ..;go_enter Tryz.func69,Tryz.ntmps69
 (repeat' first|((with_reducible refine aZ ?_);go_step)|((with_reducible refine aS ?_);first|refine dN ?_|(refine bG ?_ ?_<;>intro hc))|fail)
 ·have hn:=‹wS v=true›;go_ret;have:bO l=[]:=hv.isNil hn;refine ⟨_,rfl,Ext.refl _,?_⟩;rw [this];exact Own.nil _ _ _ _
 ·refine kE (t:=44) (e:=3) (k:=1) (bytes:=8) zDk rfl ?_;intro v2 w2 x2 s2 o2;refine aB ?_;refine_lift aT ?_;refine jZ (B:=w.heap.size) (e:=3) (k:=1) (bytes:=8) (es:=[]) (fs:=bO l) rfl o2 rfl (hv.ext x2) zDk (by intro f hf u hu;obtain ⟨r,_,rfl⟩:=List.mem_map.1 hf;simp only [List.mem_cons,List.not_mem_nil,or_false]at hu;rcases hu with rfl;rfl) aC (by simp;omega) (by simp;omega) ?_;intro v3 w3 o3 m3;have x3:=o2.mvx m3 x2 (Nat.le_refl _);refine aB ?_;refine_lift aT ?_;go_ret;exact ⟨_,rfl,x3,o3⟩
section
variable {P:Program} {w:World} {ts:List Value} {df:List Deferred}
theorem iS {fn:Func} {q p r:Tmp} {t:TypeId} (h:fn.results=#[.tmp q, .cell p t, .tmp r]) {cs:List Value} {ty0:TypeId} {fr:Nat×Nat} (hp:ts.getD p undef=.pointer (some ⟨b,0,none⟩)) (hb:w.heap[b]? = some (.cells cs.toArray ty0 fr)) (ht:eF P t cs.length=true) :
 (results fn ts.toArray).run P w=.ok (.tuple #[ts.getD q undef, .agg cs.toArray,ts.getD r undef]) w:=by
 obtain ⟨u,ie,hu,hn,hie,hz⟩:=jV ht;have hl:=run_loadCells_list (P:=P) w ⟨b,0,none⟩ cs (fun j v hv=>by rw [cY,Nat.zero_add,cell_of_row w b j _ _ _ hb];simpa using hv);have hp':ts[p]?.getD undef=.pointer (some ⟨b,0,none⟩):=by simpa using hp
 simp [results,h,hp',asAddr,loadVar,Sem.run_bind,jW hu hn,sizeOf,typeInfo,hie,hz,hl,Result.andThen]
end
theorem OR {n a b:Int} {c:Bool} (h:(decide (a≤n)&&decide (n≤b))=c):Calls Tryz.prog 192 #[.int .i64 n, .int .i64 a, .int .i64 b] w (bC w (.bool c)):=h▸XY n a b w
def rC (w:World) (qn:List UInt8) (qt:Int) (rl:List Int) (budget:Int) (r:Value) (w':World):Prop :=
 if nL qn qt rl budget=0 then ∃ b u,r=.tuple #[.pointer (some ⟨b,0,none⟩),u, .int .i64 0]∧ActRet w b (eG qn qt rl budget).on u w'
 else r=.tuple #[.pointer none, .agg eY.toArray, .int .i64 1]
theorem Cx (qn:List UInt8) (qt:Int) (v:Value) (rl:List Int) (budget:Int) (w:World) (hv:Sl 1 w v (bO rl)) (hl:rl.length≤1000000):Calls Tryz.prog 142 #[.agg #[aE qn, .int .i64 qt],v, .int .i64 budget] w (kZ w (rC w qn qt rl budget)):=by
 have hle:=hv.le;have hlen:(bO rl).length=rl.length:=List.length_map ..;go_enter Tryz.func142,Tryz.ntmps142
 refine_lift mT fun _ _=>?_;refine mW (vs:=[aE qn, .int .i64 qt]) fun pq w1 x1 hq=>?_;refine aB ?_;have hv1:=hv.ext x1;refine_lift aT ?_;refine dX (z:=eY) fun w2 x2 s2 h2=>?_;refine aB ?_;have hq2:=hq.ext x2;refine_lift bU fun _ _=>?_;have h27:=fun w=>PO qn w;by_cases c1:eH qn=0
 ·have e1:(aM qn).isSome=true:=by
   unfold eH at c1;split at c1
   ·assumption
   ·cases c1
  rw [e1,if_pos rfl]at h27;refine bK (enters_of Tryz.func52 rfl rfl) rfl rfl (h27 _) ?_;intro w3 x3;refine aB ?_;have hq3:=hq2.ext x3;by_cases c2:1≤qt∧qt≤65535
  ·refine_lift aT ?_;refine bK (enters_of Tryz.func192 rfl rfl) rfl rfl (OR (c:=true) (by rw [decide_eq_true c2.1,decide_eq_true c2.2];rfl)) ?_;intro w4 x4;refine aB ?_;by_cases c3:1≤rl.length∧rl.length≤20
   ·refine_lift aT ?_;refine bK (enters_of Tryz.func192 rfl rfl) rfl rfl (OR (c:=true) (by rw [hlen,decide_eq_true aC,decide_eq_true aC];rfl)) ?_;intro w5 x5;refine aB ?_;by_cases c4:1≤budget∧budget≤100
    ·refine_lift aT ?_;refine bK (enters_of Tryz.func192 rfl rfl) rfl rfl (OR (c:=true) (by rw [decide_eq_true c4.1,decide_eq_true c4.2];rfl)) ?_;intro w6 x6;refine aB ?_;refine_lift mH fun _ _ _ _=>?_;have hv6:=(((((hv1.ext x2).ext x3).ext x4).ext x5).ext x6);have hq6:=(((hq3.ext x4).ext x5).ext x6);have hx6:=x1.trans (x2.trans (x3.trans (x4.trans (x5.trans x6))));have h26:=((((x3.trans x4).trans x5).trans x6)).at h2;have hCF:=fun w9 (h9:Sl 1 w9 v (bO rl))=>qA v rl 193 (fun n => !(decide (0≤n)&&decide (n≤99))) w9 h9 (enters_of Tryz.func193 rfl rfl) (fun n _ w'=>Aa n w');cases c5:rl.any (fun n => !(decide (0≤n)&&decide (n≤99))) with
     | true =>
      have hE:¬ nL qn qt rl budget=0:=by
       unfold nL;rw [if_neg (by rintro ⟨_,_,_,_,h⟩;rw [c5]at h;cases h)]
       decide
      simp only [c5]at hCF;refine bK (enters_of Tryz.func67 rfl rfl) rfl rfl (hCF _ hv6) ?_;intro w7 x7;refine aB ?_;have h27':=x7.at h26;refine_lift bU fun _ _=>?_;refine cG (v:=.agg eY.toArray) rfl (Runs.build0 (by kernel_rfl)) ?_;refine aB ?_;refine_lift aT ?_;refine dL (v:=.agg eY.toArray) h27' zDk fun w8 p8=>?_;have hx8:=cJ (hx6.trans x7) p8;refine_lift aT ?_;refine bodyPost_ret (iS (cs:=eY) rfl rfl p8.this (zDk:eF Tryz.prog 201 7=true)) rfl ⟨_,rfl,hx8,?_⟩;rw [rC,if_neg hE];rfl
     | false =>
      have hE:nL qn qt rl budget=0:=by
       unfold nL;exact if_pos ⟨c1,c2,c3,c4,c5⟩
      simp only [c5]at hCF;refine bK (enters_of Tryz.func67 rfl rfl) rfl rfl (hCF _ hv6) ?_;intro w7 x7;refine aB ?_;have h27':=x7.at h26;have hq7:=hq6.ext x7;have hv7:=hv6.ext x7;refine_lift bU fun _ _=>?_;refine cQ (S:=fun w'=>Ext w7 w') zDk ?_;intro w8 x8 _;refine dM 0 ?_;refine aB ?_;refine dM 1 ?_;refine aB ?_;refine dM 3 ?_;refine aB ?_;refine dM 4 ?_;refine aB ?_;refine dM 6 ?_;refine aB ?_;refine dM 8 ?_;refine aB ?_;refine bZ (i:=2) zDk rfl rfl ?_;refine bK (enters_of Tryz.func53 rfl rfl) rfl rfl (vQ qn _) ?_;intro w9 x9;refine aB ?_;have x79:=x8.trans x9;refine aD ⟨x79,?_⟩;refine dJ (i:=5) (v:=.agg #[aE (fold qn), .int .i64 qt]) rfl rfl zDk zDk zDk rfl x79 (fun w' _=>Runs.build rfl (by kernel_rfl)) (fun _ _ _ h=>h) ?_;refine aB ?_;refine bZ (i:=7) zDk rfl rfl ?_;refine fV (enters_of Tryz.func69 rfl rfl) rfl rfl (JB v rl _ (hv7.ext x79) hl) ?_;intro rv w10 x10 o10;refine aB ?_;have x710:=x79.trans x10;refine aD ⟨x710,?_⟩;refine dJ (i:=9) (v:=.agg (fR ⟨fold qn,qt,rl,[],[],[],0,budget,none⟩ rv (.slice none 0 0) (.slice none 0 0) (.pointer none)).toArray) rfl rfl zDk zDk zDk rfl x710 (fun w' _=>Runs.build (vals:=[(0, .agg #[aE (fold qn), .int .i64 qt]),(1,rv),(6, .int .i64 budget)]) rfl (by obtain ⟨_,_,_,rfl⟩:=o10.sl.slf;kernel_rfl)) (fun _ _ _ h=>h) ?_;refine aB ?_;refine bZ (i:=10) zDk rfl rfl ?_;refine jO (vs:=fR ⟨fold qn,qt,rl,[],[],[],0,budget,none⟩ rv (.slice none 0 0) (.slice none 0 0) (.pointer none)) fun w11 x11 s11 h11=>?_;refine aB ?_;have x711:=x710.trans x11;refine aD ⟨x711,?_⟩;refine dM 11 ?_;refine aB ?_;refine cO zDk ?_;have hx11:Ext w w11:=(hx6.trans x7).trans x711;have hsz7:=(hx6.trans x7).size;have hT:TaskV w w11 w10.heap.size ⟨fold qn,qt,rl,[],[],[],0,budget,none⟩ rv (.slice none 0 0) (.slice none 0 0) (.pointer none) :=
       ⟨((hx6.trans x7).trans x710).size,hx11,h11,(o10.weaken (hx6.trans (x7.trans x79)).size).ext x11,OwnOff.nil _ _ _ _,Own.nil _ _ _ _,rfl⟩
      have hp11:=aA (cs:=fR ⟨fold qn,qt,rl,[],[],[],0,budget,none⟩ rv (.slice none 0 0) (.slice none 0 0) (.pointer none)) h11;have h27'':=x711.at h27';refine_lift bU fun _ _=>?_;refine fA 4 rv hT.blk o10.one fun w12 p12=>?_;have p12':Put w11 w12 w10.heap.size (.cells (fR (eG qn qt rl budget) rv rv (.slice none 0 0) (.pointer none)).toArray 273 (0,0)):=p12;obtain ⟨k1,k2,k3,k4⟩:=hT.kept p12;have hT12:=hT.put p12' k1 k1.off k3 k4;clear p12' hp11;refine_lift bU fun _ _=>?_;refine bF (vs:=[.pointer (some ⟨w10.heap.size,0,none⟩)]) (enters_of Tryz.func152 rfl rfl) rfl rfl (VS ⟨_,_,_,_,hT12⟩ (show 0≤budget by omega) (show budget≤1000000 by omega)) ?_;rintro e w13 ⟨u,rfl,hu,hm⟩;refine ⟨_,rfl,?_⟩;refine aB ?_;have szz:=(x2.trans (x3.trans (x4.trans (x5.trans (x6.trans (x7.trans x710)))))).size;have szl:=(Array.getElem?_eq_some_iff.1 h2).1;have szm:=(x3.trans (x4.trans (x5.trans (x6.trans (x7.trans x710))))).size;have hne:some w1.heap.size≠some w10.heap.size:=by
       intro e;have:=Option.some.inj e;omega
      have h14:=hm.at (p12.mv.at h27'' hne) hne;refine_lift aT ?_;refine dB (v:=u) rfl rfl rfl h14 (by rw [hu.1.size];exact (zDk:dG Tryz.prog 201 7=true)) (by rw [hu.1.size];rfl) hu.1.one ?_;intro w14 p14;obtain ⟨u1,u2,rfl,q1,q2⟩:=(hu.1.put p14 h14 aK).out;obtain ⟨rv',sv',gv',ev',hTT⟩:=hu.2;have hT14:=hTT.other p14 h14 x1.size;refine_lift aT ?_;refine bodyPost_ret (iS (cs:=dV (eG qn qt rl budget).on.2 u1 u2) rfl rfl p14.this (zDk:eF Tryz.prog 201 7=true)) rfl ⟨_,rfl,hT14.ext,?_⟩;rw [rC,if_pos hE];exact ⟨_,_,rfl,⟨u1,u2,rfl,q1,q2⟩,_,_,_,_,hT14⟩
    ·have hE:¬ nL qn qt rl budget=0:=by
      unfold nL;rw [if_neg (by rintro ⟨h1,h2,h3,h4,_⟩;exact c4 h4)]
      decide
     refine_lift aT ?_;refine bK (enters_of Tryz.func192 rfl rfl) rfl rfl (OR (c:=false) (by simp only [Bool.and_eq_false_iff,decide_eq_false_iff_not];omega)) ?_;intro w6 x6;refine aB ?_;have h26:=((((x3.trans x4).trans x5).trans x6)).at h2;refine_lift mH fun _ _ _ _=>?_;refine cG (v:=.agg eY.toArray) rfl (Runs.build0 (by kernel_rfl)) ?_;refine aB ?_;refine_lift aT ?_;refine dL (v:=.agg eY.toArray) h26 zDk fun w8 p8=>?_;have hx8:Ext w w8:=(x1.trans (x2.trans (x3.trans (x4.trans (x5.trans x6))))).move p8.mv (by rintro k ⟨⟩;exact x1.size);refine_lift aT ?_;refine bodyPost_ret (iS (cs:=eY) rfl rfl p8.this (zDk:eF Tryz.prog 201 7=true)) rfl ⟨_,rfl,hx8,?_⟩;rw [rC,if_neg hE];rfl
   ·have hE:¬ nL qn qt rl budget=0:=by
     unfold nL;rw [if_neg (by rintro ⟨h1,h2,h3,h4,_⟩;exact c3 h3)]
     decide
    refine_lift aT ?_;refine bK (enters_of Tryz.func192 rfl rfl) rfl rfl (OR (c:=false) (by simp only [Bool.and_eq_false_iff,decide_eq_false_iff_not];omega)) ?_;intro w5 x5;refine aB ?_;have h26:=(((x3.trans x4).trans x5)).at h2;refine_lift mH fun _ _ _ _=>?_;refine cG (v:=.agg eY.toArray) rfl (Runs.build0 (by kernel_rfl)) ?_;refine aB ?_;refine_lift aT ?_;refine dL (v:=.agg eY.toArray) h26 zDk fun w8 p8=>?_;have hx8:Ext w w8:=(x1.trans (x2.trans (x3.trans (x4.trans x5)))).move p8.mv (by rintro k ⟨⟩;exact x1.size);refine_lift aT ?_;refine bodyPost_ret (iS (cs:=eY) rfl rfl p8.this (zDk:eF Tryz.prog 201 7=true)) rfl ⟨_,rfl,hx8,?_⟩;rw [rC,if_neg hE];rfl
  ·have hE:¬ nL qn qt rl budget=0:=by
    unfold nL;rw [if_neg (by rintro ⟨h1,h2,h3,h4,_⟩;exact c2 h2)]
    decide
   refine_lift aT ?_;refine bK (enters_of Tryz.func192 rfl rfl) rfl rfl (OR (c:=false) (by simp only [Bool.and_eq_false_iff,decide_eq_false_iff_not];omega)) ?_;intro w4 x4;refine aB ?_;have h26:=((x3.trans x4)).at h2;refine_lift mH fun _ _ _ _=>?_;refine cG (v:=.agg eY.toArray) rfl (Runs.build0 (by kernel_rfl)) ?_;refine aB ?_;refine_lift aT ?_;refine dL (v:=.agg eY.toArray) h26 zDk fun w8 p8=>?_;have hx8:Ext w w8:=(x1.trans (x2.trans (x3.trans x4))).move p8.mv (by rintro k ⟨⟩;exact x1.size);refine_lift aT ?_;refine bodyPost_ret (iS (cs:=eY) rfl rfl p8.this (zDk:eF Tryz.prog 201 7=true)) rfl ⟨_,rfl,hx8,?_⟩;rw [rC,if_neg hE];rfl
 ·have hE:¬ nL qn qt rl budget=0:=by
   unfold nL;rw [if_neg (by rintro ⟨h1,h2,h3,h4,_⟩;exact c1 h1)]
   decide
  have e1:¬ (aM qn).isSome=true:=by
   intro e;exact c1 (by unfold eH;rw [e];rfl)
  rw [if_neg e1]at h27;refine bK (enters_of Tryz.func52 rfl rfl) rfl rfl (h27 _) ?_;intro w3 x3;refine aB ?_;have h26:=x3.at h2;refine_lift mH fun _ _ _ _=>?_;refine cG (v:=.agg eY.toArray) rfl (Runs.build0 (by kernel_rfl)) ?_;refine aB ?_;refine_lift aT ?_;refine dL (v:=.agg eY.toArray) h26 zDk fun w8 p8=>?_;have hx8:=cJ (x1.trans (x2.trans x3)) p8;refine_lift aT ?_;refine bodyPost_ret (iS (cs:=eY) rfl rfl p8.this (zDk:eF Tryz.prog 201 7=true)) rfl ⟨_,rfl,hx8,?_⟩;rw [rC,if_neg hE];rfl
deriving instance DecidableEq for TaskR
deriving instance DecidableEq for RSet
deriving instance DecidableEq for LrnR
section
variable {P:Program} {w w0:World} {ts:List Value} {df:List Deferred} {d:Option Nat} {ty:TypeId} {ps:String} {af:Array Edge} {g:Option (Nat×Bool)}
end
theorem Own.same (h:Own B k e w v es) (hs:∀ r,v.ownBlock=some r→w'.heap[r]? = w.heap[r]?):Own B k e w' v es:=by
 obtain ⟨⟨h1,h2⟩,h3⟩:=h;refine ⟨⟨h1,?_⟩,h3⟩;rcases h2 with h2|⟨gg,cap,cur,fz,rfl,hb,hg,r⟩
 ·exact .inl h2
 ·exact .inr ⟨gg,cap,cur,fz,rfl,hb,by rw [hs gg rfl];exact hg,r⟩
theorem Own.fr {t:TaskR} {rv sv gv ev:Value} (h:Own B k e w v es) (hf:Fr b gv w w') (hT:TaskV w0 w b t rv sv gv ev) (h1:273≠e) (h2:e≠37):Own B k e w' v es :=
 h.same fun r hr=>hf.block r (h.block r hr).2 (by rintro rfl;exact h.neBlock hT.blk h1 hr) (by
  intro e2;rcases h.ne hT.gs h2 with e3|e3
  ·rw [hr]at e3;cases e3
  ·exact e3 (by rw [hr,e2]))
theorem Fr.box {t:Nat} {tk:TaskR} {rv sv gv ev:Value} (hf:Fr b gv w w') (hT:TaskV w0 w b tk rv sv gv ev) (hc:w.heap[c]? = some (.cells cs t fz)) (h1:t≠273) (h2:t≠37):w'.heap[c]? = some (.cells cs t fz):=by
 rw [hf.block c (Array.getElem?_eq_some_iff.1 hc).1 (by
  rintro rfl;have:=hT.blk;rw [hc]at this;simp only [Option.some.injEq,Obj.cells.injEq]at this;exact h1 this.2.1) (hT.gs.neBlock hc h2)]
 exact hc
theorem VY {t:TaskR} {l:List Rec} {k:Int} {K:Nat} (h:∀ r∈l,r.data.length≤K):∀ r∈t.of l n k,r.data.length≤K:=by
 intro r hr;unfold TaskR.of at hr;obtain ⟨q,hq,rfl⟩:=List.mem_map.1 (List.mem_filter.1 hr).1;exact h q (List.mem_filter.1 hq).1
section
variable {P:Program} {a:Act} {w:World} {d:Option Nat} {ty:TypeId} {ps:String} {af:Array Edge} {g:Option (Nat×Bool)}
end
section
variable {P:Program} {ts:List Value} {df:List Deferred} {w:World} {d:Option Nat} {ty:TypeId} {ps:String} {af:Array Edge} {g:Option (Nat×Bool)}
end
theorem OT {r q:mU}:(Op.equalIn 10000 25 (.agg #[aE r.1, .int .i64 r.2]) (.agg #[aE q.1, .int .i64 q.2])).run Tryz.prog w=.ok (decide (r=q)) w:=by
 have hS:Tryz.prog.underlying 25=some (.struct (Tryz.prog.fieldsOf 25)):=by kernel_rfl
 rw [show (10000:Nat)=9999+1 from rfl,run_equalIn_agg w 9999 25 _ _ hS (by kernel_rfl)];simp only [Program.fieldsOf,Tryz.underlying25];have u3:=Tryz.underlying3;have u31:=Tryz.underlying23;have a3:=Tryz.isAgg3;have a31:=Tryz.isAgg23;have z3:=Tryz.sizeOf3;have z31:=Tryz.sizeOf23;unfold aE
 go_simp
 obtain ⟨a1,a2⟩:=r;obtain ⟨b1,b2⟩:=q;simp only [Prod.mk.injEq];by_cases h1:a1=b1<;>by_cases h2:a2=b2<;>simp [h1,h2]
theorem Runs.neqQst {r q:mU} {x y:Operand} {a:Act} {d:Option Nat} {u ty:TypeId} {ps:String} {af:Array Edge} {g:Option (Nat×Bool)}
 (hx:a.eval x=.agg #[aE r.1, .int .i64 r.2]) (hy:a.eval y=.agg #[aE q.1, .int .i64 q.2]) :
 Runs Tryz.prog (Oper.mk d (.binOp .neq 25 x y u) ty ps af g) a w (.bool (!decide (r=q))):=by
 constructor;have hg:=run_eqGuard_agg (P:=Tryz.prog) w .neq 25 x y #[aE r.1, .int .i64 r.2] #[aE q.1, .int .i64 q.2] (by kernel_rfl);simp only [execOp,hx,hy,Sem.run_bind,hg,Result.andThen_ok,run_neq_struct,OT,Sem.run_pure]
section
variable {P:Program} {ts:List Value} {df:List Deferred} {w:World} {d:Option Nat} {ty:TypeId} {ps:String} {af:Array Edge} {g:Option (Nat×Bool)}
end
abbrev VZ:=Bool×MsgR
def Er (s:VZ) (q a u e:Value):List Value:=.bool s.1::aP s.2 q a u e
structure RopsAt (w:World) (v:Value) (l:List VZ):Prop where
 out:∃ css,Sl 14 w v css∧css.length=l.length∧∀ (i:Nat) (s:VZ),l[i]? = some s→∃ q a u e,css[i]? = some (Er s q a u e)∧MsgV w s.2 q a u e
theorem RopsAt.ext {l:List VZ} (h:RopsAt w v l) (hx:Ext w w'):RopsAt w' v l:=by
 obtain ⟨css,h1,h2,h3⟩:=h;exact ⟨css,h1.ext hx,h2,fun i s hi=>let ⟨q,a,u,e,h4,h5⟩:=h3 i s hi;⟨q,a,u,e,h4,h5.ext hx⟩⟩
theorem TaskV.other2 {t:TaskR} {rv sv gv ev u1 u2:Value} {o:Obj} {a:ActR} (h:TaskV w0 w b t rv sv gv ev) (hp:Put w w' c o) (hc:w.heap[c]? = some (.cells (dV a u1 u2).toArray 201 fz)) (ha:a.kind≠2) (hg:w0.heap.size≤c):TaskV w0 w' b t rv sv gv ev:=by
 refine ⟨h.ge,h.ext.move hp.mv (by rintro k ⟨⟩;exact hg),hp.mv.at h.blk ?_,h.rs.mv hp.mv (.inr (h.rs.neBlock hc aK)),h.ss.mv hp.mv (.inr (h.ss.neBlock hc aK)),h.gs.mv hp.mv (.inr (h.gs.neBlock hc aK)),?_⟩
 ·intro e;have e2:=h.blk;rw [Option.some.inj e,hc]at e2;simp only [Option.some.injEq,Obj.cells.injEq]at e2;exact absurd e2.2.1 aK
 ·have he:=h.es;generalize hst:t.stop=s at he;cases s with
  | none=>exact he
  | some a' =>
   obtain ⟨k,v1,v2,g1,g2,g3,g4,g5,g6⟩:=he;refine ⟨k,v1,v2,g1,g2,hp.mv.at g3 (fun e=>?_),g4.mv hp.mv (.inr (g4.neBlock hc aK)),g5.mv hp.mv (.inr (g5.neBlock hc aK)),g6⟩;rw [Option.some.inj e,hc]at g3;simp only [Option.some.injEq,Obj.cells.injEq]at g3;have e3:=congrArg (fun q=>q[0]?) g3.1;simp [dV,g6]at e3;exact ha e3
theorem TaskAt.other2 {t:TaskR} {u1 u2:Value} {o:Obj} {a:ActR} (h:TaskAt w0 w b t) (hp:Put w w' c o) (hc:w.heap[c]? = some (.cells (dV a u1 u2).toArray 201 fz)) (ha:a.kind≠2) (hg:w0.heap.size≤c):TaskAt w0 w' b t:=by
 obtain ⟨rv,sv,gv,ev,h⟩:=h;exact ⟨rv,sv,gv,ev,h.other2 hp hc ha hg⟩
theorem TaskAt.ext {t:TaskR} (h:TaskAt w0 w b t):Ext w0 w:=by obtain ⟨_,_,_,_,h⟩:=h;exact h.ext
theorem TaskAt.lt {t:TaskR} (h:TaskAt w0 w b t):b<w.heap.size:=by obtain ⟨_,_,_,_,h⟩:=h;exact (Array.getElem?_eq_some_iff.1 h.blk).1
structure ActAt (w0 w:World) (b c:Nat) (r:TaskR×ActR):Prop where
 tsk:TaskAt w0 w b r.1
 out:∃ v1 v2,w.heap[c]? = some (.cells (dV r.2 v1 v2).toArray 201 (0,0))∧Own 0 4 37 w v1 (aF r.2.ans)∧Own 0 4 37 w v2 (aF r.2.auth)
 ge:w0.heap.size≤c
 ne:c≠b
theorem ActAt.grow {r:TaskR×ActR} (h:ActAt w0 w b c r) (hx:Ext w w'):ActAt w0 w' b c r:=by
 obtain ⟨v1,v2,h1,h2,h3⟩:=h.out;exact ⟨h.tsk.grow hx,⟨v1,v2,hx.at h1,h2.ext hx,h3.ext hx⟩,h.ge,h.ne⟩
theorem ActAt.next {a:ActR} {r:TaskR×ActR} {u1 u2 v1 v2:Value} (hT:TaskAt w0 w1 b r.1) (hc:w1.heap[c]? = some (.cells (dV a u1 u2).toArray 201 (0,0))) (ha:a.kind≠2) (hg:w0.heap.size≤c) (hn:c≠b)
 (o1:Own 0 4 37 w1 v1 (aF r.2.ans)) (o2:Own 0 4 37 w1 v2 (aF r.2.auth)) (hp:Put w1 w2 c (.cells (dV r.2 v1 v2).toArray 201 (0,0))):ActAt w0 w2 b c r :=
 ⟨hT.other2 hp hc ha hg,⟨v1,v2,hp.this,eM o1 hp hc,eM o2 hp hc⟩,hg,hn⟩
structure ActIn (w0 w:World) (b c:Nat) (r:TaskR×ActR):Prop where
 tsk:∃ rv sv gv ev,TaskV w0 w b r.1 rv sv gv ev∧ev≠.pointer (some ⟨c,0,none⟩)
 out:∃ v1 v2,w.heap[c]? = some (.cells (dV r.2 v1 v2).toArray 201 (0,0))∧Own 0 4 37 w v1 (aF r.2.ans)∧Own 0 4 37 w v2 (aF r.2.auth)
 ge:w0.heap.size≤c
 ne:c≠b
theorem TaskV.other3 {t:TaskR} {rv sv gv ev u1 u2:Value} {o:Obj} {a:ActR} (h:TaskV w0 w b t rv sv gv ev) (hp:Put w w' c o) (hc:w.heap[c]? = some (.cells (dV a u1 u2).toArray 201 fz)) (ha:ev≠.pointer (some ⟨c,0,none⟩)) (hg:w0.heap.size≤c):TaskV w0 w' b t rv sv gv ev:=by
 refine ⟨h.ge,h.ext.move hp.mv (by rintro k ⟨⟩;exact hg),hp.mv.at h.blk ?_,h.rs.mv hp.mv (.inr (h.rs.neBlock hc aK)),h.ss.mv hp.mv (.inr (h.ss.neBlock hc aK)),h.gs.mv hp.mv (.inr (h.gs.neBlock hc aK)),?_⟩
 ·intro e;have e2:=h.blk;rw [Option.some.inj e,hc]at e2;simp only [Option.some.injEq,Obj.cells.injEq]at e2;exact absurd e2.2.1 aK
 ·have he:=h.es;generalize hst:t.stop=s at he;cases s with
  | none=>exact he
  | some a' =>
   obtain ⟨k,v1,v2,g1,g2,g3,g4,g5,g6⟩:=he;refine ⟨k,v1,v2,g1,g2,hp.mv.at g3 (fun e=>?_),g4.mv hp.mv (.inr (g4.neBlock hc aK)),g5.mv hp.mv (.inr (g5.neBlock hc aK)),g6⟩;exact ha (by rw [g1,Option.some.inj e])
theorem ActIn.next {a:ActR} {r:TaskR×ActR} {u1 u2 v1 v2 rv sv gv ev:Value} (hT:TaskV w0 w1 b r.1 rv sv gv ev) (he:ev≠.pointer (some ⟨c,0,none⟩)) (hc:w1.heap[c]? = some (.cells (dV a u1 u2).toArray 201 (0,0))) (hg:w0.heap.size≤c) (hn:c≠b)
 (o1:Own 0 4 37 w1 v1 (aF r.2.ans)) (o2:Own 0 4 37 w1 v2 (aF r.2.auth)) (hp:Put w1 w2 c (.cells (dV r.2 v1 v2).toArray 201 (0,0))):ActIn w0 w2 b c r :=
 ⟨⟨rv,sv,gv,ev,hT.other3 hp hc he hg,he⟩,⟨v1,v2,hp.this,eM o1 hp hc,eM o2 hp hc⟩,hg,hn⟩
theorem ActIn.grow {r:TaskR×ActR} (h:ActIn w0 w b c r) (hx:Ext w w'):ActIn w0 w' b c r:=by
 obtain ⟨v1,v2,h1,h2,h3⟩:=h.out;obtain ⟨rv,sv,gv,ev,h4,h5⟩:=h.tsk;exact ⟨⟨rv,sv,gv,ev,h4.grow hx,h5⟩,⟨v1,v2,hx.at h1,h2.ext hx,h3.ext hx⟩,h.ge,h.ne⟩
theorem TaskAt.apart {t:TaskR} {u1 u2:Value} {a:ActR} (h:TaskAt w0 w b t) (hc:w.heap[c]? = some (.cells (dV a u1 u2).toArray 201 fz)) (ha:a.kind≠2):∃ rv sv gv ev,TaskV w0 w b t rv sv gv ev∧ev≠.pointer (some ⟨c,0,none⟩):=by
 obtain ⟨rv,sv,gv,ev,h⟩:=h;refine ⟨rv,sv,gv,ev,h,fun e=>?_⟩;have he:=h.es;generalize hst:t.stop=s at he;cases s with
 | none =>
  rw [show ev=.pointer none from he]at e;cases e
 | some a' =>
  obtain ⟨k,v1,v2,g1,g2,g3,g4,g5,g6⟩:=he;rw [g1]at e;simp only [Value.pointer.injEq,Option.some.injEq,Addr.mk.injEq]at e;rw [e.1,hc]at g3;simp only [Option.some.injEq,Obj.cells.injEq]at g3;have e3:=congrArg (fun q=>q[0]?) g3.1;simp [dV,g6]at e3;exact ha e3
structure RdS where
 at_:Int
 e:Int
 deriving DecidableEq
def yR (s:List UInt8) (r:RdS):List Value:=[aE s, .int .i64 r.at_, .int .i64 r.e]
def dF (w:World) (b:Nat) (s:List UInt8) (r:RdS):Prop:=w.heap[b]? = some (.cells (yR s r).toArray 180 (0,0))
def mR (w:World) (b:Nat) (s:List UInt8) (v:Value) (r:RdS) (e:Ending) (w':World):Prop:=e=.returned v∧dF w' b s r∧Mv (some b) w w'
def RdS.want (r:RdS) (is:Bool) (er:Int):RdS:=if r.e=0∧is=false then ⟨r.at_,er⟩else r
theorem gP {r:RdS} (h:dF w b s r) (is:Bool) (er:Int):Calls Tryz.prog 85 #[.pointer (some ⟨b,0,none⟩), .bool is, .int .i64 er] w (mR w b s (.bool (decide ((r.want is er).e=0))) (r.want is er)):=by
 have hp:=aA (cs:=yR s r) h;go_enter Tryz.func85,Tryz.ntmps85
 by_cases c1:r.e=0
 ·cases is with
  | false =>
   have hE:r.want false er=⟨r.at_,er⟩:=by unfold RdS.want;rw [if_pos ⟨c1,rfl⟩]
   refine_lift HO (fun hc=>?_) (fun _ _ hc=>?_)
   all_goals first
    | (exfalso;omega)
    | skip
   refine fA 2 (.int .i64 er) h rfl fun w1 p1=>?_;have h1:dF w1 b s ⟨r.at_,er⟩:=p1.this;have hp1:=aA (cs:=yR s ⟨r.at_,er⟩) h1;clear hp;refine_lift aT ?_;go_ret;rw [hE];exact ⟨rfl,h1,p1.mv⟩
  | true =>
   have hE:r.want true er=r:=by unfold RdS.want;rw [if_neg (by rintro ⟨_,h⟩;cases h)]
   refine_lift lP (fun hc=>?_) (fun hc=>?_)
   all_goals first
    | (exfalso;omega)
    | skip
   go_ret;rw [hE];exact ⟨rfl,h,Mv.refl _ _⟩
 ·have hE:r.want is er=r:=by unfold RdS.want;rw [if_neg (fun h=>c1 h.1)]
  refine_lift jQ fun hc=>?_
  all_goals first
   | (exfalso;omega)
   | skip
  go_ret;rw [hE];exact ⟨rfl,h,Mv.refl _ _⟩
def RdS.take (s:List UInt8) (r:RdS) (n:Int):List UInt8×RdS :=
 if r.e≠0 then ([],r)else if (s.length:Int) - r.at_<n then ([],⟨r.at_,3⟩)else ((s.drop r.at_.toNat).take n.toNat,⟨r.at_+n,0⟩)
structure RdS.Ok (s:List UInt8) (r:RdS):Prop where
 lo:0≤r.at_
 hi:r.e=0→r.at_≤s.length
 far:r.at_≤100000000
theorem RdS.Ok.want {r:RdS} (h:r.Ok s) (is:Bool) {er:Int} (he:er≠0):(r.want is er).Ok s:=by
 unfold RdS.want;split
 ·exact ⟨h.lo,fun e=>absurd e he,h.far⟩
 ·exact h
theorem RdS.Ok.take {r:RdS} (h:r.Ok s) (hs:s.length≤100000000) {n:Int} (hn:0≤n):(r.take s n).2.Ok s:=by
 unfold RdS.take;have:=h.lo;split
 ·exact h
 ·split
  ·exact ⟨h.lo,fun e=>(by cases e),h.far⟩
  ·exact ⟨by dsimp only;omega,fun _=>by dsimp only;omega,by dsimp only;omega⟩
theorem BF {r:RdS} (h:dF w b s r) (hr:r.Ok s) (hs:s.length≤100000000) (n:Int) (h0:0≤n) (h1:n≤100000000):Calls Tryz.prog 143 #[.pointer (some ⟨b,0,none⟩), .int .i64 n] w (mR w b s (aE (r.take s n).1) (r.take s n).2):=by
 have hp:=aA (cs:=yR s r) h;have a0:=hr.lo;have a1:=hr.hi;have a2:=hr.far;go_enter Tryz.func143,Tryz.ntmps143
 refine_lift mH fun _ _ _ _=>?_;refine aO 13 (Ext w) zDk ?_;intro w1 x1 _;refine ⟨x1,?_⟩;refine bE 0 ?_;refine bE 1 ?_;refine bE 2 ?_;refine bE 3 ?_;refine bE 4 ?_;refine bE 5 ?_;refine bE 6 ?_;refine bE 7 ?_;refine bE 8 ?_;refine bE 9 ?_;refine bE 10 ?_;refine bE 11 ?_;refine bE 12 ?_;have hw1:dF w1 b s r:=x1.at h;have hcw:=gP hw1 (decide (n≤(s.length:Int) - r.at_)) 3;by_cases c1:r.e=0∧n≤(s.length:Int) - r.at_
 ·obtain ⟨c1,c2⟩:=c1;have hR:r.take s n=((s.drop r.at_.toNat).take n.toNat,⟨r.at_+n,0⟩):=by unfold RdS.take;rw [if_neg aC,if_neg aC]
  have hW:r.want (decide (n≤(s.length:Int) - r.at_)) 3=r:=by rw [decide_eq_true c2];unfold RdS.want;rw [if_neg (by rintro ⟨_,h⟩;cases h)]
  rw [hW,decide_eq_true c1]at hcw;refine dH 13 ?_;refine eZ hcw fun w2 h2 m2=>?_;refine aD ⟨aN rfl,?_⟩;refine dH 14 ?_
  ((with_reducible refine aS ?_);(first|(refine gV ?_;refine eS ?_)|(refine lY ?_;refine nR ?_;(with_reducible refine aS ?_);refine gV ?_;refine eS ?_)))
  refine aD ⟨aN rfl,?_⟩;refine jP ?_;have hp2:=aA (cs:=yR s r) h2;have m02:=(x1.mv (some b)).trans m2;clear hp;refine_lift bU fun _ _=>?_;refine fA 1 (.int .i64 (r.at_+n)) h2 rfl fun w3 p3=>?_;have h3:dF w3 b s ⟨r.at_+n,r.e⟩:=p3.this;have hp3:=aA (cs:=yR s ⟨r.at_+n,r.e⟩) h3;have m03:=m02.trans p3.mv;clear hp2;have a3:=a1 c1;refine_lift bU fun _ _=>?_;refine dA zDk zDk ?_;refine_lift vO ?_;intro w4 x4;refine_lift aT ?_;go_ret;rw [hR];refine ⟨?_,by rw [← c1];exact x4.at h3,m03.trans (x4.mv _)⟩;have e:List.drop (r.at_+n - n).toNat (List.take (r.at_+n).toNat s)=(s.drop r.at_.toNat).take n.toNat:=by
   rw [show r.at_+n - n=r.at_ by omega,List.drop_take,show (r.at_+n).toNat - r.at_.toNat=n.toNat by omega]
  show Ending.returned (aE _)=_;rw [e]
 ·have hne:(r.want (decide (n≤(s.length:Int) - r.at_)) 3).e≠0:=by
   unfold RdS.want;split
   ·exact fun e=>by cases e
   ·rename_i c;intro e;exact c1 ⟨e,by
     by_cases h9:n≤(s.length:Int) - r.at_
     ·exact h9
     ·exact absurd ⟨e,decide_eq_false h9⟩ c⟩
  have hR:r.take s n=([],r.want (decide (n≤(s.length:Int) - r.at_)) 3):=by
   unfold RdS.take RdS.want;by_cases h8:r.e=0
   ·have h9:¬ n≤(s.length:Int) - r.at_:=fun h=>c1 ⟨h8,h⟩;rw [if_neg aC,if_pos aC,if_pos ⟨h8,decide_eq_false h9⟩]
   ·rw [if_pos h8,if_neg (fun h=>h8 h.1)]
  rw [decide_eq_false hne]at hcw;refine dH 13 ?_;refine eZ hcw fun w2 h2 m2=>?_;refine aD ⟨aN rfl,?_⟩;refine dH 14 ?_
  ((with_reducible refine aS ?_);(first|(refine gV ?_;refine eS ?_)|(refine lY ?_;refine nR ?_;(with_reducible refine aS ?_);refine gV ?_;refine eS ?_)))
  refine aD ⟨aN rfl,?_⟩;refine jP ?_;refine_lift aT ?_;go_ret;rw [hR];exact ⟨rfl,h2,(x1.mv (some b)).trans m2⟩
def FV (l:List UInt8):Nat:=l.foldl (fun n c=>n*256+c.toNat) 0
theorem EI (h:k<l.length):FV (l.take (k+1))=FV (l.take k)*256+l[k].toNat:=by
 rw [FV,List.take_succ_eq_append_getElem h,List.foldl_append];rfl
theorem FW (l:List UInt8):∀ k,k≤l.length→FV (l.take k)<256^k
 | 0,_=>by simp [FV]
 | k+1,h=>by
   rw [EI aC];have:=FW l k aC;have h2:l[k].toNat<256:=UInt8.toNat_lt _;rw [Nat.pow_succ];omega
def RdS.number (s:List UInt8) (r:RdS) (k:Int):Nat×RdS:=(FV (r.take s k).1,(r.take s k).2)
theorem oS (s:List UInt8) (r:RdS) (n:Int):(r.take s n).1.length≤n.toNat:=by
 unfold RdS.take;split
 ·exact Nat.zero_le _
 ·split
  ·exact Nat.zero_le _
  ·rw [List.length_take];omega
theorem dS (s:List UInt8) (r:RdS) (n:Nat) (hn:n≤4):(r.number s n).1<256^n:=by
 unfold RdS.number;have h1:=oS s r n;have h2:=FW (r.take s n).1 (r.take s n).1.length (Nat.le_refl _);rw [List.take_length]at h2;refine Nat.lt_of_lt_of_le h2 (Nat.pow_le_pow_right aC (by simpa using h1))
theorem eJ {r:RdS} (h:dF w b s r) (hr:r.Ok s) (hs:s.length≤100000000) (n:Int) (h0:0≤n) (h1:n≤4):Calls Tryz.prog 84 #[.pointer (some ⟨b,0,none⟩), .int .i64 n] w (mR w b s (.int .i64 ((r.number s n).1:Nat)) (r.number s n).2):=by
 have htl:=oS s r n;have hct:=fun w h=>BF (w:=w) (b:=b) h hr hs n h0 aC;unfold RdS.number;generalize r.take s n=T at *;obtain ⟨l,r'⟩:=T;dsimp only at *;go_enter Tryz.func84,Tryz.ntmps84
 refine_lift mH fun _ _ _ _=>?_;refine eZ (hct w h) fun w1 h1' m1=>?_;refine rP (l:=l) (e:=5) rfl rfl zDk zDk aC ?_;intro v2 w2 x2 o2;refine aB ?_;have hs2:=o2.sl;have h2:dF w2 b s r':=x2.at h1';have hbl:(aL l).length=l.length:=List.length_map ..;have m2:=m1.trans (x2.mv (some b));refine_lift aT ?_;have htl:l.length≤4:=aC;go_loopw [5,7,13] (fun m _ i wr=>∃ k:Nat,k≤l.length∧i=.int .i64 k∧m=.int .i64 (FV (l.take k):Nat)∧Ext w2 wr) (fun _ _ i _=>l.length - (intOf i).toNat)
 case atStart=>exact ⟨0,Nat.zero_le _,rfl,rfl,Ext.refl _⟩
 case round =>
  obtain ⟨k,hk,rfl,rfl,hx⟩:=hrel;have hsx:=hs2.ext hx;by_cases hlt:k<l.length
  ·have hn:=FW l k aC;have hn2:FV (l.take k)*256<4294967296:=by
    have:256^k≤256^3:=Nat.pow_le_pow_right aC aC;omega
   have hb:l[k].toNat<256:=UInt8.toNat_lt _;have hst:=EI hlt;have hpe:=hsx.elem (i:=k) (e:=[.int .u8 (l[k].toNat:Nat)]) (by rw [aL,List.getElem?_map,List.getElem?_eq_getElem hlt];rfl);refine_lift jQ fun _=>?_;exact ⟨⟨k+1,aC,by go_num,by rw [hst],hx⟩,by simp [intOf];omega⟩
  ·have:k=l.length:=aC;subst this;rw [List.take_length];refine_lift jQ fun _=>?_;go_ret;exact ⟨rfl,hx.at h2,m2.trans (hx.mv _)⟩
section
variable {P:Program} {w:World} {a:Act} {d:Option Nat} {ty:TypeId} {ps:String} {af:Array Edge} {g:Option (Nat×Bool)}
theorem Runs.andN {t u:TypeId} {x y:Operand} {m n:Nat} (hx:a.eval x=.int .i64 (m:Nat)) (hy:a.eval y=.int .i64 (n:Nat)) (hm:m<4611686018427387904) (hn:n<4611686018427387904) :
 Runs P (Oper.mk d (.binOp .and t x y u) ty ps af g) a w (.int .i64 ((m &&& n:Nat):Int)):=by
 have hle:m &&& n≤m:=Nat.and_le_left;have e:(BitVec.ofInt 64 (m:Int) &&& BitVec.ofInt 64 (n:Int)).toNat=m &&& n:=by
  rw [BitVec.toNat_and,BitVec.ofInt_natCast,BitVec.ofInt_natCast,BitVec.toNat_ofNat,BitVec.toNat_ofNat,Nat.mod_eq_of_lt aC,Nat.mod_eq_of_lt aC]
 have e2:IntKind.i64.wrap ((m &&& n:Nat):Int)=((m &&& n:Nat):Int):=IntWalk.i64_in _ aC;constructor;have hb:(Op.intBits .and .i64 (m:Nat) (n:Nat))=Sem.pure (.int .i64 ((m &&& n:Nat):Int)):=by
  show Sem.pure (Value.int .i64 (IntKind.i64.wrap ((BitVec.ofInt 64 (m:Int) &&& BitVec.ofInt 64 (n:Int)).toNat:Nat)))=_;rw [e,e2]
 simp only [execOp,hx,hy,eqGuard,binOp,hb,Sem.run_bind,Sem.run_pure,Result.andThen_ok];simp [Sem.run]
theorem Runs.orN {t u:TypeId} {x y:Operand} {m n:Nat} (hx:a.eval x=.int .i64 (m:Nat)) (hy:a.eval y=.int .i64 (n:Nat)) (hm:m<4611686018427387904) (hn:n<4611686018427387904) :
 Runs P (Oper.mk d (.binOp .or t x y u) ty ps af g) a w (.int .i64 ((m ||| n:Nat):Int)):=by
 have hlt:m ||| n<2^62:=Nat.or_lt_two_pow aC aC
 have e:(BitVec.ofInt 64 (m:Int) ||| BitVec.ofInt 64 (n:Int)).toNat=m ||| n:=by
  rw [BitVec.toNat_or,BitVec.ofInt_natCast,BitVec.ofInt_natCast,BitVec.toNat_ofNat,BitVec.toNat_ofNat,Nat.mod_eq_of_lt aC,Nat.mod_eq_of_lt aC]
 have e2:IntKind.i64.wrap ((m ||| n:Nat):Int)=((m ||| n:Nat):Int):=IntWalk.i64_in _ aC;constructor;have hb:(Op.intBits .or .i64 (m:Nat) (n:Nat))=Sem.pure (.int .i64 ((m ||| n:Nat):Int)):=by
  show Sem.pure (Value.int .i64 (IntKind.i64.wrap ((BitVec.ofInt 64 (m:Int) ||| BitVec.ofInt 64 (n:Int)).toNat:Nat)))=_;rw [e,e2]
 simp only [execOp,hx,hy,eqGuard,binOp,hb,Sem.run_bind,Sem.run_pure,Result.andThen_ok];simp [Sem.run]
end
end Go.Proofs.X
