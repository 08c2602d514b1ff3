/- Laws and walks that the proof of the statement is made of (part 7). -/
import Derived.Test.YtfkckeaadnoeiaaGreatP6
set_option linter.unusedSimpArgs false
set_option linter.unusedVariables false
set_option maxRecDepth 100000
set_option maxHeartbeats 20000000
namespace Go.Proofs.X
open Go.RowKit
def yD:List Value:=[.int .i64 0, .slice none 0 0, .slice none 0 0, .slice none 0 0]
def AnsO (B:Nat) (a:AnsR) (y:Value) (w:World):Prop :=
 ∃ u1 u2 u3,y=.agg #[.int .i64 a.kind,u1,u2,u3]∧Own B 4 37 w u1 (aF a.ans)∧Own B 4 37 w u2 (aF a.auth)∧Own B 4 37 w u3 (aF a.extra)
def AnsA (a:AnsR) (y:Value) (w:World):Prop :=
 ∃ u1 u2 u3,y=.agg #[.int .i64 a.kind,u1,u2,u3]∧Sl 4 w u1 (aF a.ans)∧Sl 4 w u2 (aF a.auth)∧Sl 4 w u3 (aF a.extra)
theorem AnsO.a {B:Nat} {a:AnsR} {y:Value} {w:World} (h:AnsO B a y w):AnsA a y w:=let ⟨u1,u2,u3,e,a,b,c⟩:=h;⟨u1,u2,u3,e,a.sl,b.sl,c.sl⟩
theorem AnsA.ext {a:AnsR} {y:Value} {w w':World} (h:AnsA a y w) (hx:Ext w w'):AnsA a y w':=let ⟨u1,u2,u3,e,a,b,c⟩:=h;⟨u1,u2,u3,e,a.ext hx,b.ext hx,c.ext hx⟩
theorem AnsO.zero (B:Nat) (w:World):AnsO B RG (.agg yD.toArray) w:=⟨_,_,_,rfl,Own.nil _ _ _ _,Own.nil _ _ _ _,Own.nil _ _ _ _⟩
theorem XU (o:List UInt8) (v:Value) (l:List RSet) (q:List UInt8) (k:Int) (w:World) (hv:SetsAt w v l) (hb:∀ s∈l,s.data.length≤1000000) :
 Calls Tryz.prog 26 #[.agg #[aE o,v], .agg #[aE q, .int .i64 k]] w (kZ w fun r w'=>∃ y,r=.tuple #[y, .int .i64 (nV o l q)]∧AnsO w.heap.size (gW o l q k) y w'):=by
 go_enter Tryz.func26,Tryz.ntmps26
 refine_lift sF ?_;intro _ _ _;refine mW (vs:=[aE o,v]) fun p w1 x1 hp=>?_;refine aB ?_;refine mW (vs:=[aE q, .int .i64 k]) fun pq w2 x2 hq=>?_;refine aB ?_;refine dX (z:=yD) fun w3 x3 s3 h3=>?_;refine aB ?_;have hx3:=x1.trans (x2.trans x3);have hp3:=hp.ext (x2.trans x3);have hq3:=hq.ext x3;have hv3:=hv.ext hx3;have z2:=(x1.trans x2).size;refine_lift cL ?_
 go_step3
 refine_lift BW fun _ _ _ _=>?_;refine cB (uN o v l _ hv3 hb) fun w4 x4=>?_;have h4:=x4.at h3;have hx4:=hx3.trans x4;have hp4:=hp3.ext x4;have hq4:=hq3.ext x4;have hv4:=hv3.ext x4;have ret0:∀ e:Int,e≠0→nV o l q=e→gW o l q k=RG:=fun e he h=>by rw [gW,if_pos (by rw [h];exact he)]
 (repeat' first|((with_reducible refine aZ ?_);go_step)|((with_reducible refine aS ?_);first|refine dU ?_|(refine bG ?_ ?_<;>intro hc))|fail)
 ·have q1:¬ cW o l=0:=by simpa using (by assumption:(!decide (cW o l=0))=true)
  have hE:nV o l q=cW o l:=by rw [nV,if_pos q1]
  refine cG (v:=.agg yD.toArray) rfl (Runs.build0 (by kernel_rfl)) ?_;refine aB ?_;refine_lift cL ?_;refine dL (v:=.agg yD.toArray) h4 zDk fun w5 p5=>?_;refine_lift cL ?_;rw [Exit.noGoto_ret];refine uC (cs:=yD) p5.this ⟨_,rfl,hx4.move p5.mv (by rintro k ⟨⟩;exact z2),?_⟩;rw [ret0 _ q1 hE,hE];exact ⟨_,rfl,AnsO.zero _ _⟩
 ·have q1:cW o l=0:=by simpa using (by assumption:(!decide (cW o l=0))=false)
  refine cB (PO q _) fun w5 x5=>?_;have h5:=x5.at h4;have hx5:=hx4.trans x5;have hp5:=hp4.ext x5;have hq5:=hq4.ext x5;have hv5:=hv4.ext x5;have hE:nV o l q=eH q:=by rw [nV,if_neg (by simp [q1])]
  have hCE:(if (aM q).isSome=true then (0:Int)else 1)=eH q:=rfl;rw [hCE]
  (repeat' first|((with_reducible refine aZ ?_);go_step)|((with_reducible refine aS ?_);first|refine dU ?_|(refine bG ?_ ?_<;>intro hc))|fail)
  ·have q2:¬ eH q=0:=by simpa using (by assumption:(!decide (eH q=0))=true)
   refine cG (v:=.agg yD.toArray) rfl (Runs.build0 (by kernel_rfl)) ?_;refine aB ?_;refine_lift cL ?_;refine dL (v:=.agg yD.toArray) h5 zDk fun w6 p6=>?_;refine_lift cL ?_;rw [Exit.noGoto_ret];refine uC (cs:=yD) p6.this ⟨_,rfl,hx5.move p6.mv (by rintro k ⟨⟩;exact z2),?_⟩;rw [ret0 _ q2 hE,hE];exact ⟨_,rfl,AnsO.zero _ _⟩
  ·have q2:eH q=0:=by simpa using (by assumption:(!decide (eH q=0))=false)
   have hz:=lT q1;have hl200:=uS hz;have hA:gW o l q k=⟨(fT o l k 9 0 (fold q)).kind,(fT o l k 9 0 (fold q)).ans,(fT o l k 9 0 (fold q)).auth,KO l (gO (fT o l k 9 0 (fold q)))⟩:=by rw [gW,if_neg (by rw [hE];simp [q2])]
   have hlq:(aM (fold q)).isSome=true:=by
    rw [qV];unfold eH at q2;split at q2
    ·assumption
    ·cases q2
   rw [q2]at hE;clear hCE ret0;obtain ⟨va,vn,vc,hvs⟩:∃ a n c,v=.slice a n c:=by obtain ⟨cv,h,_⟩:=hv.sl;exact h.slf
   refine cG (v:=.agg (qZ o v 0 (.slice none 0 0) (.slice none 0 0) (.slice none 0 0)).toArray) rfl (Runs.build (vals:=[(0, .agg #[aE o,v])]) rfl (by rw [hvs];kernel_rfl)) ?_;refine aB ?_;refine jO (vs:=qZ o v 0 (.slice none 0 0) (.slice none 0 0) (.slice none 0 0)) fun w6 x6 s6 b6=>?_;refine aB ?_;have h6:=x6.at h5;have hp6:=hp5.ext x6;have hq6:=hq5.ext x6;refine_lift fN fun _ _=>?_;refine cB (vQ q _) fun w7 x7=>?_;have b7:=x7.at b6;have h7:=x7.at h6;have hx57:=x6.trans x7;refine_lift fN fun _ _=>?_
   go_step3
   refine_lift fN fun _ _=>?_;have hbk:w5.heap.size≤w5.heap.size:=Nat.le_refl _;go_loopw [9,10,11] (fun nv _ cv wr=>∃ (c:Nat) (n:List UInt8) (a:Value) (A:List Rec),nv=aE n∧cv=.int .i64 c∧c≤8∧Ext w5 wr∧wr.heap[w5.heap.size]? = some (.cells (qZ o v 0 a (.slice none 0 0) (.slice none 0 0)).toArray 127 (0,0))∧Own w5.heap.size 4 37 wr a (aF A)∧(aM n).isSome=true∧A.length≤20*c ∧
    (fT o l k 9 0 (fold q)).kind=(fT o l k (9 - c) c n).kind∧(fT o l k 9 0 (fold q)).ans=A++(fT o l k (9 - c) c n).ans∧(fT o l k 9 0 (fold q)).auth=(fT o l k (9 - c) c n).auth) (fun _ _ c _=>9 - (intOf c).toNat)
   case atStart=>exact ⟨0,fold q, .slice none 0 0,[],rfl,rfl,aC,hx57,b7,Own.nil _ _ _ _,hlq,aX,rfl,rfl,rfl⟩
   case round =>
    obtain ⟨c,n,a,A,rfl,rfl,hc,hx,hbr,har,hln,hAl,e1,e2,e3⟩:=hrel;have hqr:=hq5.ext hx;refine_lift Ec ?_;intro _ _ _ _ _;refine gS (ZR w5.heap.size o v l n k c a A w5 _ hx hv5 hz hbk hbr har hln aC) ?_;rintro e w8 ⟨rfl,hx8,a8,u8,b8,oa8,ou8,hn8⟩;refine ⟨_,rfl,?_⟩;refine aB ?_;have e9:9 - c=(8 - c)+1:=aC;have hsl:=IQ (o:=o) hz.chk hl200 n k c;have eu:fT o l k (9 - c) c n=if (cX o l n k c).more=true then
     ⟨(fT o l k (8 - c) (c+1) (cX o l n k c).next).kind,(cX o l n k c).ans++(fT o l k (8 - c) (c+1) (cX o l n k c).next).ans,(fT o l k (8 - c) (c+1) (cX o l n k c).next).auth,[],false⟩
     else cX o l n k c:=by rw [e9,fT]
    rw [eu]at e1 e2 e3;clear eu e9;cases hm:(cX o l n k c).more with
    | true =>
     rw [if_pos hm]at e1 e2 e3;simp only at e1 e2 e3;obtain ⟨m1,m2,m3,m4,m5⟩:=EB hz.chk hm;have hu8:=hn8 hm;rw [m1,hu8]at b8;have hc8:c≠8:=fun e=>m3 (by rw [e];rfl);rw [← List.append_assoc]at e2;refine_lift cL ?_;refine ⟨⟨c+1,_,a8,A++(cX o l n k c).ans,rfl,by go_num,aC,hx8,b8,oa8,m4,by rw [List.length_append];omega,?_,?_,?_⟩,by simp [intOf];omega⟩
     ·rw [e1,show 9 - (c+1)=8 - c by omega];rfl
     ·rw [e2,show 9 - (c+1)=8 - c by omega];rfl
     ·rw [e3,show 9 - (c+1)=8 - c by omega];rfl
    | false =>
     rw [if_neg (by simp [hm])]at e1 e2 e3;have hfrom:=IP (o:=o) hz.chk k 9 0 (fold q);rw [← e2]at oa8;rw [← e3]at ou8;rw [← e1]at b8;have hal:(fT o l k 9 0 (fold q)).ans.length≤4200:=by rw [e2,List.length_append];omega
     have hul:(fT o l k 9 0 (fold q)).auth.length≤20:=by rw [e3];omega
     generalize fT o l k 9 0 (fold q)=R at *;clear e1 e2 e3 hsl;obtain ⟨sp,sp0,sp2⟩:=lU b8;have sa8:=oa8.sl;have h8:w8.heap[w2.heap.size]? = some (.cells yD.toArray 74 (0,0)):=by
      have a1:=(Array.getElem?_eq_some_iff.1 h5).1;exact hx8.at h5
     refine_lift fN fun _ _=>?_;refine aG (Runs.fieldA (off:=2) rfl zDk) ?_;refine aB ?_;refine_lift cL ?_;refine sC (jJ a8 R.ans _ sa8 aC) fun v9 w9 x9 o9=>?_;have su9:=(ou8.ext x9).sl;have hv8:=hv5.ext hx8;have hp8:=hp5.ext hx8;have zq:w2.heap.size≠w5.heap.size:=by
      have a1:=(Array.getElem?_eq_some_iff.1 h5).1;omega
     refine_lift BW fun _ _ _ _=>?_;refine aG (Runs.fieldA (off:=2) rfl zDk) ?_;refine aB ?_;refine_lift PY (fun _ _ _=>?_) (fun _=>?_)
     ·have h3k:=‹R.kind=3›;refine aG (Runs.fieldA (off:=2) rfl zDk) ?_;refine aB ?_;refine_lift cL ?_;refine bV (e:=37) (k:=4) rfl o9 rfl su9 gN x9.size (by rw [aJ,aJ];omega) ?_;intro v10 w10 o10 m10 _;refine aB ?_;have xt:Ext w8 w10:=o9.mvx m10 x9 (Nat.le_refl _);have hrc:aF R.ans++aF R.auth=aF (gO R):=by rw [gO,if_pos h3k];simp [aF]
      rw [hrc]at o10;have ot:=o10.sl;have hfr:∀ r∈gO R,FromL l r:=by
       intro r hr;rw [gO,if_pos h3k]at hr;rcases List.mem_append.1 hr with hr|hr
       ·exact hfrom.1 r hr
       ·exact hfrom.2 h3k r hr
      clear su9;refine_lift fN fun _ _=>?_;have htl:(gO R).length≤10000:=by
       unfold gO;rw [List.length_append];split<;>first|omega|(simp;omega)
      have hdat:∀ r∈gO R,r.data.length≤9223372036854775807:=fun r hr=>by
       obtain ⟨t,ht,hd⟩:=hfr r hr;have:=mO hz t ht _ hd;omega
      refine sC (MH o v _ l (gO R) _ (hv8.ext xt) ot hz htl hdat) fun r11 w11 x11 o11=>?_;have zt:=xt.size;have xx:=xt.trans x11;have b11:=xx.at b8;have h11:=xx.at h8;refine_lift cL ?_;refine aG (Runs.fieldA (off:=2) rfl zDk) ?_;refine aB ?_;refine_lift cL ?_;refine fA 5 _ b11 o11.sl.one fun w12 p12=>?_;have b12:w12.heap[w5.heap.size]? = some (.cells (qZ o v R.kind a8 u8 r11).toArray 127 (0,0)):=p12.this;have h12:=p12.at h11 zq;have oa12:=eM (oa8.ext xx) p12 b11;have ou12:=eM (ou8.ext xx) p12 b11;have or12:=eM o11 p12 b11;obtain ⟨tp,tp0,tp2⟩:=lU b12;clear sp sp0 sp2;refine_lift fN fun _ _=>?_;refine aG (Runs.fieldA (off:=2) rfl zDk) ?_;refine aB ?_;refine_lift cL ?_;refine dL (v:=.agg #[.int .i64 R.kind,a8,u8,r11]) h12 (gE rfl oa12.sl.one ou12.sl.one or12.sl.one) fun w13 p13=>?_;refine_lift cL ?_;rw [Exit.noGoto_ret];have zw:w.heap.size≤w5.heap.size:=hx5.size;have x12:=cJ (hx5.trans (hx8.trans xx)) p12;refine uC (cs:=[.int .i64 R.kind,a8,u8,r11]) p13.this ⟨_,rfl,x12.move p13.mv (by rintro k ⟨⟩;exact z2),?_⟩;rw [hA,hE];refine ⟨_,rfl,a8,u8,r11,rfl,(eM oa12 p13 h12).weaken zw,(eM ou12 p13 h12).weaken zw,(eM or12 p13 h12).weaken ?_⟩;have a1:=hx8.size;omega
     ·have h3k:=‹¬ R.kind=3›;have xt:=x9;have hrc:R.ans=gO R:=by rw [gO,if_neg h3k];simp
      have ot:=o9.sl;rw [hrc]at ot;have hfr:∀ r∈gO R,FromL l r:=by rw [← hrc];exact hfrom.1
      clear su9;have htl:(gO R).length≤10000:=by
       unfold gO;rw [List.length_append];split<;>first|omega|(simp;omega)
      have hdat:∀ r∈gO R,r.data.length≤9223372036854775807:=fun r hr=>by
       obtain ⟨t,ht,hd⟩:=hfr r hr;have:=mO hz t ht _ hd;omega
      refine sC (MH o v _ l (gO R) _ (hv8.ext xt) ot hz htl hdat) fun r11 w11 x11 o11=>?_;have zt:=xt.size;have xx:=xt.trans x11;have b11:=xx.at b8;have h11:=xx.at h8;refine_lift cL ?_;refine aG (Runs.fieldA (off:=2) rfl zDk) ?_;refine aB ?_;refine_lift cL ?_;refine fA 5 _ b11 o11.sl.one fun w12 p12=>?_;have b12:w12.heap[w5.heap.size]? = some (.cells (qZ o v R.kind a8 u8 r11).toArray 127 (0,0)):=p12.this;have h12:=p12.at h11 zq;have oa12:=eM (oa8.ext xx) p12 b11;have ou12:=eM (ou8.ext xx) p12 b11;have or12:=eM o11 p12 b11;obtain ⟨tp,tp0,tp2⟩:=lU b12;clear sp sp0 sp2;refine_lift fN fun _ _=>?_;refine aG (Runs.fieldA (off:=2) rfl zDk) ?_;refine aB ?_;refine_lift cL ?_;refine dL (v:=.agg #[.int .i64 R.kind,a8,u8,r11]) h12 (gE rfl oa12.sl.one ou12.sl.one or12.sl.one) fun w13 p13=>?_;refine_lift cL ?_;rw [Exit.noGoto_ret];have zw:w.heap.size≤w5.heap.size:=hx5.size;have x12:=cJ (hx5.trans (hx8.trans xx)) p12;refine uC (cs:=[.int .i64 R.kind,a8,u8,r11]) p13.this ⟨_,rfl,x12.move p13.mv (by rintro k ⟨⟩;exact z2),?_⟩;rw [hA,hE];refine ⟨_,rfl,a8,u8,r11,rfl,(eM oa12 p13 h12).weaken zw,(eM ou12 p13 h12).weaken zw,(eM or12 p13 h12).weaken ?_⟩;have a1:=hx8.size;omega
structure KL (P:Program) (k:TypeId) (ok:Value→Prop):Prop where
 check:∀ (w:World) (em:Bool) {v:Value},ok v→(Instr.checkKey em 10000 k v).run P w=.ok () w
 find:∀ (w:World) {x:Value},ok x→∀ es:List MapEntry,(∀ e∈es,ok e.key) →
  ((Instr.findKey k x es).run P w=.ok none w∧∀ e∈es,e.key≠x)∨∃ j e,(Instr.findKey k x es).run P w=.ok (some (j,e.val)) w∧es[j]? = some e∧e.key=x
theorem KL.wide {P:Program} {k:TypeId} (h:WideMaps.KeyLaw P k):KL P k (fun v=>∃ l,keyOf P k v=some l) :=
 ⟨fun w em _ ⟨_,hv⟩=>h.check w em hv,fun w _ ⟨_,hx⟩ es hes=>h.find w hx es hes⟩
theorem KL.int {P:Program} {k:TypeId} (h:P.underlying k=some (.int .i64)):KL P k (fun v=>∃ n,v=.int .i64 n):=by
 refine ⟨fun w em v hv=>?_,fun w x hx es hes=>?_⟩
 ·obtain ⟨n,rfl⟩:=hv;exact MapKept.run_checkKey h (d:=.int .i64) (k:=.int .i64 n) rfl em 9999
 ·obtain ⟨n,rfl⟩:=hx;have hks:∀ e∈es,MapKept.IsKey (.int .i64) e.key:=fun e he=>by
   obtain ⟨m,hm⟩:=hes e he;rw [hm];rfl
  rcases MapKept.findNow_spec (d:=.int .i64) (k:=.int .i64 n) rfl es 0 hks with ⟨h1,h2⟩|⟨j,e0,h1,h2,h3⟩
  ·exact .inl ⟨MapKept.run_findKey h h1,h2⟩
  ·exact .inr ⟨j,e0,by simpa using MapKept.run_findKey h h1,h2,h3⟩
structure MapS (ok:Value→Prop) (w:World) (m:Nat) (ents:List (Value×Value)):Prop where
 out:∃ es clock,w.heap[m]? = some (.map es clock)∧es.toList.map (fun e=>(e.key,e.val))=ents∧(∀ e∈es.toList,ok e.key∧e.born<clock)
theorem MapS.at {ok:Value→Prop} {w w':World} {m:Nat} {ents:List (Value×Value)} (h:MapS ok w m ents) (hm:∀ es c,w.heap[m]? = some (.map es c)→w'.heap[m]? = some (.map es c)):MapS ok w' m ents:=by
 obtain ⟨es,c,h1,h2,h3⟩:=h;exact ⟨es,c,hm _ _ h1,h2,h3⟩
theorem MapS.lt {ok:Value→Prop} {w:World} {m:Nat} {ents:List (Value×Value)} (h:MapS ok w m ents):m<w.heap.size:=by
 obtain ⟨es,c,h1,_⟩:=h;exact (Array.getElem?_eq_some_iff.1 h1).1
theorem MapS.ext {ok:Value→Prop} {w w':World} {m:Nat} {ents:List (Value×Value)} (h:MapS ok w m ents) (hx:Ext w w'):MapS ok w' m ents:=h.at fun _ _=>hx.at
theorem MapS.neCells {ok:Value→Prop} {w:World} {m b:Nat} {ents:List (Value×Value)} {cs:Array Value} {t:TypeId} {fz:Nat×Nat} (h:MapS ok w m ents) (hb:w.heap[b]? = some (.cells cs t fz)):m≠b:=by
 rintro rfl;obtain ⟨es,c,h1,_⟩:=h;rw [hb]at h1;cases h1
theorem mA {α β:Type} (f:α→β):∀ (l:List α) (i:Nat),(l.map f).eraseIdx i=(l.eraseIdx i).map f
 | [],_=>rfl
 | _::_,0=>rfl
 | a::l,i+1=>by simp [mA f l i]
section
variable {P:Program} {ok:Value→Prop} {w:World} {kt et t:TypeId} {m:Nat} {ents:List (Value×Value)}
theorem rU (law:KL P kt ok) {es:Array MapEntry} {x:Value} (hx:ok x) (h2:es.toList.map (fun e=>(e.key,e.val))=ents) (h3:∀ e∈es.toList,ok e.key) :
 (∃ (i:Nat) (v:Value),ents[i]? = some (x,v)∧(Instr.findKey kt x es.toList).run P w=.ok (some (i,v)) w)∨((∀ e∈ents,e.1≠x)∧(Instr.findKey kt x es.toList).run P w=.ok none w):=by
 rcases law.find w hx es.toList h3 with ⟨h4,h5⟩|⟨j,e,h4,h5,h6⟩
 ·refine .inr ⟨fun e he=>?_,h4⟩;subst h2;obtain ⟨e',he',rfl⟩:=List.mem_map.1 he;exact h5 e' he'
 ·refine .inl ⟨j,e.val,?_,h4⟩;subst h2;rw [List.getElem?_map,h5,Option.map_some,h6]
theorem xO (law:KL P kt ok) (ht:eI P t kt et=true) {z:Value} (hz:∀ w,(zeroValue et).run P w=.ok z w) (hm:MapS ok w m ents) {x:Value} (hx:ok x) (k:Bool) :
 ∃ v b,(Instr.lookup t (.map (some m)) x k).run P w=.ok (if k then .tuple #[v, .bool b]else v) w∧((∃ i:Nat,ents[i]? = some (x,v)∧b=true)∨((∀ e∈ents,e.1≠x)∧v=z∧b=false)):=by
 obtain ⟨es,c,h1,h2,h3⟩:=hm;have hc:=law.check w es.isEmpty hx;have hu:=gL ht;have hgo:(getObj m).run P w=.ok (.map es c) w:=by simp [getObj,Sem.run,h1]
 rcases rU (w:=w) law hx h2 (fun e he=>(h3 e he).1)with ⟨i,v,hi,hf⟩|⟨hn,hf⟩
 ·refine ⟨v,true,?_, .inl ⟨i,hi,rfl⟩⟩;simp only [Instr.lookup,Sem.run_bind,run_underlying hu,Result.andThen_ok,hgo,Sem.run_pure,hc,hf]
 ·refine ⟨z,false,?_, .inr ⟨hn,rfl,rfl⟩⟩;simp only [Instr.lookup,Sem.run_bind,run_underlying hu,Result.andThen_ok,hgo,Sem.run_pure,hc,hf,hz w]
theorem eU (law:KL P kt ok) (ht:eI P t kt et=true) {z:Value} (hz:∀ w,(zeroValue et).run P w=.ok z w) (hm:MapS ok w m ents) {x v:Value} (hx:ok x) {i:Nat} (hi:ents[i]? = some (x,v)) (hu:ents.Pairwise (fun a b=>a.1≠b.1)) (k:Bool) :
 (Instr.lookup t (.map (some m)) x k).run P w=.ok (if k then .tuple #[v, .bool true]else v) w:=by
 obtain ⟨u,b,hr,hc⟩:=xO law ht hz hm hx k;rw [hr];rcases hc with ⟨j,hj,rfl⟩|⟨hn,_⟩
 ·obtain ⟨h1,h2⟩:=List.getElem?_eq_some_iff.1 hi;obtain ⟨h3,h4⟩:=List.getElem?_eq_some_iff.1 hj;have hij:i=j:=by
   rcases Nat.lt_trichotomy i j with h|h|h
   ·exact absurd (by rw [h2,h4]) (List.pairwise_iff_getElem.1 hu i j h1 h3 h)
   ·exact h
   ·exact absurd (by rw [h2,h4]) (List.pairwise_iff_getElem.1 hu j i h3 h1 h)
  subst hij;rw [hi]at hj;cases hj
  rfl
 ·exact absurd rfl (hn _ (List.mem_of_getElem? hi))
theorem lE (law:KL P kt ok) (ht:eI P t kt et=true) {z:Value} (hz:∀ w,(zeroValue et).run P w=.ok z w) (hm:MapS ok w m ents) {x:Value} (hx:ok x) (hn:∀ e∈ents,e.1≠x) (k:Bool) :
 (Instr.lookup t (.map (some m)) x k).run P w=.ok (if k then .tuple #[z, .bool false]else z) w:=by
 obtain ⟨u,b,hr,hc⟩:=xO law ht hz hm hx k;rw [hr];rcases hc with ⟨j,hj,_⟩|⟨_,rfl,rfl⟩
 ·exact absurd rfl (hn _ (List.mem_of_getElem? hj))
 ·rfl
theorem nK (law:KL P kt ok) (ht:eI P t kt et=true) (hm:MapS ok w m ents) {x v:Value} (hx:ok x) (hn:∀ e∈ents,e.1≠x) :
 ∃ w' o,(Instr.mapUpdate t (.map (some m)) x v).run P w=.ok () w'∧Put w w' m o∧MapS ok w' m (ents ++ [(x,v)]):=by
 obtain ⟨es,c,h1,h2,h3⟩:=hm;have hc:=law.check w false hx;have hu:=gL ht;have hgo:(getObj m).run P w=.ok (.map es c) w:=by simp [getObj,Sem.run,h1]
 rcases rU (w:=w) law hx h2 (fun e he=>(h3 e he).1)with ⟨i,v',hi,hf⟩|⟨_,hf⟩
 ·exact absurd rfl (hn _ (List.mem_of_getElem? hi))
 ·have hso:(setObj m (.map (es.push { key:=x,val:=v,born:=c }) (c+1))).run P w=.ok () (w.putObj m (.map (es.push { key:=x,val:=v,born:=c }) (c+1))):=by
   simp [setObj,Sem.run,h1,World.putObj]
  have hp:=fK (o':=.map (es.push { key:=x,val:=v,born:=c }) (c+1)) h1;refine ⟨_,_,?_,hp,⟨_,_,hp.this,by simp [h2],?_⟩⟩
  ·simp only [Instr.mapUpdate,Sem.run_bind,run_underlying hu,Result.andThen_ok,hgo,hc,hf,hso]
  ·intro e he;simp only [Array.toList_push,List.mem_append,List.mem_singleton]at he;rcases he with he|rfl
   ·exact ⟨(h3 e he).1,Nat.lt_succ_of_lt (h3 e he).2⟩
   ·exact ⟨hx,Nat.lt_succ_self _⟩
theorem IR (law:KL P kt ok) {ty:TypeId} (ht:eI P t kt et=true) (hm:MapS ok w m ents) {x:Value} (hx:ok x) :
 ∃ w' o,(Builtin.delete_ #[t,kt] ty #[.map (some m),x]).run P w=.ok (.tuple #[]) w'∧Put w w' m o∧((∃ i v,ents[i]? = some (x,v)∧MapS ok w' m (ents.eraseIdx i))∨((∀ e∈ents,e.1≠x)∧MapS ok w' m ents)):=by
 obtain ⟨es,c,h1,h2,h3⟩:=hm;have hc:=law.check w es.isEmpty hx;have hu:=gL ht;have hgo:(getObj m).run P w=.ok (.map es c) w:=by simp [getObj,Sem.run,h1]
 have hso:∀ e2,(setObj m (.map e2 c)).run P w=.ok () (w.putObj m (.map e2 c)):=fun e2=>by
  simp [setObj,Sem.run,h1,World.putObj]
 rcases rU (w:=w) law hx h2 (fun e he=>(h3 e he).1)with ⟨i,v',hi,hf⟩|⟨hn,hf⟩
 ·have hp:=fK (o':=.map (es.eraseIdxIfInBounds i) c) h1;have hil:i<es.size:=by
   have:=(List.getElem?_eq_some_iff.1 hi).1;rw [← h2]at this
   simpa using this
  have hsub:(es.eraseIdxIfInBounds i).toList=es.toList.eraseIdx i:=by
   unfold Array.eraseIdxIfInBounds;rw [dif_pos hil];simp
  refine ⟨_,_,?_,hp, .inl ⟨i,v',hi,_,_,hp.this,?_,fun e he=>?_⟩⟩
  ·simp [Builtin.delete_,run_underlying hu,hgo,hc,hf,hso,Result.andThen]
  ·rw [hsub,← h2,mA]
  ·rw [hsub]at he;exact h3 e ((List.eraseIdx_sublist _ _).subset he)
 ·have hp:=fK (o':=.map es c) h1;refine ⟨_,_,?_,hp, .inr ⟨hn,_,_,hp.this,h2,h3⟩⟩;simp [Builtin.delete_,run_underlying hu,hgo,hc,hf,hso,Result.andThen]
structure ItS (k:Nat) (w:World) (it m:Nat) (ents:List (Value×Value)):Prop where
 out:∃ es clock,w.heap[m]? = some (.map es clock)∧es.toList.map (fun e=>(e.key,e.val))=ents∧(∀ e∈es.toList,e.born<clock)∧w.heap[it]? = some (.mapIter (some m) clock ((es.toList.map (·.born)).take k).toArray clock)
theorem ItS.at {k:Nat} {w w':World} {it m:Nat} {ents:List (Value×Value)} (h:ItS k w it m ents) (h1:∀ es c,w.heap[m]? = some (.map es c)→w'.heap[m]? = some (.map es c)) (h2:∀ a b c d,w.heap[it]? = some (.mapIter a b c d)→w'.heap[it]? = some (.mapIter a b c d)):ItS k w' it m ents:=by
 obtain ⟨es,c,g1,g2,g3,g4⟩:=h;exact ⟨es,c,h1 _ _ g1,g2,g3,h2 _ _ _ _ g4⟩
theorem ItS.ext {k:Nat} {w w':World} {it m:Nat} {ents:List (Value×Value)} (h:ItS k w it m ents) (hx:Ext w w'):ItS k w' it m ents:=h.at (fun _ _=>hx.at) (fun _ _ _ _=>hx.at)
theorem KS (ht:eI P t kt et=true) (hm:MapS ok w m ents):∃ w',(Instr.range t (.map (some m))).run P w=.ok (.pointer (some ⟨w.heap.size,0,none⟩)) w'∧Ext w w'∧w'.heap.size=w.heap.size+1∧ItS 0 w' w.heap.size m ents:=by
 obtain ⟨es,c,h1,h2,h3⟩:=hm;have hlt:=(Array.getElem?_eq_some_iff.1 h1).1;exact ⟨_,run_range_map w t kt et m es c (gL ht) h1,Ext.alloc _ _,aX,es,c,by rw [Go.heap_alloc_old w _ hlt];exact h1,h2,fun e he=>(h3 e he).2,by rw [Go.heap_alloc_new];simp⟩
theorem yM {k:Nat} {it:Nat} {x v:Value} (h:ItS k w it m [(x,v)]):∃ e clock,e.key=x∧e.val=v∧e.born<clock∧w.heap[m]? = some (.map #[e] clock)∧w.heap[it]? = some (.mapIter (some m) clock ([e.born].take k).toArray clock):=by
 obtain ⟨es,c,h1,h2,h3,h4⟩:=h;obtain ⟨l,rfl⟩:∃ l:List MapEntry,es=l.toArray:=⟨es.toList,aX⟩
 match l,h2 with
 | [e],h2 =>
  simp at h2;exact ⟨e,c,h2.1,h2.2,h3 e aX,h1,by simpa using h4⟩
theorem CC {it:Nat} (h:ItS 0 w it m []) {ty:TypeId}:(Instr.next (.pointer (some ⟨it,0,none⟩)) false ty).run P w=.ok (.tuple #[.bool false]) w:=by
 obtain ⟨es,c,h1,h2,h3,h4⟩:=h;have:es=#[]:=by simpa using h2
 subst this;simp [Instr.next,getObj,Sem.run,h1,h4,Result.andThen,choose,Question.forced]
theorem FI {it:Nat} {x v:Value} (h:ItS 0 w it m [(x,v)]) (hne:m≠it) {ty:TypeId}:∃ w' o,(Instr.next (.pointer (some ⟨it,0,none⟩)) false ty).run P w=.ok (.tuple #[.bool true,x,v]) w'∧Put w w' it o∧ItS 1 w' it m [(x,v)]:=by
 obtain ⟨e,c,rfl,rfl,hb,h1,h4⟩:=yM h;have hp:=fK (o':=.mapIter (some m) c #[e.born] c) h4;have hlt:=(Array.getElem?_eq_some_iff.1 h4).1;refine ⟨_,_,?_,hp,#[e],c,by rw [hp.other m hne];exact h1,aX,by simpa using hb,by simpa using hp.this⟩;have hnb:¬ c≤e.born:=aC;have hso:(setObj it (.mapIter (some m) c #[e.born] c)).run P w=.ok () (w.putObj it (.mapIter (some m) c #[e.born] c)):=by
  simp [setObj,Sem.run,h4,World.putObj]
 have hgo:(getObj it).run P w=.ok (.mapIter (some m) c #[] c) w:=by simp [getObj,Sem.run,h4]
 have hgm:(getObj m).run P w=.ok (.map #[e] c) w:=by simp [getObj,Sem.run,h1]
 simp [Instr.next,hgo,hgm,hso,Sem.run_bind,Sem.run_pure,Result.andThen,choose,Sem.run,Question.forced,hb,hnb]
theorem FJ {it:Nat} {x v:Value} (h:ItS 1 w it m [(x,v)]) {ty:TypeId}:(Instr.next (.pointer (some ⟨it,0,none⟩)) false ty).run P w=.ok (.tuple #[.bool false]) w:=by
 obtain ⟨e,c,rfl,rfl,hb,h1,h4⟩:=yM h;have hnb:¬ c≤e.born:=aC;simp [Instr.next,getObj,Sem.run,h1,h4,Result.andThen,choose,Question.forced,hb,hnb]
theorem CD {it:Nat} {x v:Value} (h:ItS 1 w it m [(x,v)]):(Instr.entry (.pointer (some ⟨it,0,none⟩))).run P w=.ok (.tuple #[x,v]) w:=by
 obtain ⟨e,c,rfl,rfl,hb,h1,h4⟩:=yM h;simp [Instr.entry,getObj,Sem.run,h1,h4,Result.andThen]
end
section
variable {P:Program} {ops:Array Oper} {Q:Exit→Act→World→Prop} {w:World} {rest:List Oper} {ts:List Value} {df:List Deferred} {ty:TypeId} {ps:String} {af:Array Edge} {g:Option (Nat×Bool)} {d:Nat} {ok:Value→Prop} {kt et t:TypeId} {m:Nat} {ents:List (Value×Value)}
theorem lV (hw:Region.wanted (Oper.mk (some d) (.makeMap t none) ty ps af g) (yielded ops ts.toArray)=true)
 (h:∀ w',Ext w w'→w'.heap.size=w.heap.size+1→MapS ok w' w.heap.size []→wpList P ops Q rest (Act.mk (ts.set d (.map (some w.heap.size))).toArray df) w') :
 wpList P ops Q (Oper.mk (some d) (.makeMap t none) ty ps af g::rest) (Act.mk ts.toArray df) w:=by
 refine nC hw (v:=.map (some w.heap.size)) (w':=w.alloc (.map #[] 0)) ?_ (h _ (Ext.alloc _ _) aX ⟨#[],0,Go.heap_alloc_new w _,rfl,aX⟩);simp [execOp,Instr.makeMap,newObj,Sem.run]
theorem rA {a x:Operand} {v:Value} (law:KL P kt ok) (ha:(Act.mk ts.toArray df).eval a=.map (some m)) (hx:(Act.mk ts.toArray df).eval x=v) (hok:ok v) (hm:MapS ok w m ents)
 (h:∀ w' o,Put w w' m o→((∃ i u,ents[i]? = some (v,u)∧MapS ok w' m (ents.eraseIdx i))∨((∀ e∈ents,e.1≠v)∧MapS ok w' m ents))→wpList P ops Q rest (Act.mk ts.toArray df) w')
 (ht:eI P t kt et=true:=by decide +kernel) (hw:Region.wanted (Oper.mk none (.call ⟨.builtin .delete,#[a,x],#[t,kt]⟩) ty ps af g) (yielded ops ts.toArray)=true:=by rfl) :
 wpList P ops Q (Oper.mk none (.call ⟨.builtin .delete,#[a,x],#[t,kt]⟩) ty ps af g::rest) (Act.mk ts.toArray df) w:=by
 obtain ⟨w',o,hr,hp,hc⟩:=IR law (ty:=ty) ht hm hok;unfold wpList;rw [if_pos hw];refine .inl ?_;unfold Oper.wp;have e:(execOp (Act.mk ts.toArray df).eval (Oper.mk none (.call ⟨.builtin .delete,#[a,x],#[t,kt]⟩) ty ps af g)).run P w=.ok (.value (.tuple #[])) w':=by
  simp [execOp,resolve,invoke,builtin,ha,hx,hr]
 rw [e]
 simpa [Oper.upon,Act.put]using h w' o hp hc
theorem pP {x:Operand} (hx:(Act.mk ts.toArray df).eval x=.map (some m)) (hm:MapS ok w m ents)
 (h:∀ w',Ext w w'→w'.heap.size=w.heap.size+1→ItS 0 w' w.heap.size m ents→wpList P ops Q rest (Act.mk (ts.set d (.pointer (some ⟨w.heap.size,0,none⟩))).toArray df) w')
 (ht:eI P t kt et=true:=by decide +kernel) (hw:Region.wanted (Oper.mk (some d) (.range t x) ty ps af g) (yielded ops ts.toArray)=true:=by rfl) :
 wpList P ops Q (Oper.mk (some d) (.range t x) ty ps af g::rest) (Act.mk ts.toArray df) w:=by
 obtain ⟨w',hr,h1,h2,h3⟩:=KS ht hm;refine nC hw (v:=.pointer (some ⟨w.heap.size,0,none⟩)) (w':=w') ?_ (h w' h1 h2 h3);simp [execOp,hx,hr]
theorem EC {x:Operand} {it:Nat} {k v:Value} (hx:(Act.mk ts.toArray df).eval x=.pointer (some ⟨it,0,none⟩)) (hi:ItS 0 w it m [(k,v)]) (hne:m≠it)
 (h:∀ w' o,Put w w' it o→ItS 1 w' it m [(k,v)]→wpList P ops Q rest (Act.mk (ts.set d (.tuple #[.bool true,k,v])).toArray df) w')
 (hw:Region.wanted (Oper.mk (some d) (.next x false) ty ps af g) (yielded ops ts.toArray)=true:=by rfl) :
 wpList P ops Q (Oper.mk (some d) (.next x false) ty ps af g::rest) (Act.mk ts.toArray df) w:=by
 obtain ⟨w',o,hr,h1,h2⟩:=FI (P:=P) hi hne (ty:=ty);refine nC hw (w':=w') ?_ (h w' o h1 h2);simp [execOp,hx,hr]
theorem Runs.next0 {o:Option Nat} {x:Operand} {it:Nat} (hx:(Act.mk ts.toArray df).eval x=.pointer (some ⟨it,0,none⟩)) (hi:ItS 0 w it m []):Runs P (Oper.mk o (.next x false) ty ps af g) (Act.mk ts.toArray df) w (.tuple #[.bool false]):=by
 constructor;simp [execOp,hx,CC hi]
theorem Runs.next2 {o:Option Nat} {x:Operand} {it:Nat} {k v:Value} (hx:(Act.mk ts.toArray df).eval x=.pointer (some ⟨it,0,none⟩)) (hi:ItS 1 w it m [(k,v)]):Runs P (Oper.mk o (.next x false) ty ps af g) (Act.mk ts.toArray df) w (.tuple #[.bool false]):=by
 constructor;simp [execOp,hx,FJ hi]
theorem Runs.entry1 {o:Option Nat} {x:Operand} {it:Nat} {k v:Value} (hx:(Act.mk ts.toArray df).eval x=.pointer (some ⟨it,0,none⟩)) (hi:ItS 1 w it m [(k,v)]):Runs P (Oper.mk o (.entry x) ty ps af g) (Act.mk ts.toArray df) w (.tuple #[k,v]):=by
 constructor;simp [execOp,hx,CD hi]
theorem Runs.lenM {o:Option Nat} {x:Operand} (hx:(Act.mk ts.toArray df).eval x=.map (some m)) (hm:MapS ok w m ents) (ht:eI P t kt et=true):Runs P (Oper.mk o (.call ⟨.builtin .len,#[x],#[t]⟩) ty ps af g) (Act.mk ts.toArray df) w (.int .i64 (ents.length:Nat)):=by
 obtain ⟨es,c,h1,h2,h3⟩:=hm;have hgo:(getObj m).run P w=.ok (.map es c) w:=by simp [getObj,Sem.run,h1]
 have hl:ents.length=es.size:=by rw [← h2];simp
 constructor;simp [execOp,resolve,invoke,builtin,hx,Builtin.len_,run_underlying (gL ht),hgo,goInt,hl]
end
structure Kf (T:List TypeId) (M:List Nat) (w w':World):Prop where
 cells:∀ (c:Nat) (cs:Array Value) (t:TypeId) (fz:Nat×Nat),w.heap[c]? = some (.cells cs t fz)→t∉T→w'.heap[c]? = some (.cells cs t fz)
 maps:∀ (c:Nat) (es:Array MapEntry) (k:Nat),w.heap[c]? = some (.map es k)→c∉M→w'.heap[c]? = some (.map es k)
theorem Kf.of {T:List TypeId} {M:List Nat} {w w':World} (h:Ext w w'):Kf T M w w':=⟨fun _ _ _ _ a _=>h.at a,fun _ _ _ a _=>h.at a⟩
theorem Kf.trans {T:List TypeId} {M:List Nat} {a b c:World} (h:Kf T M a b) (k:Kf T M b c):Kf T M a c :=
 ⟨fun i cs t fz x y=>k.cells i cs t fz (h.cells i cs t fz x y) y,fun i es n x y=>k.maps i es n (h.maps i es n x y) y⟩
theorem Kf.mono {T T':List TypeId} {M M':List Nat} {w w':World} (h:Kf T M w w') (h1:∀ t∈T,t∈T') (h2:∀ m∈M,m∈M'):Kf T' M' w w' :=
 ⟨fun i cs t fz x y=>h.cells i cs t fz x (fun z=>y (h1 _ z)),fun i es n x y=>h.maps i es n x (fun z=>y (h2 _ z))⟩
theorem Kf.keep {T:List TypeId} {M:List Nat} {w w':World} (h:Kf T M w w'):Keep T w w':=h.cells
theorem Kf.put {T:List TypeId} {M:List Nat} {w w':World} {b t:Nat} {cs:Array Value} {fz:Nat×Nat} {o:Obj} (hp:Put w w' b o) (hb:w.heap[b]? = some (.cells cs t fz)) (ht:t∈T):Kf T M w w':=by
 refine ⟨fun i ds u fy x y=>hp.mv.at x ?_,fun i es n x _=>hp.mv.at x ?_⟩
 ·rintro ⟨⟩;rw [hb]at x;cases x
  exact y ht
 ·rintro ⟨⟩;rw [hb]at x;cases x
theorem Kf.putMap {T:List TypeId} {M:List Nat} {w w':World} {m:Nat} {o:Obj} {ok:Value→Prop} {ents:List (Value×Value)} (hp:Put w w' m o) (hb:MapS ok w m ents) (hm:m∈M):Kf T M w w':=by
 obtain ⟨es0,c0,h1,_⟩:=hb;refine ⟨fun i ds u fy x y=>hp.mv.at x ?_,fun i es n x y=>hp.mv.at x ?_⟩
 ·rintro ⟨⟩;rw [h1]at x;cases x
 ·rintro ⟨⟩;exact y hm
theorem Kf.row {T:List TypeId} {M:List Nat} {w w':World} {B k e:Nat} {v:Value} {es:List (List Value)} (ho:Own B k e w v es) (h:Mv v.ownBlock w w') (he:e∈T):Kf T M w w':=by
 refine ⟨fun i cs t fz x y=>h.at x fun e'=>?_,fun i ms n x _=>h.at x fun e'=>?_⟩
 ·obtain ⟨cur,fz',h'⟩:=ho.type e'.symm;rw [x]at h';cases h'
  exact y he
 ·obtain ⟨cur,fz',h'⟩:=ho.type e'.symm;rw [x]at h';cases h'
theorem MapS.keep {T:List TypeId} {M:List Nat} {ok:Value→Prop} {w w':World} {m:Nat} {ents:List (Value×Value)} (h:MapS ok w m ents) (hk:Kf T M w w') (hm:m∉M):MapS ok w' m ents:=h.at fun es c x=>hk.maps m es c x hm
structure Lo (B:Nat) (w w':World):Prop where
 os:w'.os=w.os
 tape:w'.tape=w.tape
 output:w'.output=w.output
 size:w.heap.size≤w'.heap.size
 block:∀ j,j<w.heap.size→j<B→w'.heap[j]? = w.heap[j]?
 drawn:w.drawn≤w'.drawn
theorem Lo.of {B:Nat} {w w':World} (h:Ext w w'):Lo B w w':=⟨h.os,h.tape,h.output,h.size,fun j hj _=>h.block j hj,h.drawn⟩
theorem Lo.trans {B:Nat} {a b c:World} (h:Lo B a b) (k:Lo B b c):Lo B a c :=
 ⟨k.os.trans h.os,k.tape.trans h.tape,k.output.trans h.output,Nat.le_trans h.size k.size,fun j hj hb=>(k.block j (Nat.lt_of_lt_of_le hj h.size) hb).trans (h.block j hj hb),Nat.le_trans h.drawn k.drawn⟩
theorem Lo.mv {B:Nat} {w w':World} {row:Option Nat} (h:Mv row w w') (hr:∀ k,row=some k→B≤k):Lo B w w' :=
 ⟨h.os,h.tape,h.output,h.size,fun j hj hb=>h.block j hj (by intro e;have:=hr j e.symm;omega),h.drawn⟩
theorem Lo.put {B b:Nat} {w w':World} {o:Obj} (h:Put w w' b o) (hb:B≤b):Lo B w w':=Lo.mv h.mv (by rintro k ⟨⟩;exact hb)
theorem Lo.ext {B:Nat} {w0 w w':World} (h:Lo B w w') (hx:Ext w0 w) (hB:w0.heap.size≤B):Ext w0 w' :=
 ⟨h.os.trans hx.os,h.tape.trans hx.tape,h.output.trans hx.output,Nat.le_trans hx.size h.size,fun j hj=>(h.block j (Nat.lt_of_lt_of_le hj hx.size) aC).trans (hx.block j hj),Nat.le_trans hx.drawn h.drawn⟩
theorem Lo.mono {B C:Nat} {w w':World} (h:Lo B w w') (hc:C≤B):Lo C w w':=⟨h.os,h.tape,h.output,h.size,fun j hj hb=>h.block j hj aC,h.drawn⟩
variable {cs:Array Value} {held:Bool} {qt:Int} {ps rs:List (List UInt8×Nat)} {ls:List (List UInt8)} {css css0 es:List (List Value)} {d l m n o qn s t x y z:List UInt8} {B a b base c e fuel i j k p q:Nat} {fz:Nat×Nat} {row:Option Nat} {r u v:Value} {w w' w0 w1 w2:World}
def AppU (B:Nat) (o:List UInt8) (l:List RSet) (d:DeltaR) (q:Value) (w:World):Prop:=∃ y,q=.tuple #[.agg #[aE (II o l d),y], .int .i64 (tC o l d)]∧SetsO B w y (KN o l d)
theorem AppU.bad {l:List RSet} {d:DeltaR} {e:Int} (h:tC o l d=e) (he:e≠0):AppU B o l d (.tuple #[.agg iQ.toArray, .int .i64 e]) w:=by
 refine ⟨.slice none 0 0,?_,?_⟩
 ·rw [II,if_neg (by rw [h];exact he),h];rfl
 ·rw [KN,if_neg (by rw [h];exact he)];exact SetsO.nil _ _
def AW (r:Rec):Bool:=decide (r.kind=6)
def gX (d:List UInt8):SoaR:=match dK d with|some s=>s|none=>zR
def RR (r:Rec):Int:=(gX r.data).serial
def yN:List Rec→Nat
 | []=>0
 | r::t=>if AW r then 0 else yN t+1
theorem AX:∀ l:List Rec,yN l≤l.length
 | []=>Nat.le_refl _
 | r::t=>by
   rw [yN];split
   ·omega
   ·have:=AX t;rw [List.length_cons];omega
def bY (l:List Rec):Nat:=1+yN (l.drop 1)
theorem oQ {l:List Rec} (h:l≠[]):1≤bY l∧bY l≤l.length:=by
 have:=AX (l.drop 1);cases l with
 | nil=>exact absurd rfl h
 | cons r t =>
  unfold bY;simp only [List.drop_succ_cons,List.drop_zero,List.length_cons]at *;omega
def FK:Rec:=⟨[],0,0,[]⟩
def vX (l:List Rec):Rec:=l.headD FK
def mP (gone come:List Rec):DeltaR:=⟨RR (vX gone),RR (vX come),gone,come⟩
structure ZE where
 e:Int
 o:List UInt8
 l:List RSet
def ZE.bad (e:Int):ZE:=⟨e,[],[]⟩
def VK:Nat→List UInt8→List RSet→List Rec→ZE
 | 0,o,l,_=>⟨0,o,l⟩
 | f+1,o,l,rs =>
  if rs=[]then ⟨0,o,l⟩ else
  let gone:=rs.take (bY rs)
  let rest:=rs.drop (bY rs)
  if rest=[]then ZE.bad 2 else
  let come:=rest.take (bY rest)
  if tC o l (mP gone come)=0 then VK f (II o l (mP gone come)) (KN o l (mP gone come)) (rest.drop (bY rest))
  else ZE.bad (if tC o l (mP gone come)=5 then 2 else tC o l (mP gone come))
def CE (o:List UInt8) (l:List RSet) (rs:List Rec):ZE:=VK rs.length o l rs
theorem AY (f:Nat) (o:List UInt8) (l:List RSet) {rs:List Rec} (h:rs≠[]):VK (f+1) o l rs =
 if rs.drop (bY rs)=[]then ZE.bad 2 else
 if tC o l (mP (rs.take (bY rs)) ((rs.drop (bY rs)).take (bY (rs.drop (bY rs)))))=0 then
  VK f (II o l (mP (rs.take (bY rs)) ((rs.drop (bY rs)).take (bY (rs.drop (bY rs)))))) (KN o l (mP (rs.take (bY rs)) ((rs.drop (bY rs)).take (bY (rs.drop (bY rs)))))) ((rs.drop (bY rs)).drop (bY (rs.drop (bY rs))))
 else ZE.bad (if tC o l (mP (rs.take (bY rs)) ((rs.drop (bY rs)).take (bY (rs.drop (bY rs)))))=5 then 2 else tC o l (mP (rs.take (bY rs)) ((rs.drop (bY rs)).take (bY (rs.drop (bY rs)))))):=by
 rw [VK,if_neg h]
theorem MI:∀ (f:Nat) (o:List UInt8) (l:List RSet),VK f o l []=⟨0,o,l⟩
 | 0,o,l=>rfl
 | f+1,o,l=>by rw [VK,if_pos rfl]
theorem IS:∀ (n f g:Nat) (o:List UInt8) (l:List RSet) (rs:List Rec),rs.length≤n→rs.length≤f→rs.length≤g→VK f o l rs=VK g o l rs
 | n,f,g,o,l,[],_,_,_=>by rw [MI,MI]
 | 0,f,g,o,l,r::t,h,_,_=>by simp at h
 | n+1,0,g,o,l,r::t,_,h,_=>by simp at h
 | n+1,f+1,0,o,l,r::t,_,_,h=>by simp at h
 | n+1,f+1,g+1,o,l,r::t,hn,hf,hg=>by
   have h1:=oQ (l:=r::t) aX;rw [AY f o l aX,AY g o l aX];by_cases hr:(r::t).drop (bY (r::t))=[]
   ·rw [if_pos hr,if_pos hr]
   ·rw [if_neg hr,if_neg hr];have h2:=oQ hr;have h3:(((r::t).drop (bY (r::t))).drop (bY ((r::t).drop (bY (r::t))))).length≤t.length:=by
     have e1:((r::t).drop (bY (r::t))).length=(r::t).length - bY (r::t):=List.length_drop ..;rw [List.length_drop,e1];simp only [List.length_cons]at h1 ⊢;omega
    simp only [List.length_cons]at hn hf hg;rw [IS n f g _ _ _ aC aC aC]
theorem RS (o:List UInt8) (l:List RSet):CE o l []=⟨0,o,l⟩:=rfl
theorem OG (o:List UInt8) (l:List RSet) {rs:List Rec} (h:rs≠[]):CE o l rs =
 if rs.drop (bY rs)=[]then ZE.bad 2 else
 if tC o l (mP (rs.take (bY rs)) ((rs.drop (bY rs)).take (bY (rs.drop (bY rs)))))=0 then
  CE (II o l (mP (rs.take (bY rs)) ((rs.drop (bY rs)).take (bY (rs.drop (bY rs)))))) (KN o l (mP (rs.take (bY rs)) ((rs.drop (bY rs)).take (bY (rs.drop (bY rs)))))) ((rs.drop (bY rs)).drop (bY (rs.drop (bY rs))))
 else ZE.bad (if tC o l (mP (rs.take (bY rs)) ((rs.drop (bY rs)).take (bY (rs.drop (bY rs)))))=5 then 2 else tC o l (mP (rs.take (bY rs)) ((rs.drop (bY rs)).take (bY (rs.drop (bY rs)))))):=by
 cases rs with
 | nil=>exact absurd rfl h
 | cons r t =>
  have h1:=oQ (l:=r::t) aX
  conv=>lhs;unfold CE
  rw [List.length_cons,AY _ _ _ h];by_cases hr:(r::t).drop (bY (r::t))=[]
  ·rw [if_pos hr,if_pos hr]
  ·rw [if_neg hr,if_neg hr];have h2:=oQ hr;have h3:(((r::t).drop (bY (r::t))).drop (bY ((r::t).drop (bY (r::t))))).length≤t.length:=by
    have e1:((r::t).drop (bY (r::t))).length=(r::t).length - bY (r::t):=List.length_drop ..;rw [List.length_drop,e1];simp only [List.length_cons]at h1 ⊢;omega
   unfold CE;rw [IS _ _ _ _ _ _ (Nat.le_refl _) h3 (Nat.le_refl _)]
def xP (oo:List UInt8) (lo:List RSet) (og:List UInt8) (l:List Rec):ZE :=
 if AW (l.getD 1 FK)=false then ⟨jT og l.dropLast,gC og l.dropLast,pX og l.dropLast⟩ else
 if lo=[]then ZE.bad 5 else CE oo lo (l.dropLast.drop 1)
def xQ (oo:List UInt8) (lo:List RSet) (og:List UInt8) (l:List Rec):ZE :=
 if eH og≠0∨l.any (fun r => !decide (bI r=0))=true then ZE.bad 1 else
 if l=[]then ZE.bad 2 else
 if AW (vX l)=false∨fold (vX l).name≠fold og then ZE.bad 2 else
 if l.length=1 then ZE.bad 5 else
 if l.length=2∨l.getD (l.length - 1) FK≠vX l then ZE.bad 3 else
 let q:=xP oo lo og l
 if q.e≠0 then ZE.bad q.e else
 if (fO q.o q.l).serial≠RR (vX l)then ZE.bad 2 else
 if lo≠[]∧tD (fO q.o q.l).serial (fO oo lo).serial=false then ZE.bad 7 else q
theorem ED {l:List Rec} (h:jT o l=0):ZoneOk (gC o l) (pX o l):=by
 have h0:=h;unfold jT at h;split at h
 ·rw [gC,if_pos h0,pX,if_pos h0];exact lT h
 ·rename_i q;exact absurd h q
theorem AZ {l:List Rec} (h:jT o l=0):gC o l=fold o:=by rw [gC,if_pos h]
theorem RT {l:List RSet} {d:DeltaR} (h:tC o l d=0):ZoneOk (II o l d) (KN o l d)∧II o l d=o:=by
 have h0:=h;unfold tC at h;split at h
 ·rename_i q0;split at h
  ·cases hx:MG (bD l) d with
   | none=>rw [hx]at h;cases h
   | some m =>
    rw [hx]at h;simp only at h;unfold Cq at h;split at h
    ·rename_i q1;have hz:=ED q1;rw [II,if_pos h0,KN,if_pos h0,hx];simp only [Option.getD_some];refine ⟨hz,?_⟩;rw [AZ q1];exact (lT q0).fold
    ·rename_i q1;exact absurd h q1
  ·cases h
 ·rename_i q;exact absurd h q
theorem IT:∀ (n:Nat) (rs:List Rec),rs.length≤n→∀ (o:List UInt8) (l:List RSet),(CE o l rs).e=0→rs≠[]→ZoneOk (CE o l rs).o (CE o l rs).l∧(CE o l rs).o=o
 | 0,rs,hn,o,l,h,hne=>by
   have:rs=[]:=List.eq_nil_of_length_eq_zero aC;exact absurd this hne
 | n+1,rs,hn,o,l,h,hne=>by
   have h1:=oQ hne;rw [OG o l hne]at h ⊢;split at h
   ·cases h
   ·rename_i hr;have h2:=oQ hr;rw [if_neg hr];split at h
    ·rename_i ha;rw [if_pos ha];obtain ⟨z1,z2⟩:=RT ha;by_cases hq:(rs.drop (bY rs)).drop (bY (rs.drop (bY rs)))=[]
     ·rw [hq,RS];exact ⟨z1,z2⟩
     ·obtain ⟨a,b⟩:=IT n _ (by simp only [List.length_drop]at *;omega) _ _ h hq;exact ⟨a,b.trans z2⟩
    ·rename_i ha;split at h
     ·cases h
     ·exact absurd h ha
theorem VL {oo:List UInt8} {lo:List RSet} {og:List UInt8} {l:List Rec} (h:(xQ oo lo og l).e=0) :
 ZoneOk (xQ oo lo og l).o (xQ oo lo og l).l∧((lo=[]∨oo=fold og)→(xQ oo lo og l).o=fold og)∧(lo≠[]→tD (fO (xQ oo lo og l).o (xQ oo lo og l).l).serial (fO oo lo).serial=true):=by
 unfold xQ at h ⊢;split at h
 ·cases h
 ·rename_i c1;rw [if_neg c1];split at h
  ·cases h
  ·rename_i c2;rw [if_neg c2];split at h
   ·cases h
   ·rename_i c3;rw [if_neg c3];split at h
    ·cases h
    ·rename_i c4;rw [if_neg c4];split at h
     ·cases h
     ·rename_i c5;rw [if_neg c5];simp only at h ⊢;split at h
      ·rename_i c6;exact absurd h c6
      ·rename_i c6;rw [if_neg c6];split at h
       ·cases h
       ·rename_i c7;rw [if_neg c7];split at h
        ·cases h
        ·rename_i c8;rw [if_neg c8];have hz:ZoneOk (xP oo lo og l).o (xP oo lo og l).l∧((lo=[]∨oo=fold og)→(xP oo lo og l).o=fold og):=by
          have h6:(xP oo lo og l).e=0:=by simpa using c6
          unfold xP at h6 ⊢;split at h6
          ·rename_i d1;rw [if_pos d1];exact ⟨ED h6,fun _=>AZ h6⟩
          ·rename_i d1;rw [if_neg d1];split at h6
           ·cases h6
           ·rename_i d2;rw [if_neg d2];have hl:2<l.length:=by
             have n0:l.length≠0:=fun e=>c2 (List.eq_nil_of_length_eq_zero e);have n2:l.length≠2:=fun e=>c5 (.inl e);omega
            obtain ⟨a,b⟩:=IT _ _ (Nat.le_refl _) oo lo h6 (by
             intro e;have:=congrArg List.length e;simp at this;omega)
            exact ⟨a,fun hh=>by rcases hh with hh|hh;exact absurd hh d2;exact b.trans hh⟩
         refine ⟨hz.1,hz.2,fun hne=>?_⟩;cases hb:tD (fO (xP oo lo og l).o (xP oo lo og l).l).serial (fO oo lo).serial with
         | true=>rfl
         | false=>exact absurd ⟨hne,hb⟩ c8
end Go.Proofs.X
namespace Go.Proofs.X
open Go.RowKit
structure SecR where
 og:List UInt8
 retry:Int
 z:Option (List UInt8×List RSet)
 next:Int
 til:Int
 take:Bool
def SecR.soa (s:SecR):SoaR:=match s.z with|none=>⟨[],[],0,s.retry,s.retry,0,0⟩|some z=>fO z.1 z.2
def SecR.o (s:SecR):List UInt8:=match s.z with|none=>[]|some z=>z.1
def SecR.l (s:SecR):List RSet:=match s.z with|none=>[]|some z=>z.2
def FL (n:Int):Bool:=decide (0≤n)&&decide (n≤1099511627776)
def SecR.news (s:SecR) (n:Int):Bool:=s.z.isNone||tD n s.soa.serial
def SecR.failed (s:SecR) (now:Int):SecR:=if FL now=true then { s with take:=false,next:=now+s.soa.retry } else s
def SecR.fresh (s:SecR) (now:Int):SecR:={ s with take:=false,next:=now+s.soa.refresh,til:=now+s.soa.expire }
def SecR.heard (s:SecR) (n now:Int):SecR :=
 if FL now=false then s else if RH n=false then s.failed now else if s.news n=true then { s with take:=true,next:=now+s.soa.retry } else s.fresh now
def SecR.inst (s:SecR) (l:List Rec):ZE:=xQ s.o s.l s.og l
def SecR.withZ (s:SecR) (q:ZE):SecR:={ s with z:=some (q.o,q.l) }
def SecR.got (s:SecR) (l:List Rec) (now:Int):SecR :=
 if FL now=false then s else
 if (s.inst l).e=5∧s.z.isSome=true then s.fresh now else
 if (s.inst l).e≠0 then s.failed now else (s.withZ (s.inst l)).fresh now
def SecR.up (s:SecR) (now:Int):Bool:=FL now&&(s.z.isSome&&decide (now<s.til))
def Cu (og:List UInt8) (retry:Int):Int:=if eH og≠0∨retry<1∨2147483647<retry then 1 else 0
def FM (og:List UInt8) (retry:Int):SecR:=⟨og,retry,none,0,0,false⟩
structure SecOk (s:SecR):Prop where
 og:eH s.og=0
 retry:1≤s.retry∧s.retry≤2147483647
 zone:∀ o l,s.z=some (o,l)→ZoneOk o l∧o=fold s.og
theorem VM {o:List UInt8} {l:List RSet} (h:ZoneOk o l):(fO o l).ok=true:=by
 obtain ⟨s,_,_,_,_,_,hp,_⟩:=h.soaSet;rw [fO,if_pos (qQ h)];exact RD hp
theorem OH {o:List UInt8} {l:List RSet} (h:ZoneOk o l):0≤(fO o l).serial∧(fO o l).serial≤4294967295∧0≤(fO o l).refresh∧(fO o l).refresh≤2147483647∧0≤(fO o l).retry∧(fO o l).retry≤2147483647∧0≤(fO o l).expire∧(fO o l).expire≤2147483647:=by
 have:=VM h;simp only [SoaR.ok,lK,Bool.and_eq_true,decide_eq_true_eq]at this;omega
theorem ZoneOk.ne {o:List UInt8} {l:List RSet} (h:ZoneOk o l):l≠[]:=by
 rintro rfl;have:=h.soa;simp [cK]at this
theorem SecOk.soa {s:SecR} (h:SecOk s):0≤s.soa.refresh∧s.soa.refresh≤2147483647∧0≤s.soa.retry∧s.soa.retry≤2147483647∧0≤s.soa.expire∧s.soa.expire≤2147483647:=by
 have hr:=h.retry;unfold SecR.soa;split
 ·simp only;omega
 ·rename_i z hz;have:=OH (h.zone z.1 z.2 hz).1;omega
theorem SecOk.old {s:SecR} (h:SecOk s):(s.l=[]↔s.z=none)∧(s.l=[]∨s.o=fold s.og):=by
 unfold SecR.l SecR.o;split
 ·rename_i hz;simp [hz]
 ·rename_i z hz;have:=h.zone z.1 z.2 hz;refine ⟨⟨fun e=>absurd e this.1.ne,fun e=>by rw [hz]at e;cases e⟩, .inr this.2⟩
theorem SecOk.of {s t:SecR} (h:SecOk s) (h1:t.og=s.og) (h2:t.retry=s.retry) (h3:t.z=s.z):SecOk t:=⟨by rw [h1];exact h.og,by rw [h2];exact h.retry,by rw [h1,h3];exact h.zone⟩
theorem SecOk.new {og:List UInt8} {retry:Int} (h:Cu og retry=0):SecOk (FM og retry):=by
 unfold Cu at h;split at h
 ·cases h
 ·rename_i c;refine ⟨?_,?_,?_⟩
  ·unfold FM;simp only;exact Decidable.byContradiction fun e=>c (.inl e)
  ·unfold FM;simp only;omega
  ·intro o l e;cases e
theorem SecOk.failed {s:SecR} (h:SecOk s) (now:Int):SecOk (s.failed now):=by
 unfold SecR.failed;split<;>first|exact h|exact h.of rfl rfl rfl
theorem SecOk.fresh {s:SecR} (h:SecOk s) (now:Int):SecOk (s.fresh now):=h.of rfl rfl rfl
theorem SecOk.heard {s:SecR} (h:SecOk s) (n now:Int):SecOk (s.heard n now):=by
 unfold SecR.heard;split
 ·exact h
 ·split
  ·exact h.failed now
  ·split
   ·exact h.of rfl rfl rfl
   ·exact h.fresh now
theorem SecOk.inst {s:SecR} (h:SecOk s) {l:List Rec} (he:(s.inst l).e=0):ZoneOk (s.inst l).o (s.inst l).l∧(s.inst l).o=fold s.og∧(∀ o l',s.z=some (o,l')→tD (fO (s.inst l).o (s.inst l).l).serial (fO o l').serial=true):=by
 obtain ⟨a,b,c⟩:=VL (oo:=s.o) (lo:=s.l) (og:=s.og) he;obtain ⟨h1,h2⟩:=h.old;refine ⟨a,b h2,fun o l' hz=>?_⟩;have:=c (fun e=>by rw [h1.1 e]at hz;cases hz);unfold SecR.o SecR.l at this;rw [hz]at this;unfold SecR.inst SecR.o SecR.l;rw [hz];exact this
theorem SecOk.got {s:SecR} (h:SecOk s) (l:List Rec) (now:Int):SecOk (s.got l now):=by
 unfold SecR.got;split
 ·exact h
 ·split
  ·exact h.fresh now
  ·split
   ·exact h.failed now
   ·rename_i c;obtain ⟨a,b,_⟩:=h.inst (l:=l) (by simpa using c);refine SecOk.fresh (s:=s.withZ (s.inst l)) ⟨h.og,h.retry,?_⟩ now;intro o l' e;simp only [SecR.withZ,Option.some.injEq,Prod.mk.injEq]at e;obtain ⟨rfl,rfl⟩:=e;exact ⟨a,b⟩
variable {cs:Array Value} {held:Bool} {qt:Int} {ps rs:List (List UInt8×Nat)} {ls:List (List UInt8)} {css css0 es:List (List Value)} {d l m n o qn s t x y z:List UInt8} {B a b base c e fuel i j k p q:Nat} {fz:Nat×Nat} {row:Option Nat} {r u v:Value} {w w' w0 w1 w2:World}
theorem SetsO.mvb {l:List RSet} (h:SetsO B w v l) (hm:Mv (some b) w w') (hb:b<B):SetsO B w' v l:=by
 obtain ⟨css,h1,h2,h3,h4⟩:=h;have hs:∀ (k:Nat) (u:Value) (es:List (List Value)),Sl k w u es→From B u→Sl k w' u es:=by
  intro k u es hsl hf;obtain ⟨a,cap,k1,k2,k3,k4,k5,k6⟩:=hsl;refine ⟨a,cap,k1,k2,k3,k4,k5,fun hn=>?_⟩;obtain ⟨g,o,e,hc⟩:=k6 hn;have hg:B≤g:=hf g o none _ _ (by rw [k1,e]);refine ⟨g,o,e,fun i e j x i1 i2=>?_⟩;have hcell:=hc i e j x i1 i2;have hlt:=World.block_lt_of_cell? w _ hcell;exact (World.cell?_of_block (hm.block g hlt (fun e=>by have:=Option.some.inj e;omega))).trans hcell
 refine ⟨css,hs _ _ _ h1 h2,h2,⟨h3.len,fun i s hi=>?_⟩,h4⟩;obtain ⟨x,e,hx⟩:=h3.at' i s hi;exact ⟨x,e,hs _ _ _ hx (h4 _ (List.mem_of_getElem? e) x aX)⟩
def Eq:List UInt8:=[2,110,115,1,97,0,1,109,0,0,0,0,5,0,0,0,10,0,0,0,3,0,0,0,100,0,0,0,4]
def Cv:List RSet:=[⟨[1,97],2,9,[[2,110,115,1,97,0]]⟩,⟨[1,97],6,9,[Eq]⟩,⟨[2,110,115,1,97],1,9,[[49,49,49,49]]⟩]
section
variable {P:Program} {w:World} {ts:List Value} {df:List Deferred} {d:Option Nat} {ty:TypeId} {ps:String} {af:Array Edge} {g:Option (Nat×Bool)}
end
theorem KT {l:List RSet} (h:yC l=true):l.length≤25∧(∀ s∈l,s.data.length≤12)∧(∀ s∈l,s.name.length≤300)∧∀ s∈l,∀ d∈s.data,d.length≤300:=by
 simp only [yC,Bool.and_eq_true,decide_eq_true_eq,List.all_eq_true,sG]at h;exact ⟨h.1,fun s hs=>(h.2 s hs).1.1,fun s hs=>(h.2 s hs).1.2,fun s hs d hd=>(h.2 s hs).2 d hd⟩
section
variable {P:Program} {ops:Array Oper} {Q:Exit→Act→World→Prop} {w:World} {rest:List Oper} {ts:List Value} {df:List Deferred} {ty:TypeId} {ps:String} {af:Array Edge} {g:Option (Nat×Bool)}
theorem Own.slf (h:Own B k e w v es):v=.slice none 0 0∧es=[]∨∃ g cap,v=.slice (some ⟨g,0,none⟩) es.length cap:=by
 rcases h.row.2 with ⟨h0,h1⟩|⟨g',cap',cur,fz,hv,_⟩
 ·exact .inl ⟨h0,List.eq_nil_of_length_eq_zero h1⟩
 ·exact .inr ⟨g',cap',hv⟩
end
def XV (d:List UInt8):Int:=if (dK d).isSome then 0 else 2
theorem IU (d:List UInt8) (w:World) (hl:d.length≤4611686018427387904):Calls Tryz.prog 135 #[aE d] w (bC w (.tuple #[.agg (gX d).cells.toArray, .int .i64 (XV d)])):=by
 have h:=Em d w hl;unfold gX XV;cases hp:dK d<;>(rw [hp]at h;exact h)
section
variable {α:Type} {os:List α} {q:Nat} {x:α}
end
def Ef (x:Option Rec) (os:List Rec):Nat:=os.length+(match x with|some _=>1|none=>0)
structure Sx (x:Option Rec) (os:List Rec) (q:Nat):Prop where
 non:∀ r∈os,AW r=false
 is:∀ r,x=some r→AW r=true∧q≤os.length
 no:x=none→os.length≤q
theorem Sx.to {x:Option Rec} {os:List Rec} {q':Nat} (h:Sx x os q) (hq:q<Ef x os) (hq':q'<Ef x os):Sx x os q':=by
 cases x with
 | none=>have:=h.no rfl;simp [Ef]at hq;omega
 | some r=>exact ⟨h.non,fun r' e=>⟨(h.is r' e).1,by simp [Ef]at hq';omega⟩,fun e=>by cases e⟩
section
variable {P:Program} {w w':World} {d:Option Nat} {ty:TypeId} {ps:String} {af:Array Edge} {g:Option (Nat×Bool)}
end
section
variable {P:Program} {w w':World} {d:Option Nat} {ty:TypeId} {ps:String} {af:Array Edge} {g:Option (Nat×Bool)}
end
section
variable {P:Program} {ops:Array Oper} {rest:List Oper} {ts:List Value} {df:List Deferred} {ty:TypeId} {ps:String} {af:Array Edge} {g:Option (Nat×Bool)} {tys:Array TypeId}
end
def XW (f:FuncId) (l:List Rec) (p:Rec→Bool):Prop:=∀ r∈l,∀ w',Calls Tryz.prog f #[.agg #[aE r.name, .int .i64 r.kind, .int .i64 r.ttl,aE r.data]] w' (bC w' (.bool (p r)))
theorem FN (v:Value) (l:List Rec) (f:FuncId) (p:Rec→Bool) (w:World) (hv:Sl 4 w v (aF l)) (he:Enters Tryz.prog f) (hf:XW f l p):Calls Tryz.prog 230 #[v, .func (.func f) #[] #[]] w (bC w (.int .i64 (oO p l))):=by
 have hle:=hv.le;have hlen:=aJ l;go_enter Tryz.func230,Tryz.ntmps230
 refine_lift fN fun _ _=>?_;go_loopw [5,8] (fun _ i wr=>∃ k:Nat,k≤l.length∧i=.int .i64 k∧Ext w wr∧(l.take k).any p=false) (fun _ i _=>l.length - (intOf i).toNat)
 case atStart=>exact ⟨0,Nat.zero_le _,rfl,Ext.refl _,rfl⟩
 case round =>
  obtain ⟨k,hk,rfl,hx,hall⟩:=hrel;have hv2:=hv.ext hx;by_cases hlt:k<l.length
  ·have hpe:=hv2.elem (eX hlt);refine_lift JS ?_;intro _ _ _ _ _ _;refine dW he rfl rfl rfl (hf _ (List.getElem_mem hlt) _) ?_;rintro e w2 ⟨rfl,x2⟩;refine ⟨_,rfl,?_⟩;refine aB ?_;cases hp:p l[k] with
   | true =>
    refine_lift cL ?_;go_ret;exact ⟨by rw [vT hlt hall hp];rfl,hx.trans x2⟩
   | false =>
    refine_lift cL ?_;exact ⟨⟨k+1,aC,by go_num,hx.trans x2,oL hlt hall hp⟩,by simp [intOf];omega⟩
  ·have:k=l.length:=aC;subst this;rw [List.take_length]at hall;refine_lift yL fun _=>?_;go_ret;exact ⟨by rw [vU hall];rfl,hx⟩
theorem yE (v:Value) (l:List Rec) (f:FuncId) (p:Rec→Bool) (w:World) (hv:Sl 4 w v (aF l)) (he:Enters Tryz.prog f) (hf:XW f l p):Calls Tryz.prog 175 #[v, .func (.func f) #[] #[]] w (bC w (.bool (l.any p))):=by
 go_enter Tryz.func175,Tryz.ntmps175
 refine_lift fN fun _ _=>?_;refine cB (FN v l f p _ hv he hf) fun w1 x1=>?_;refine_lift cL ?_;go_ret;exact ⟨by rw [← uL];rfl,x1⟩
theorem parts {l:List Rec} (hv:Sl 4 w v (aF l)) {n:Nat} (hn:n≤l.length):Sl 4 w (dD v 4 0 n) (aF (l.take n))∧Sl 4 w (dD v 4 n l.length) (aF (l.drop n)):=by
 have hlen:=aJ l;have a:=hv.cut (m:=0) (n:=n) aC aC;have b:=hv.cut (m:=n) (n:=l.length) aC aC;rw [← hlen,List.take_length,hlen]at b;exact ⟨by simpa [aF,List.map_take]using a,by simpa [aF,List.map_drop]using b⟩
def IV (v:Value):Nat:=match v with | .slice _ n _=>n|_=>0
theorem Sl.slLen (h:Sl k w v es):IV v=es.length:=by
 obtain ⟨a,cap,rfl,_⟩:=h;rfl
def ZEU (B:Nat) (q:ZE) (r:Value) (w':World):Prop:=∃ y,r=.tuple #[.agg #[aE q.o,y], .int .i64 q.e]∧SetsO B w' y q.l
theorem ZEU.bad {e:Int}:ZEU B (ZE.bad e) (.tuple #[.agg iQ.toArray, .int .i64 e]) w':=⟨.slice none 0 0,rfl,SetsO.nil _ _⟩
section
variable {P:Program} {a:Act} {w:World} {Q:Exit→Act→World→Prop}
theorem CF {c body:Code} (l:Nat) (J:Act→World→Prop) (μ:Act→World→Nat) (hf:findLabel c l=some (Code.skip.seq body))
 (pass:∀ a w,J a w→body.wp P (Exit.jump l (fun a' w'=>J a' w'∧μ a' w'<μ a w) Q) a w)
 (first:(∀ a w,J a w→body.wp P (Exit.jump l J Q) a w)→c.wp P (Exit.jump l J Q) a w):(Code.scope c).wp P Q a w :=
 wp_scope_jumps l J μ hf (first fun a w h=>wp_mono (pass a w h) (by intro e a' w' hq;cases e<;>first|exact hq|exact ⟨hq.1,hq.2.1⟩)) (fun a w h=>by
  have h':=pass a w h;apply wp_seq_k;intro K hK;apply wp_skip;exact hK _ _ h')
end
section
variable {P:Program} {w w':World} {d:Option Nat} {ty:TypeId} {ps:String} {af:Array Edge} {g:Option (Nat×Bool)} {a:Act}
end
theorem ZEU.cell {q:ZE} (h:ZEU B q r w):∃ y,r=.tuple #[.agg #[aE q.o,y], .int .i64 q.e]∧SetsO B w y q.l∧y.oneCell'=true:=by
 obtain ⟨y,rfl,hy⟩:=h;obtain ⟨_,hq,_⟩:=hy.sets.sl;exact ⟨y,rfl,hy,hq.one⟩
theorem SecOk.withZ {s:SecR} (h:SecOk s) {l:List Rec} (he:(s.inst l).e=0):SecOk (s.withZ (s.inst l)):=by
 obtain ⟨a,b,_⟩:=h.inst (l:=l) he;refine ⟨h.og,h.retry,?_⟩;intro o l' e;simp only [SecR.withZ,Option.some.injEq,Prod.mk.injEq]at e;obtain ⟨rfl,rfl⟩:=e;exact ⟨a,b⟩
structure OpR where
 op:Int
 n:Int
 now:Int
 l:List Rec
theorem RU (room:Int) (ds:List DeltaR) (h:0≤room):((RJ room ds).length:Int)=min (ds.length:Int) room:=by
 rw [RJ,List.length_drop];omega
theorem ZS {a b:List RSet} (ha:ZoneOk o a) (hb:ZoneOk o b):Cn o a o b=0:=by
 rw [Cn,if_pos (qQ ha),if_pos (qQ hb),if_pos rfl]
def sA:SecR:=FM [1,97] 7
def sB:SecR:=sA.heard 5 0
section
variable {retry n now:Int} (h1:1≤retry) (h2:retry≤100000) (h3:0≤n) (h4:n≤4294967295) (h5:0≤now) (h6:now≤1000000)
include h5 h6
end
section
variable {now:Int} (h5:0≤now) (h6:now≤1000000)
include h5 h6
end
section
variable {n now:Int} (h5:0≤now) (h6:now≤1000000)
include h5 h6
end
structure OpsAt (w:World) (v:Value) (ps:List OpR):Prop where
 out:∃ css,Sl 4 w v css∧css.length=ps.length∧∀ (i:Nat) (p:OpR),ps[i]? = some p→∃ u,css[i]? = some [.int .i64 p.op, .int .i64 p.n, .int .i64 p.now,u]∧Sl 4 w u (aF p.l)
theorem OpsAt.ext {ps:List OpR} (h:OpsAt w v ps) (hx:Ext w w'):OpsAt w' v ps:=by
 obtain ⟨css,h1,h2,h3⟩:=h;exact ⟨css,h1.ext hx,h2,fun i z hi=>let ⟨u,a,b⟩:=h3 i z hi;⟨u,a,b.ext hx⟩⟩
section
variable {P:Program} {w:World} {ts:List Value} {df:List Deferred} {d:Option Nat} {ty:TypeId} {ps:String} {af:Array Edge} {g:Option (Nat×Bool)}
end
structure MsgsAt (w:World) (v:Value) (ms:List MsgR):Prop where
 out:∃ css,Sl 13 w v css∧css.length=ms.length∧∀ (i:Nat) (m:MsgR),ms[i]? = some m→∃ q a u e,css[i]? = some (aP m q a u e)∧MsgV w m q a u e
theorem MsgsAt.ext {ms:List MsgR} (h:MsgsAt w v ms) (hx:Ext w w'):MsgsAt w' v ms:=by
 obtain ⟨css,h1,h2,h3⟩:=h;exact ⟨css,h1.ext hx,h2,fun i m hi=>let ⟨q,a,u,e,b,c⟩:=h3 i m hi;⟨q,a,u,e,b,c.ext hx⟩⟩
def iW:List Value:=[.int .i64 0, .bool false, .int .i64 0, .bool false, .bool false, .bool false, .bool false, .int .i64 0, .slice none 0 0, .slice none 0 0, .slice none 0 0, .slice none 0 0, .int .i64 0]
theorem dR {m:MsgR} {q a e:Value} (h:MsgV w m q a u e):(Value.agg (aP m q a u e).toArray).cells.all (·.oneCell')=true:=by
 have:=h.one;simp only [Value.cells,List.all_toArray,List.all_eq_true];exact this
end Go.Proofs.X
