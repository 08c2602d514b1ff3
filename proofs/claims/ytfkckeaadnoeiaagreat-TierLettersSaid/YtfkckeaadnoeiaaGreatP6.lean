/- Laws and walks that the proof of the statement is made of (part 6). -/
import Derived.Test.YtfkckeaadnoeiaaGreatP5
set_option linter.unusedSimpArgs false
set_option linter.unusedVariables false
set_option maxRecDepth 100000
set_option maxHeartbeats 20000000
namespace Go.Proofs.X
open Go.RowKit
variable {cs:Array Value} {held:Bool} {qt:Int} {ps rs:List (List UInt8×Nat)} {ls:List (List UInt8)} {css css0 es:List (List Value)} {d l m n o qn s t x y z:List UInt8} {B a b base c e fuel i j k p q:Nat} {fz:Nat×Nat} {row:Option Nat} {r u v:Value} {w w' w0 w1 w2:World}
theorem gN {l:List Rec}:∀ f∈aF l,∀ u∈f,u.oneCell'=true:=by
 intro f hf u hu;obtain ⟨r,_,rfl⟩:=List.mem_map.1 hf;simp only [Rec.cells,List.mem_cons,List.not_mem_nil,or_false]at hu;rcases hu with rfl|rfl|rfl|rfl<;>rfl
theorem ZP (o:List UInt8) (v:Value) (l:List RSet) (w:World) (hv:SetsAt w v l):Calls Tryz.prog 24 #[.agg #[aE o,v]] w (bC w (.bool (decide ((o.length:Int)≤300)&&yC l))):=by
 go_enter Tryz.func24,Tryz.ntmps24
 repeat' (first|((with_reducible refine aZ ?_);go_step)|fail)
 refine mW (vs:=[aE o,v]) fun p w1 x1 hp=>?_;refine aB ?_;have hv1:=hv.ext x1
 (repeat' first|((with_reducible refine aZ ?_);go_step)|((with_reducible refine aS ?_);first|refine dU ?_|(refine bG ?_ ?_<;>intro hc))|fail)
 ·refine bK (enters_of Tryz.func49 rfl rfl) rfl rfl (Gl v l _ hv1) ?_;intro w2 x2;refine aB ?_
  (repeat' first|((with_reducible refine aZ ?_);go_step)|((with_reducible refine aS ?_);first|refine dU ?_|(refine bG ?_ ?_<;>intro hc))|fail)
  go_ret;exact ⟨by rw [decide_eq_true hc];rfl,x1.trans x2⟩
 ·go_ret;exact ⟨by rw [decide_eq_false hc];rfl,x1⟩
theorem DelA.ext {d:DeltaR} (h:DelA d r w) (hx:Ext w w'):DelA d r w':=by
 obtain ⟨g,n,e,a,b⟩:=h;exact ⟨g,n,e,a.ext hx,b.ext hx⟩
theorem OC (pn:Value) (n:List UInt8) (s:RSet) (u:Value) (w:World) (hn:Pts w pn [aE n]):Calls Tryz.prog 204 #[.agg #[aE s.name, .int .i64 s.kind, .int .i64 s.ttl,u],pn] w (bC w (.bool (bW s.name n))):=by
 go_enter Tryz.func204,Tryz.ntmps204
 refine_lift mT fun _ _=>?_;refine mW (vs:=[aE s.name, .int .i64 s.kind, .int .i64 s.ttl,u]) fun ps w1 x1 hs=>?_;refine aB ?_;have hn1:=hn.ext x1;refine_lift fN fun _ _=>?_;refine cB (jI s.name n _) fun w2 x2=>?_;refine_lift cL ?_;go_ret;exact ⟨rfl,x1.trans x2⟩
theorem RE (o:List UInt8) (v:Value) (l:List RSet) (n:List UInt8) (w:World) (hv:SetsAt w v l):Calls Tryz.prog 160 #[.agg #[aE o,v],aE n] w (bC w (.bool (l.any fun s=>bW s.name n))):=by
 go_enter Tryz.func160,Tryz.ntmps160
 refine_lift sF ?_;intro _ _ _;refine mW (vs:=[aE o,v]) fun p w1 x1 hp=>?_;refine aB ?_;refine_lift XH ?_;refine mW (vs:=[aE n]) fun pn w2 x2 hn=>?_;refine aB ?_;have hx2:=x1.trans x2;have hp2:=hp.ext x2;have hv2:=hv.ext hx2;refine_lift fN fun _ _=>?_;have hf:SetFn w2 204 #[pn] l (fun s=>bW s.name n):=fun s _ x w' hx' _=>OC pn n s x w' (hn.ext hx');refine cB (mN v l 204 #[pn] (fun s=>bW s.name n) _ hv2 (enters_of Tryz.func204 rfl rfl) hf) fun w3 x3=>?_;refine_lift cL ?_;go_ret;exact ⟨rfl,hx2.trans x3⟩
def OD (l:List RSet) (n a:List UInt8):List RSet:=(l.filter fun s=>decide (s.name=n)).map fun s=>⟨a,s.kind,s.ttl,s.data⟩
theorem VE {l:List RSet} {a:List UInt8} (h:k<l.length):OD (l.take (k+1)) n a=OD (l.take k) n a++(if l[k].name=n then [⟨a,l[k].kind,l[k].ttl,l[k].data⟩]else []):=by
 unfold OD;rw [List.take_succ_eq_append_getElem h,List.filter_append,List.map_append]
 congr 1
 by_cases hm:l[k].name=n<;>simp [hm]
theorem RF (l:List RSet) (n a:List UInt8):(OD l n a).length≤l.length:=by
 unfold OD;rw [List.length_map];exact List.length_filter_le _ _
theorem Cs (o:List UInt8) (v:Value) (l:List RSet) (n a:List UInt8) (w0 w:World) (hx0:Ext w0 w) (hv0:SetsAt w0 v l) (hl:l.length≤100000) :
 Calls Tryz.prog 161 #[.agg #[aE o,v],aE n,aE a] w (kZ w fun r w'=>∃ css,Own w.heap.size 4 136 w' r css∧SetsC w0 css (OD l n a)):=by
 have hv:=hv0.ext hx0;obtain ⟨cv,hv1,hvl⟩:=hv.sl;go_enter Tryz.func161,Tryz.ntmps161
 refine_lift sF ?_;intro _ _ _;refine mW (vs:=[aE o,v]) fun p w1 x1 hp=>?_;refine aB ?_;have hv2:=hv1.ext x1;refine_lift fN fun _ _=>?_;go_loopw [7,9,13] (fun r _ i wr=>∃ (k:Nat) (css:List (List Value)),k≤l.length∧i=.int .i64 k∧Ext w wr∧Own w.heap.size 4 136 wr r css∧SetsC w0 css (OD (l.take k) n a)) (fun _ _ i _=>l.length - (intOf i).toNat)
 case atStart=>exact ⟨0,[],Nat.zero_le _,rfl,x1,Own.nil _ _ _ _,⟨rfl,by simp [OD]⟩⟩
 case round =>
  obtain ⟨k,css,hk,rfl,hx,ho,hc⟩:=hrel;have hvr:=hv1.ext hx;by_cases hlt:k<l.length
  ·obtain ⟨x,h4w,h4dw⟩:=hv0.elem (List.getElem?_eq_getElem hlt);have h4:=h4w.ext (hx0.trans hx);have h4d:=h4dw.ext (hx0.trans hx);have hst:=VE (n:=n) (a:=a) hlt;have hcl:=hc.len;have hal:=RF (l.take k) n a;rw [List.length_take]at hal;refine_lift JS ?_;intro _ _ _ _ _ _;refine dX (z:=gT) fun w2 x2 s2 h2=>?_;refine aB ?_;refine dL (v:=.agg #[aE l[k].name, .int .i64 l[k].kind, .int .i64 l[k].ttl,x]) h2 (gE rfl rfl rfl (h4d.ext x2).one) fun w3 p3=>?_;have x3:=cJ x2 p3;have b3:w3.heap[wr.heap.size]? = some (.cells [aE l[k].name, .int .i64 l[k].kind, .int .i64 l[k].ttl,x].toArray 136 (0,0)):=p3.this;have h3:=aA b3;have hx3:=hx.trans x3;have ho3:=ho.ext x3;clear p3 h2 x2;refine_lift PZ (fun _=>?_) (fun _ _ _=>?_)
   ·have hm:l[k].name=n:=by assumption
    rw [if_pos hm]at hst;refine fA 0 _ b3 rfl fun w4 p4=>?_;have x4:=cJ x3 p4;have h5:Pts w4 (.pointer (some ⟨wr.heap.size,0,none⟩)) [aE a, .int .i64 l[k].kind, .int .i64 l[k].ttl,x]:=aA p4.this;have hx4:=hx.trans x4;have ho4:=ho.ext x4;have hd4:=h4d.ext x4;clear p4 b3 h3;refine_lift cL ?_;refine Bq [aE a, .int .i64 l[k].kind, .int .i64 l[k].ttl,x] hx4 ho4 aC ?_ ⟨rfl,rfl,rfl,by intro u hu;simp only [List.mem_cons,List.not_mem_nil,or_false]at hu;rcases hu with rfl|rfl|rfl|rfl<;>first|rfl|exact hd4.one⟩;intro s5 v5 w5 w6 x5 m6 x6 o6;refine aB ?_;refine_lift cL ?_;exact ⟨⟨k+1,_,aC,by go_num,x6,o6,by rw [hst];exact hc.append (SetsC.one (s:=⟨a,l[k].kind,l[k].ttl,l[k].data⟩) h4dw)⟩,by simp [intOf];omega⟩
   ·have hm:¬ l[k].name=n:=by assumption
    rw [if_neg hm,List.append_nil]at hst;exact ⟨⟨k+1,css,aC,by go_num,hx3,ho3,by rw [hst];exact hc⟩,by simp [intOf];omega⟩
  ·have:k=l.length:=aC;subst this;rw [List.take_length]at hc;refine_lift yL fun _=>?_;go_ret;exact ⟨_,rfl,hx,_,ho,hc⟩
def gH (o:Option RSet):List Rec:=match o with|some s=>eK s|none=>[]
theorem nI (s:RSet):bD [s]=eK s:=by simp [bD]
theorem nJ (o:Option RSet):gH o=bD [o.getD fH]:=by cases o<;>simp [gH,nI,eK,fH]
def gI (o:List UInt8) (l:List RSet):Rec:=⟨o,6,min ((cK l o 6).getD fH).ttl (fO o l).minimum,qE o l⟩
def CA (l:List RSet) (n:List UInt8):Bool:=l.any fun s=>bW s.name n
def nU (l:List RSet):List (List UInt8)→List (List UInt8)
 | []=>[]
 | x::t=>if CA l (enc (x::t))=true then x::t else nU l t
def DV (l:List RSet) (n:List UInt8):List UInt8:=(mV ([42]::nU l ((aM n).getD []))).getD []
def dZ (l:List RSet) (n:List UInt8):List RSet:=if CA l n=true then OD l n n else OD l (DV l n) n
def DW (l:List RSet) (n:List UInt8):Bool:=CA l n||decide (0<(OD l (DV l n) n).length)
def AS (k:Int):Bool:=decide (k=2)||decide (k=15)||decide (k=33)
def lZ (l:List RSet) (b:List (List UInt8)×List Rec) (r:Rec):List (List UInt8)×List Rec :=
 if (aQ r.kind r.data).2≠0∨AS r.kind=false∨fold (aQ r.kind r.data).1∈b.1 then b
 else (b.1 ++ [fold (aQ r.kind r.data).1],b.2++gH (cK l (fold (aQ r.kind r.data).1) 1)++gH (cK l (fold (aQ r.kind r.data).1) 28))
def fW (l:List RSet) (rs:List Rec):List (List UInt8)×List Rec:=rs.foldl (lZ l) ([],[])
def KO (l:List RSet) (rs:List Rec):List Rec:=(fW l rs).2
structure StepR where
 kind:Int
 ans:List Rec
 auth:List Rec
 next:List UInt8
 more:Bool
 deriving Inhabited
def fU (s:RSet):Bool:=decide (s.kind=5)
def dT (l:List RSet) (n:List UInt8):RSet:=((dZ l n).find? fU).getD fH
def kJ (k:Int) (s:RSet):Bool:=decide (k=255)||decide (s.kind=k)
def cX (o:List UInt8) (l:List RSet) (n:List UInt8) (k c:Int):StepR :=
 if bW n o=false then ⟨if c=0 then 4 else 0,[],[],[],false⟩
 else if (gU o l n).2=true then ⟨3,[],gH (cK l (gU o l n).1 2),[],false⟩
 else if DW l n=false then ⟨2,[],[gI o l],[],false⟩
 else if (dZ l n).any fU=true∧k≠5∧k≠255 then
  if c=8 then ⟨0,[],[],[],false⟩
  else ⟨0,eK (dT l n),[],fold (aQ 5 ((dT l n).data.getD 0 [])).1,true⟩
 else if (dZ l n).filter (kJ k)=[]then ⟨1,[],[gI o l],[],false⟩
 else ⟨0,bD ((dZ l n).filter (kJ k)),[],[],false⟩
def fT (o:List UInt8) (l:List RSet) (k:Int):Nat→Int→List UInt8→StepR
 | 0,_,_=>⟨0,[],[],[],false⟩
 | f+1,c,n=>if (cX o l n k c).more=true then
     ⟨(fT o l k f (c+1) (cX o l n k c).next).kind,(cX o l n k c).ans++(fT o l k f (c+1) (cX o l n k c).next).ans,(fT o l k f (c+1) (cX o l n k c).next).auth,[],false⟩
   else cX o l n k c
structure AnsR where
 kind:Int
 ans:List Rec
 auth:List Rec
 extra:List Rec
 deriving DecidableEq,Inhabited
def RG:AnsR:=⟨0,[],[],[]⟩
def nV (o:List UInt8) (l:List RSet) (q:List UInt8):Int:=if cW o l≠0 then cW o l else eH q
def gO (r:StepR):List Rec:=r.ans++if r.kind=3 then r.auth else []
def gW (o:List UInt8) (l:List RSet) (q:List UInt8) (k:Int):AnsR :=
 if nV o l q≠0 then RG else
  ⟨(fT o l k 9 0 (fold q)).kind,(fT o l k 9 0 (fold q)).ans,(fT o l k 9 0 (fold q)).auth,KO l (gO (fT o l k 9 0 (fold q)))⟩
theorem vV (n:List UInt8):fold (fold n)=fold n:=by
 cases h:aM n with
 | none =>
  have:fold n=n:=by unfold fold;rw [h]
  rw [this,this]
 | some ls=>exact (mM h).2.2
theorem qV (n:List UInt8):(aM (fold n)).isSome=(aM n).isSome:=by
 cases h:aM n with
 | none =>
  have:fold n=n:=by unfold fold;rw [h]
  rw [this,h]
 | some ls=>rw [(mM h).2.1];rfl
theorem KP (n:List UInt8):eH (fold n)=eH n:=by unfold eH;rw [qV]
theorem IJ (n:List UInt8):dO (fold n)=dO n:=by unfold dO;rw [vV]
theorem IK (n t:List UInt8):bW (fold n) t=bW n t:=by unfold bW;rw [IJ]
theorem xL (o:List UInt8) (l:List RSet) (q:List UInt8) (k:Int):gW o l (fold q) k=gW o l q k∧nV o l (fold q)=nV o l q:=by
 have h:nV o l (fold q)=nV o l q:=by unfold nV;rw [KP]
 exact ⟨by unfold gW;rw [h,vV],h⟩
theorem qX {s:RSet} (h:lS s=true):1≤s.data.length∧s.data.length≤20:=by
 simp only [lS,Bool.and_eq_true,decide_eq_true_eq]at h;exact ⟨h.1.1.2,h.1.2⟩
def InZ (l:List RSet) (r:Rec):Prop:=(∃ s∈l,∃ d∈s.data,r=uH s d)∨CA l r.name=false
theorem InZ.opt {l:List RSet} {k:Int}:∀ r∈gH (cK l n k),InZ l r:=by
 intro r hr;cases hf:cK l n k with
 | none=>rw [hf]at hr;cases hr
 | some s =>
  rw [hf]at hr;obtain ⟨d,hd,rfl⟩:=List.mem_map.1 hr;exact .inl ⟨s,(oN hf).1,d,hd,rfl⟩
theorem KQ {l:List RSet} {s:RSet} (h:s∈OD l m n):∃ t∈l,t.name=m∧s=⟨n,t.kind,t.ttl,t.data⟩:=by
 unfold OD at h;obtain ⟨t,ht,rfl⟩:=List.mem_map.1 h;obtain ⟨h1,h2⟩:=List.mem_filter.1 ht;exact ⟨t,h1,by simpa using h2,rfl⟩
theorem InZ.at {l:List RSet} {s:RSet} (h:s∈dZ l n):∀ d∈s.data,InZ l (uH s d):=by
 intro d hd;unfold dZ at h;split at h
 ·obtain ⟨t,ht,h1,rfl⟩:=KQ h;exact .inl ⟨t,ht,d,hd,by simp [uH,h1]⟩
 ·rename_i hn;obtain ⟨t,ht,h1,rfl⟩:=KQ h;exact .inr (by simpa [uH]using hn)
theorem rT {l:List RSet} (h:(dZ l n).any fU=true):dT l n∈dZ l n∧(dT l n).kind=5∧(dZ l n).find? fU=some (dT l n):=by
 unfold dT;cases hf:(dZ l n).find? fU with
 | none =>
  rw [List.find?_eq_none]at hf;obtain ⟨s,hs,h1⟩:=List.any_eq_true.1 h;exact absurd h1 (hf s hs)
 | some s =>
  have:=List.find?_some hf;exact ⟨List.mem_of_find?_eq_some hf,by simpa [fU]using this,rfl⟩
theorem pO {l:List RSet} (h:cU l=0) {s:RSet} (hs:s∈dZ l n):∃ t∈l,s.kind=t.kind∧s.ttl=t.ttl∧s.data=t.data∧s.name=n:=by
 unfold dZ at hs;split at hs<;>(obtain ⟨t,ht,h1,rfl⟩:=KQ hs;exact ⟨t,ht,rfl,rfl,rfl,rfl⟩)
theorem DX {l:List RSet} (h:cU l=0) {s:RSet} (hs:s∈l):lS s=true:=by
 obtain ⟨i,hi,rfl⟩:=List.mem_iff_getElem.1 hs;exact vS h hi
theorem qY {l:List RSet} (h:cU l=0) {s:RSet} (hs:s∈dZ l n):eK s≠[]∧s.data.length≤20∧1≤s.data.length:=by
 obtain ⟨t,ht,_,_,h3,_⟩:=pO h hs;have:=qX (DX h ht);have h5:s.data.length=t.data.length:=by rw [h3]
 refine ⟨fun e=>?_,aC,aC⟩;unfold eK at e;rw [List.map_eq_nil_iff]at e;rw [e]at h3;have h4:=congrArg List.length h3;simp at h4;omega
abbrev mU:=List UInt8×Int
structure MsgR where
 id:Int
 resp:Bool
 op:Int
 auth:Bool
 trunc:Bool
 want:Bool
 avail:Bool
 rcode:Int
 qs:List mU
 an:List Rec
 au:List Rec
 ex:List Rec
 size:Int
 deriving DecidableEq,Inhabited
def cV (l:List mU):List (List Value):=l.map fun q=>[aE q.1, .int .i64 q.2]
theorem eR (l:List mU):(cV l).length=l.length:=by simp [cV]
def aP (m:MsgR) (q a u e:Value):List Value:=[.int .i64 m.id, .bool m.resp, .int .i64 m.op, .bool m.auth, .bool m.trunc, .bool m.want, .bool m.avail, .int .i64 m.rcode,q,a,u,e, .int .i64 m.size]
structure MsgV (w:World) (m:MsgR) (q a u e:Value):Prop where
 qs:Sl 2 w q (cV m.qs)
 an:Sl 4 w a (aF m.an)
 au:Sl 4 w u (aF m.au)
 ex:Sl 4 w e (aF m.ex)
theorem MsgV.ext {m:MsgR} {q a e:Value} (h:MsgV w m q a u e) (hx:Ext w w'):MsgV w' m q a u e:=⟨h.qs.ext hx,h.an.ext hx,h.au.ext hx,h.ex.ext hx⟩
theorem MsgV.one {m:MsgR} {q a e:Value} (h:MsgV w m q a u e):∀ x∈aP m q a u e,x.oneCell'=true:=by
 intro x hx;simp only [aP,List.mem_cons,List.not_mem_nil,or_false]at hx;rcases hx with rfl|rfl|rfl|rfl|rfl|rfl|rfl|rfl|rfl|rfl|rfl|rfl|rfl
 all_goals first|rfl|exact h.qs.one|exact h.an.one|exact h.au.one|exact h.ex.one
def zeroM:MsgR:=⟨0,false,0,false,false,false,false,0,[],[],[],[],0⟩
theorem MsgV.zero (w:World):MsgV w zeroM (.slice none 0 0) (.slice none 0 0) (.slice none 0 0) (.slice none 0 0):=⟨Sl.nil _ _,Sl.nil _ _,Sl.nil _ _,Sl.nil _ _⟩
def AT (q:mU):Bool:=decide (eH q.1=0)&&(decide (1≤q.2)&&decide (q.2≤65535)) && !decide (q.2=41)
def jK (l:List Rec):Bool:=decide (l.length≤200) && !(l.any fun r => !decide (bI r=0))
def iK (n least most:Int):Bool:=decide (least≤n)&&decide (n≤most)
def dY (m:MsgR):Int :=
 if iK m.id 0 65535&&iK m.op 0 15&&iK m.rcode 0 15&&(decide (m.size=0)||iK m.size 512 65535)&&(decide (m.qs.length≤10)&&m.qs.all AT)&&(jK m.an&&jK m.au&&jK m.ex)then 0 else 1
structure OwnOff (B k:Nat) (e:TypeId) (w:World) (v:Value) (es:List (List Value)):Prop where
 row:(v=.slice none 0 0∧es=[])∨∃ g o cap cur fz,v=.slice (some ⟨g,o*k,none⟩) es.length cap∧B≤g∧w.heap[g]? = some (.cells cur e fz)∧(fz.2≤fz.1∨cur.size≤fz.1)∧es.length≤cap∧cap≤maxLen∧(o+cap)*k≤cur.size∧(cur.toList.drop (o*k)).take (es.length*k)=es.flatten
 each:∀ x∈es,x.length=k
theorem Own.off (h:Own B k e w v es):OwnOff B k e w v es:=by
 refine ⟨?_,h.each⟩;rcases h.row.2 with ⟨rfl,h0⟩|⟨g,cap,cur,fz,rfl,hb,hg,hfz,hnc,hcm,hcs,htake⟩
 ·exact .inl ⟨rfl,List.eq_nil_of_length_eq_zero h0⟩
 ·exact .inr ⟨g,0,cap,cur,fz,aX,hb,hg,hfz,hnc,hcm,by rw [Nat.zero_add];exact Nat.le_of_eq hcs.symm,by simpa using htake⟩
theorem OwnOff.nil (B k:Nat) (e:TypeId) (w:World):OwnOff B k e w (.slice none 0 0) []:=(Own.nil B k e w).off
theorem OwnOff.type (h:OwnOff B k e w v es) {r:Nat} (hr:v.ownBlock=some r):B≤r∧r<w.heap.size∧∃ cur fz,w.heap[r]? = some (.cells cur e fz):=by
 rcases h.row with ⟨rfl,_⟩|⟨g,o,cap,cur,fz,rfl,hb,hg,_⟩
 ·simp [Value.ownBlock]at hr
 ·simp [Value.ownBlock]at hr;subst hr;exact ⟨hb,(Array.getElem?_eq_some_iff.1 hg).1,cur,fz,hg⟩
theorem OwnOff.neBlock {t:Nat} (h:OwnOff B k e w v es) (hb:w.heap[b]? = some (.cells cs t fz)) (ht:t≠e):v.ownBlock≠some b:=fun e'=>by
 obtain ⟨_,_,cur,fz',h'⟩:=h.type e';rw [hb]at h';simp only [Option.some.injEq,Obj.cells.injEq]at h';exact ht h'.2.1
theorem OwnOff.neOwn {B' k' e':Nat} {v':Value} {es':List (List Value)} (h:OwnOff B k e w v es) (h':Own B' k' e' w v' es') (he:e≠e'):v'.ownBlock=none∨v'.ownBlock≠v.ownBlock:=by
 cases hv:v'.ownBlock with
 | none=>exact .inl rfl
 | some r =>
  obtain ⟨cur,fz,h1⟩:=h'.type hv;exact .inr fun e2=>h.neBlock h1 (fun e3=>he e3.symm) e2.symm
theorem OwnOff.mv (h:OwnOff B k e w v es) (hm:Mv row w w') (hne:v.ownBlock=none∨v.ownBlock≠row):OwnOff B k e w' v es:=by
 refine ⟨h.row.imp id ?_,h.each⟩;rintro ⟨g,o,cap,cur,fz,rfl,hb,hg,r⟩;refine ⟨g,o,cap,cur,fz,rfl,hb,hm.at hg ?_,r⟩;rcases hne with hne|hne
 ·simp [Value.ownBlock]at hne
 ·simpa [Value.ownBlock]using hne
theorem OwnOff.ext (h:OwnOff B k e w v es) (hx:Ext w w'):OwnOff B k e w' v es:=by
 refine ⟨h.row.imp id ?_,h.each⟩;rintro ⟨g,o,cap,cur,fz,rfl,hb,hg,r⟩;exact ⟨g,o,cap,cur,fz,rfl,hb,hx.at hg,r⟩
theorem OwnOff.weaken {C:Nat} (h:OwnOff B k e w v es) (hc:C≤B):OwnOff C k e w v es :=
 ⟨h.row.imp id fun ⟨g,o,cap,cur,fz,a,b,r⟩=>⟨g,o,cap,cur,fz,a,Nat.le_trans hc b,r⟩,h.each⟩
theorem OwnOff.sl (h:OwnOff B k e w v es):Sl k w v es:=by
 rcases h.row with ⟨rfl,rfl⟩|⟨g,o,cap,cur,fz,rfl,hb,hg,hfz,hnc,hcm,hcs,htake⟩
 ·exact Sl.nil _ _
 ·refine ⟨_,cap,rfl,hnc,by unfold maxLen at hcm;omega,h.each,(fun e=>by cases e),fun _=>⟨g,o*k,rfl,?_⟩⟩;intro i ce j x hi hj;have hfl:=jX h.each hi hj;rw [← htake,List.getElem?_take]at hfl;split at hfl
  ·rw [List.getElem?_drop]at hfl;have hlt:o*k+(i*k+j)<cur.size:=by
    have:=(List.getElem?_eq_some_iff.1 hfl).1
    simpa using this
   simp only [World.cell?,hg];rw [← Nat.add_assoc]at hfl
   simpa [Array.getElem?_toList]using hfl
  ·cases hfl
theorem OwnOff.drop (h:OwnOff B k e w v es) {m:Nat} (hm:m≤es.length):OwnOff B k e w (dD v k m es.length) (es.drop m):=by
 refine ⟨?_,fun x hx=>h.each x (List.mem_of_mem_drop hx)⟩;rcases h.row with ⟨rfl,rfl⟩|⟨g,o,cap,cur,fz,rfl,hb,hg,hfz,hnc,hcm,hcs,htake⟩
 ·have:m=0:=by simpa using hm
  subst this;exact .inl ⟨by simp [dD],rfl⟩
 ·have hfl:=aY h.each;by_cases hc:cap=m
  ·have hlm:es.length=m:=aC;refine .inr ⟨g,o,0,cur,fz,?_,hb,hg,hfz,?_,by unfold maxLen;omega,?_,?_⟩
   ·simp [dD,hc,hlm]
   ·simp [hlm]
   ·have:(o+0)*k≤(o+cap)*k:=Nat.mul_le_mul_right k aC;omega
   ·have h0:es.drop m=[]:=by rw [← hlm,List.drop_length]
    rw [h0];simp
  ·refine .inr ⟨g,o+m,cap - m,cur,fz,?_,hb,hg,hfz,?_,aC,?_,?_⟩
   ·simp [dD,hc,cY,Nat.add_mul]
   ·simp;omega
   ·rw [show o+m+(cap - m)=o+cap by omega];exact hcs
   ·have hd:=pG es m h.each;rw [hd,← htake,List.drop_take,List.drop_drop,List.length_drop,Nat.add_mul,← Nat.sub_mul]
section
variable {P:Program} {ops:Array Oper} {Q:Exit→Act→World→Prop} {w:World} {rest:List Oper} {ts:List Value} {df:List Deferred} {ty:TypeId} {ps:String} {af:Array Edge}
end
theorem Pts.front {p:Value} {vs:List Value} (h:Pts w p vs) (n:Nat):Pts w p (vs.take n):=by
 obtain ⟨b,o,e,hc⟩:=h;refine ⟨b,o,e,fun j x hx=>hc j x ?_⟩;rw [List.getElem?_take]at hx;split at hx
 ·exact hx
 ·cases hx
section
variable {P:Program} {w:World} {ts:List Value} {df:List Deferred} {d:Option Nat} {ty:TypeId} {ps:String} {af:Array Edge} {g:Option (Nat×Bool)}
end
structure SetsN (B:Nat) (w:World) (css0 css:List (List Value)) (l:List RSet) (k:Nat):Prop where
 len:css.length=l.length
 new:∀ (i:Nat) (s:RSet),l[i]? = some s→i<k→∃ x,css[i]? = some [aE s.name, .int .i64 s.kind, .int .i64 s.ttl,x]∧Own B 1 9 w x (aH s.data)
 old:∀ i,k≤i→css[i]? = css0[i]?
theorem SetsN.ext {l:List RSet} (h:SetsN B w css0 css l k) (hx:Ext w w'):SetsN B w' css0 css l k :=
 ⟨h.len,fun i s hi hk=>let ⟨x,a,b⟩:=h.new i s hi hk;⟨x,a,b.ext hx⟩,h.old⟩
theorem SetsN.mv {l:List RSet} (h:SetsN B w css0 css l k) (hm:Mv row w w') (hne:∀ x es,Own B 1 9 w x es→x.ownBlock=none∨x.ownBlock≠row):SetsN B w' css0 css l k :=
 ⟨h.len,fun i s hi hk=>let ⟨x,a,b⟩:=h.new i s hi hk;⟨x,a,b.mv hm (hne x _ b)⟩,h.old⟩
theorem SetsN.step {l:List RSet} (h:SetsN B w css0 css l k) (hk:k<l.length) {y:Value} (hy:Own B 1 9 w y (aH l[k].data)) :
 SetsN B w css0 (css.set k [aE l[k].name, .int .i64 l[k].kind, .int .i64 l[k].ttl,y]) l (k+1):=by
 refine ⟨by rw [List.length_set,h.len],fun i s hi hik=>?_,fun i hi=>?_⟩
 ·by_cases e:k=i
  ·subst e;rw [List.getElem?_eq_getElem hk]at hi;cases hi
   exact ⟨y,List.getElem?_set_self (by rw [h.len];exact hk),hy⟩
  ·obtain ⟨x,a,b⟩:=h.new i s hi aC;exact ⟨x,by rw [List.getElem?_set_ne e];exact a,b⟩
 ·rw [List.getElem?_set_ne aC];exact h.old i aC
theorem SetsN.done {l:List RSet} (h:SetsN B w css0 css l l.length):SetsW B w css l :=
 ⟨h.len,fun i s hi=>h.new i s hi (List.getElem?_eq_some_iff.1 hi).1⟩
section
variable {P:Program} {a:Act} {w:World} {d:Option Nat} {ty:TypeId} {ps:String} {af:Array Edge} {g:Option (Nat×Bool)}
theorem Runs.isNil {t u:TypeId} {x y:Operand} {p:Option Addr} (hx:a.eval x=.pointer p) (hy:a.eval y=.pointer none) (ht:P.underlying t=some (.pointer (P.pointee t))) :
 Runs P (Oper.mk d (.binOp .eql t x y u) ty ps af g) a w (.bool p.isNone):=by
 constructor;simp [execOp,hx,hy,eqGuard,run_eql_pointer_nil w t p ht]
end
theorem SetsV.sets {l:List RSet} (h:SetsV B w v l):SetsAt w v l:=by
 obtain ⟨css,h1,h2⟩:=h;exact h2.sets.sets h1.sl
section
variable {P:Program} {a:Act} {w:World} {d:Option Nat} {ty:TypeId} {ps:String} {af:Array Edge} {g:Option (Nat×Bool)}
end
def RH (n:Int):Bool:=decide (0≤n)&&decide (n≤4294967295)
def tD (a b:Int):Bool:=RH a&&RH b&&decide (2147483648<(b - a) % 4294967296)
theorem CB {P:Program} {t ty:TypeId} {n:Nat} {cs vs:List Value} (hb:w.heap[b]? = some (.cells cs.toArray t (0,0))) (hv:v.cells=vs.toArray) (hn:n+vs.length≤cs.length) (hs:dG P ty vs.length=true) (h1:∀ u∈vs,u.oneCell'=true) :
 ∃ w',(storeVar ty ⟨b,n,none⟩ v).run P w=.ok () w'∧Put w w' b (.cells (cs.take n++vs++cs.drop (n+vs.length)).toArray t (0,0)):=by
 obtain ⟨i,hq,hsz⟩:=rN (iO hs);have hr:=eC P b n t (0,0) vs 0 cs.toArray w hb (.inl (Nat.le_refl _)) (by simpa using hn) h1;simp only [Nat.add_zero]at hr;refine ⟨w.setRow b (cs.take n++vs++cs.drop (n+vs.length)).toArray,?_,rfl,rfl,rfl,aX,setRow_heap w b _ _ t _ hb,fun k hk=>setRow_other w b k _ hk,rfl⟩;simp [storeVar,sizeOf,typeInfo,hq,hsz,hv,hr]
section
variable {P:Program} {ops:Array Oper} {Q:Exit→Act→World→Prop} {w:World} {rest:List Oper} {ts:List Value} {df:List Deferred} {d:Option Nat} {ty:TypeId} {ps:String} {af:Array Edge} {g:Option (Nat×Bool)}
theorem AU {t ty:TypeId} {x y:Operand} {n:Nat} {cs vs:List Value} {ty2:TypeId} (hb:w.heap[b]? = some (.cells cs.toArray t (0,0))) (hw:Region.wanted (Oper.mk none (.store ty x y) ty2 ps af g) (yielded ops ts.toArray)=true)
 (hx:(Act.mk ts.toArray df).eval x=aV (.pointer (some ⟨b,0,none⟩)) n) (hy:(Act.mk ts.toArray df).eval y=v) (hv:v.cells=vs.toArray) (hn:n+vs.length≤cs.length) (hs:dG P ty vs.length=true) (h1:∀ u∈vs,u.oneCell'=true)
 (h:∀ w',Put w w' b (.cells (cs.take n++vs++cs.drop (n+vs.length)).toArray t (0,0))→wpList P ops Q rest (Act.mk ts.toArray df) w'):wpList P ops Q (Oper.mk none (.store ty x y) ty2 ps af g::rest) (Act.mk ts.toArray df) w:=by
 obtain ⟨w',hr,hp⟩:=CB (P:=P) hb hv hn hs h1;refine iP hw (w':=w') ?_ (h w' hp);have e:aV (.pointer (some ⟨b,0,none⟩)) n=.pointer (some ⟨b,n,none⟩):=by simp [aV,cY]
 simp [execOp,hx,hy,e,Instr.storeAt,Instr.sureAddr,hr]
end
theorem RI {l:List RSet} (h:ZoneOk o l):l.length≤200∧(∀ s∈l,s.data.length≤20)∧(∀ s∈l,∀ d∈s.data,d.length≤4000)∧(bD l).length≤4000:=by
 have h1:l.length≤200:=by
  have:=h.chk;unfold cU at this;split at this
  ·cases this
  ·omega
 have h2:∀ s∈l,s.data.length≤20:=fun s hs=>by
  have hm:=h.may hs;simp only [lS,Bool.and_eq_true,decide_eq_true_eq]at hm;exact hm.1.2
 refine ⟨h1,h2,fun s hs d hd=>?_,?_⟩
 ·obtain ⟨i,hi,rfl⟩:=List.mem_iff_getElem.1 hd;exact (qR (KJ (h.may hs) hi)).1
 ·have:∀ {L:List RSet},(∀ s∈L,s.data.length≤20)→(bD L).length≤20*L.length:=by
   intro L;induction L with
   | nil=>intro _;simp [bD]
   | cons s L ih =>
    intro hL;have e:bD (s::L)=eK s++bD L:=by simp [bD]
    have i1:=ih fun t ht=>hL t (by simp [ht]);have i2:=hL s aX;rw [e,List.length_append,eK,List.length_map,List.length_cons];omega
  have:=this h2;omega
def VF (o:List UInt8) (l:List RSet) (o':List UInt8) (l':List RSet):Int :=
 if cW o' l'≠0 then cW o' l' else if o'≠o then 1 else if tD (fO o' l').serial (fO o l).serial=false then 7 else 0
def RJ (room:Int) (ds:List DeltaR):List DeltaR:=ds.drop (ds.length - room.toNat)
theorem Ct {α β γ:Type} {F:α→β→γ→World→Prop} {G:α→β→γ→World→Prop} {goal:Prop} (h1:(∀ x y z w',F x y z w'→G x y z w')→goal) (h2:∀ x y z w',F x y z w'→G x y z w'):goal:=h1 h2
section
variable {P:Program} {n:Nat} {r:Option Nat} {ops:Array Oper} {Q:Exit→Act→World→Prop} {md:Region.Mode}
end
section
variable {P:Program} {w w':World} {ts:List Value} {df:List Deferred} {d:Option Nat} {ty:TypeId} {ps:String} {af:Array Edge} {g:Option (Nat×Bool)}
end
structure DelN (B:Nat) (w:World) (css0 css:List (List Value)) (ds:List DeltaR) (k:Nat):Prop where
 len:css.length=ds.length
 new:∀ (i:Nat) (d:DeltaR),ds[i]? = some d→i<k→∃ g n,css[i]? = some [.int .i64 d.fr, .int .i64 d.to,g,n]∧Own B 4 37 w g (aF d.gone)∧Own B 4 37 w n (aF d.new)
 old:∀ i,k≤i→css[i]? = css0[i]?
theorem DelN.ext {ds:List DeltaR} (h:DelN B w css0 css ds k) (hx:Ext w w'):DelN B w' css0 css ds k :=
 ⟨h.len,fun i s hi hk=>let ⟨x,y,a,b,c⟩:=h.new i s hi hk;⟨x,y,a,b.ext hx,c.ext hx⟩,h.old⟩
theorem DelN.mv {ds:List DeltaR} (h:DelN B w css0 css ds k) (hm:Mv row w w') (hne:∀ x es,Own B 4 37 w x es→x.ownBlock=none∨x.ownBlock≠row):DelN B w' css0 css ds k :=
 ⟨h.len,fun i s hi hk=>let ⟨x,y,a,b,c⟩:=h.new i s hi hk;⟨x,y,a,b.mv hm (hne x _ b),c.mv hm (hne y _ c)⟩,h.old⟩
theorem DelN.step {ds:List DeltaR} (h:DelN B w css0 css ds k) (hk:k<ds.length) {x y:Value} (hx:Own B 4 37 w x (aF ds[k].gone)) (hy:Own B 4 37 w y (aF ds[k].new)) :
 DelN B w css0 (css.set k [.int .i64 ds[k].fr, .int .i64 ds[k].to,x,y]) ds (k+1):=by
 refine ⟨by rw [List.length_set,h.len],fun i s hi hik=>?_,fun i hi=>?_⟩
 ·by_cases e:k=i
  ·subst e;rw [List.getElem?_eq_getElem hk]at hi;cases hi
   exact ⟨x,y,List.getElem?_set_self (by rw [h.len];exact hk),hx,hy⟩
  ·obtain ⟨x,y,a,b⟩:=h.new i s hi aC;exact ⟨x,y,by rw [List.getElem?_set_ne e];exact a,b⟩
 ·rw [List.getElem?_set_ne aC];exact h.old i aC
def Keep (T:List TypeId) (w w':World):Prop:=∀ (c:Nat) (cs:Array Value) (t:TypeId) (fz:Nat×Nat),w.heap[c]? = some (.cells cs t fz)→t∉T→w'.heap[c]? = some (.cells cs t fz)
theorem Ext.keep (h:Ext w w') (T:List TypeId):Keep T w w':=fun c cs t fz hc _=>h.at hc
theorem Keep.trans {T:List TypeId} {a b c:World} (h:Keep T a b) (k:Keep T b c):Keep T a c:=fun i cs t fz hc ht=>k i cs t fz (h i cs t fz hc ht) ht
theorem Own.keep {T:List TypeId} (h:Own B k e w v es) (hk:Keep T w w') (he:e∉T):Own B k e w' v es:=by
 refine ⟨⟨h.row.1,?_⟩,h.2⟩;rcases h.row.2 with h1|⟨gg,cap,cur,fz,rfl,hb,hg,r⟩
 ·exact .inl h1
 ·exact .inr ⟨gg,cap,cur,fz,rfl,hb,hk _ _ _ _ hg he,r⟩
theorem OwnOff.keep {T:List TypeId} (h:OwnOff B k e w v es) (hk:Keep T w w') (he:e∉T):OwnOff B k e w' v es:=by
 refine ⟨h.row.imp id ?_,h.each⟩;rintro ⟨g,o,cap,cur,fz,rfl,hb,hg,r⟩;exact ⟨g,o,cap,cur,fz,rfl,hb,hk _ _ _ _ hg he,r⟩
theorem SetsV.keep {T:List TypeId} {l:List RSet} (h:SetsV B w v l) (hk:Keep T w w') (h1:136∉T) (h2:9∉T):SetsV B w' v l:=by
 obtain ⟨css,a,b⟩:=h;exact ⟨css,a.keep hk h1,b.len,fun i s hi=>let ⟨x,c,d⟩:=b.at' i s hi;⟨x,c,d.keep hk h2⟩⟩
end Go.Proofs.X
namespace Go.Proofs.X
open Go.RowKit
theorem OE {α:Type} (p:α→Bool) (l:List α):(∃ (k:Nat) (hk:k<l.length),oO p l=k∧p l[k]=true∧(l.take k).filter (fun s => !p s)=l.take k)∨(oO p l=-1∧l.filter (fun s => !p s)=l):=by
 unfold oO;cases h:l.findIdx? p with
 | none =>
  rw [List.findIdx?_eq_none_iff]at h;refine .inr ⟨rfl,?_⟩;rw [List.filter_eq_self];intro a ha;simp [h a ha]
 | some k =>
  rw [List.findIdx?_eq_some_iff_getElem]at h;obtain ⟨hk,h1,h2⟩:=h;refine .inl ⟨k,hk,rfl,h1,?_⟩;rw [List.filter_eq_self];intro a ha;obtain ⟨j,hj,rfl⟩:=List.mem_iff_getElem.1 ha;have hj':j<k:=by simp at hj;omega
  have:=h2 j hj';simp only [List.getElem_take]
  simpa using this
theorem SetsC.row {w:World} {css:List (List Value)} {l:List RSet} (h:SetsC w css l) {i:Nat} (hi:i<l.length):∃ x,css[i]? = some [aE l[i].name, .int .i64 l[i].kind, .int .i64 l[i].ttl,x]∧Sl 1 w x (aH l[i].data):=h.at' i _ (List.getElem?_eq_getElem hi)
theorem FG {B:Nat} (v:Value) (l:List RSet) (css:List (List Value)) (f:FuncId) (caps:Array Value) (p:RSet→Bool) (w0 w:World) (hx0:Ext w0 w) (hB:w0.heap.size≤B) (ho:Own B 4 136 w v css) (hc:SetsC w0 css l) (he:Enters Tryz.prog f) (hf:SetFn w0 f caps l p) :
 Calls Tryz.prog 108 #[v, .func (.func f) #[] caps] w fun e w'=>∃ v' css',e=.returned v'∧Own B 4 136 w' v' css'∧SetsC w0 css' (l.filter fun s => !p s)∧Ext w0 w':=by
 have hcl:=hc.len;have hsv:SetsAt w v l:=(hc.ext hx0).sets ho.sl;have hidx:=nH v l f caps p w hsv he (hf.ext hx0);go_enter Tryz.func108,Tryz.ntmps108
 refine_lift LZ ?_;intro _ _ _;refine cB hidx fun w1 x1=>?_;have ho1:=ho.ext x1;have hx1:=hx0.trans x1;rcases OE p l with ⟨k,hk,hi,hp,hfil⟩|⟨hi,hfil⟩
 ·rw [hi];rcases ho.form with ⟨rfl,hn⟩|⟨g,cap,rfl,hg,hb,hcap,hcm⟩
  ·rw [hn]at hcl;simp at hcl;omega
  ·refine_lift LZ fun _ _ _=>?_;go_loopw [5,6,7] (fun i j _ wr=>∃ (m n:Nat) (cs:List (List Value)),i=.int .i64 m∧j=.int .i64 n∧m<n∧n≤l.length∧cs.length=css.length∧Ext w0 wr∧Own B 4 136 wr (.slice (some ⟨g,0,none⟩) css.length cap) cs∧SetsC w0 (cs.take m) ((l.take n).filter fun s => !p s)∧cs.drop n=css.drop n) (fun _ j _ _=>l.length - (intOf j).toNat)
   case atStart =>
    refine ⟨k,k+1,css,rfl,by go_num,aC,aC,rfl,hx1,ho1,?_,rfl⟩;rw [List.take_succ_eq_append_getElem hk,List.filter_append,hfil];simp only [hp,Bool.not_true,List.filter_cons,Bool.false_eq_true,if_false,List.filter_nil,List.append_nil];exact hc.take k
   case round =>
    obtain ⟨m,n,cs,rfl,rfl,hmn,hnl,hlen,hx,hor,hkept,hrest⟩:=hrel;have hsl:=hor.sl;by_cases hlt:n<l.length
    ·obtain ⟨x,hcx,hdx⟩:=hc.row hlt;have hcs:cs[n]? = some [aE l[n].name, .int .i64 l[n].kind, .int .i64 l[n].ttl,x]:=by
      have:=congrArg (·[0]?) hrest;simp only [List.getElem?_drop,Nat.add_zero]at this;rw [this,hcx]
     have hel:=hsl.elem hcs;refine_lift JS ?_;intro _ _ _ _ _ _;refine dX (z:=gT) fun w2 x2 s2 h2=>?_;refine aB ?_;refine dL (v:=.agg #[aE l[n].name, .int .i64 l[n].kind, .int .i64 l[n].ttl,x]) h2 (gE rfl rfl rfl hdx.one) fun w3 p3=>?_;have x3:=cJ x2 p3;have h3:=aA (cs:=[aE l[n].name, .int .i64 l[n].kind, .int .i64 l[n].ttl,x]) p3.this;have hx3:=hx.trans x3;clear p3 h2 x2;refine_lift fN fun _ _=>?_;refine dW he rfl rfl rfl (hf _ (List.getElem_mem hlt) x _ hx3 (hdx.ext hx3)) ?_;rintro e w4 ⟨rfl,x4⟩;refine ⟨_,rfl,?_⟩;refine aB ?_;have hx4:=hx3.trans x4;have ho4:=hor.ext (x3.trans x4);have hs4:=ho4.sl;have h4:=h3.ext x4;have hst:(l.take (n+1)).filter (fun s => !p s)=(l.take n).filter (fun s => !p s)++if p l[n]=true then []else [l[n]]:=by
      rw [List.take_succ_eq_append_getElem hlt,List.filter_append];cases hq:p l[n]<;>simp [hq]
     clear hel hsl h3;cases hpn:p l[n] with
     | true =>
      rw [hpn,if_pos rfl,List.append_nil]at hst;refine_lift cL ?_;exact ⟨⟨m,n+1,cs,rfl,by go_num,aC,aC,hlen,hx4,ho4,by rw [hst];exact hkept,by rw [← List.drop_drop,hrest,List.drop_drop]⟩,by simp [intOf];omega⟩
     | false =>
      rw [hpn,if_neg aX]at hst;refine_lift fN fun _ _=>?_;refine zA (i:=m) (c:=.agg #[aE l[n].name, .int .i64 l[n].kind, .int .i64 l[n].ttl,x]) rfl rfl rfl ho4 aC (by simp [Value.cells]) (zDk:dG Tryz.prog 136 4=true) (gE rfl rfl rfl hdx.one) ?_;intro w5 o5 m5;have x5:Ext w0 w5:=ho4.mvx m5 hx4 hB;refine_lift cL ?_;refine ⟨⟨m+1,n+1,_,by go_num,by go_num,aC,aC,by rw [List.length_set];exact hlen,x5,o5,?_,?_⟩,by simp [intOf];omega⟩
      ·rw [hst];have e:(cs.set m [aE l[n].name, .int .i64 l[n].kind, .int .i64 l[n].ttl,x]).take (m+1)=cs.take m ++ [[aE l[n].name, .int .i64 l[n].kind, .int .i64 l[n].ttl,x]]:=by
        rw [List.take_succ_eq_append_getElem (by rw [List.length_set];omega),List.take_set_of_le (Nat.le_refl _)];simp
       exact e▸hkept.append (SetsC.one hdx)
      ·rw [List.drop_set_of_lt aC,← List.drop_drop,hrest,List.drop_drop]
    ·have:n=l.length:=aC;subst this;rw [List.take_length]at hkept;rw [← hlen]at hor;have hml:(cs.take m).length=m:=by rw [List.length_take];omega
     have hkl:=hkept.len;refine_lift LZ fun _ _ _=>?_;have e38:dD (.slice (some ⟨g,0,none⟩) css.length cap) 4 m cs.length=.slice (some ⟨g,m*4,none⟩) (cs.length - m) (cap - m):=by
      unfold dD;simp only [if_neg (show ¬ cap=m by omega)];simp [cY]
     refine zM (m:=m) (z:=gT) hor e38 aC ?_;intro w9 o9 m9;have x9:Ext w0 w9:=hor.mvx m9 hx hB;refine_lift fN fun _ _=>?_;refine aG (Runs.takeC (k:=4) (n:=m) (l:=css.length) (c:=cap) (ad:=some ⟨g,0,none⟩) rfl rfl aC zDk) ?_;refine aB ?_;refine_lift cL ?_;go_ret;have e41:Value.slice (if cap=0 then some (⟨g,0,none⟩:Addr)else Option.map (fun x:Addr=>x.add (0*4)) (some (⟨g,0,none⟩:Addr))) (m - 0) (cap - 0)=.slice (some ⟨g,0,none⟩) m cap:=by
      simp [cY]
     exact ⟨_,_,rfl,by rw [e41];exact o9,hkept,x9⟩
 ·rw [hi];refine_lift cL ?_;go_ret;exact ⟨_,_,rfl,ho1,by rw [hfil];exact hc,hx1⟩
variable {cs:Array Value} {held:Bool} {qt:Int} {ps rs:List (List UInt8×Nat)} {ls:List (List UInt8)} {css css0 es:List (List Value)} {d l m n o qn s t x y z:List UInt8} {B a b base c e fuel i j k p q:Nat} {fz:Nat×Nat} {row:Option Nat} {r u v:Value} {w w' w0 w1 w2:World}
section
variable {P:Program} {a:Act} {w:World} {d:Option Nat} {ty:TypeId} {ps:String} {af:Array Edge} {g:Option (Nat×Bool)}
theorem Runs.dropSU {t:TypeId} {x lo:Operand} {m:Nat} (hx:a.eval x=aE l) (h1:a.eval lo=.int .u8 (m:Nat)) (hm:m≤l.length) (ht:lJ P t=true) :
 Runs P (Oper.mk d (.slice t x (some lo) none none) ty ps af g) a w (aE (l.drop m)):=by
 constructor;simp [execOp,hx,h1,aE,Instr.sliceAt,Instr.slice,run_underlying (fJ ht),Instr.sliceBounds,Instr.sliceBound,asIntOf,fD,-ByteArray.size_data,hm,pC]
end
theorem uR (nm:List UInt8) (w:World):Calls Tryz.prog 50 #[aE nm] w (kZ w fun v w'=>Own w.heap.size 1 9 w' v (aH ((aM nm).getD []))):=by
 go_enter Tryz.func50,Tryz.ntmps50
 (repeat' first|((with_reducible refine aZ ?_);go_step)|((with_reducible refine aS ?_);first|refine dU ?_|(refine bG ?_ ?_<;>intro hc))|fail)
 refine fV (enters_of Tryz.func97 rfl rfl) rfl rfl (Ed nm _) ?_;intro v w1 x1 hv;cases hl:aM nm with
 | none =>
  rw [hl]at hv;subst hv
  (repeat' first|((with_reducible refine aZ ?_);go_step)|((with_reducible refine aS ?_);first|refine dU ?_|(refine bG ?_ ?_<;>intro hc))|fail)
  go_ret;exact ⟨_,rfl,x1,by rw [hl];exact Own.nil _ _ _ _⟩
 | some ls =>
  rw [hl]at hv;obtain ⟨s,rfl,hs⟩:=hv
  (repeat' first|((with_reducible refine aZ ?_);go_step)|((with_reducible refine aS ?_);first|refine dU ?_|(refine bG ?_ ?_<;>intro hc))|fail)
  go_ret;exact ⟨_,rfl,x1,by rw [hl];exact hs⟩
theorem RK {nm:List UInt8} {t:List (List UInt8)} (w:World) (h:aM nm=some (x::t)):Calls Tryz.prog 162 #[aE nm] w (bC w (.tuple #[aE (enc t), .int .i64 0])):=by
 obtain ⟨h1,h2,h3⟩:=fM h;have hx63:x.length≤63:=by simp [jB]at h1;omega
 have e:nm=UInt8.ofNat x.length::(x++enc t):=by rw [← h2];simp [enc]
 have hlen:0<nm.length:=by rw [e];simp
 have h0:nm.getD 0 0=UInt8.ofNat x.length:=by rw [e];rfl
 have hne:nm≠[]:=by intro e0;rw [e0]at hlen;cases hlen
 have hn0:(nm.getD 0 0).toNat=x.length:=by rw [h0];simp;omega
 have hdr:nm.drop (x.length+1)=enc t:=by rw [e];simp
 have hl:x.length+1≤nm.length:=by rw [e];simp
 have hsome:(aM nm).isSome=true:=by rw [h];rfl
 go_enter Tryz.func162,Tryz.ntmps162
 (repeat' first|((with_reducible refine aZ ?_);go_step)|((with_reducible refine aS ?_);first|refine dU ?_|(refine bG ?_ ?_<;>intro hc))|fail)
 refine bK (enters_of Tryz.func52 rfl rfl) rfl rfl (PO nm _) ?_;intro w1 x1;refine aB ?_;rw [if_pos hsome]
 (repeat' first|((with_reducible refine aZ ?_);go_step)|((with_reducible refine aS ?_);first|refine dU ?_|(refine bG ?_ ?_<;>intro hc))|fail)
 refine aG (Runs.dropSU (l:=nm) (m:=x.length+1) rfl ?_ hl zDk) ?_
 ·show Value.int .u8 (IntKind.wrap .u8 (((nm.getD 0 0).toNat:Nat)+1))=_;rw [hn0]
  congr 1
  simp only [IntKind.wrap,IntKind.bits,IntKind.signed];simp;omega
 ·refine aB ?_;rw [hdr]
  (repeat' first|((with_reducible refine aZ ?_);go_step)|((with_reducible refine aS ?_);first|refine dU ?_|(refine bG ?_ ?_<;>intro hc))|fail)
  go_ret2;exact ⟨rfl,x1⟩
def kK (r:Rec):Value:=.agg #[aE r.name, .int .i64 r.kind, .int .i64 r.ttl,aE r.data]
theorem vW {l:List RSet} (h:ZoneOk o l):∀ s∈l,s.data.length≤1000000:=fun s hs=>by
 have:=qX (h.may hs);omega
theorem mO {l:List RSet} (h:ZoneOk o l):∀ s∈l,∀ d∈s.data,d.length≤4611686018427387904:=fun s hs d hd=>by
 obtain ⟨i,hi,rfl⟩:=List.mem_iff_getElem.1 hd;have:=qR (KJ (h.may hs) hi);simp only at this;omega
theorem uS {l:List RSet} (h:ZoneOk o l):l.length≤200:=by
 have:=h.chk;unfold cU at this;split at this
 ·cases this
 ·omega
theorem RL (o:List UInt8) (v:Value) (l:List RSet) (w:World) (hv:SetsAt w v l) (hz:ZoneOk o l):Calls Tryz.prog 163 #[.agg #[aE o,v]] w (bC w (.tuple #[kK (gI o l), .int .i64 0])):=by
 have hb:=vW hz;have hd:=mO hz;have hzr:=qQ hz;obtain ⟨s,hf,hs,hn,hk,hdat,hpar,hlen⟩:=hz.soaSet;have hden:gI o l=⟨s.name,s.kind,min s.ttl (fO o l).minimum,qE o l⟩:=by rw [gI,hf,hn,hk];rfl
 go_enter Tryz.func163,Tryz.ntmps163
 repeat' (first|((with_reducible refine aZ ?_);go_step)|fail)
 refine mW (vs:=[aE o,v]) fun p w1 x1 hp=>?_;refine aB ?_;refine dX (z:=qU) fun w2 x2 s2 h2=>?_;refine aB ?_;have hx2:=x1.trans x2;have hp2:=hp.ext x2;have hv2:=hv.ext hx2
 (repeat' first|((with_reducible refine aZ ?_);go_step)|((with_reducible refine aS ?_);first|refine dU ?_|(refine bG ?_ ?_<;>intro hc))|fail)
 refine bK (enters_of Tryz.func205 rfl rfl) rfl rfl (Ck o v l _ hv2 hb hd) ?_;intro w3 x3;refine aB ?_;have h3:=x3.at h2;have hp3:=hp2.ext x3;have hv3:=hv2.ext x3;rw [hzr]
 (repeat' first|((with_reducible refine aZ ?_);go_step)|((with_reducible refine aS ?_);first|refine dU ?_|(refine bG ?_ ?_<;>intro hc))|fail)
 refine dX (z:=dE) fun w4 x4 s4 h4=>?_;refine aB ?_;refine dL (v:=.agg (fO o l).cells.toArray) h4 (AM _) fun w5 p5=>?_;have x5:=cJ x4 p5;have h5:=x5.at h3;have hs5:=aA (cs:=(fO o l).cells) p5.this;have hp5:=hp3.ext x5;have hv5:=hv3.ext x5;have hx5:=hx2.trans (x3.trans x5);clear p5 h4 x4
 (repeat' first|((with_reducible refine aZ ?_);go_step)|((with_reducible refine aS ?_);first|refine dU ?_|(refine bG ?_ ?_<;>intro hc))|fail)
 refine fV (enters_of Tryz.func59 rfl rfl) rfl rfl (Bs v l o 6 _ hv5 (fun s hs=>by have:=hb s hs;omega)) ?_;intro r6 w6 x6 hr6;rw [hf]at hr6;obtain ⟨y,rfl,oy⟩:=hr6;have h6:=x6.at h5;have hs6:=hs5.ext x6
 (repeat' first|((with_reducible refine aZ ?_);go_step)|((with_reducible refine aS ?_);first|refine dU ?_|(refine bG ?_ ?_<;>intro hc))|fail)
 refine dX (z:=gT) fun w7 x7 s7 h7=>?_;refine aB ?_;refine dL (v:=.agg #[aE s.name, .int .i64 s.kind, .int .i64 s.ttl,y]) h7 (gE rfl rfl rfl oy.one) fun w8 p8=>?_;have x8:=cJ x7 p8;have b8:w8.heap[w6.heap.size]? = some (.cells [aE s.name, .int .i64 s.kind, .int .i64 s.ttl,y].toArray 136 (0,0)):=p8.this;have hp8:=aA b8;have h8:=x8.at h6;have hs8:=hs6.ext x8;have hy8:=oy.sl.ext x8;have hx8:=hx5.trans (x6.trans x8);clear p8 h7 x7
 (repeat' first|((with_reducible refine aZ ?_);go_step)|((with_reducible refine aS ?_);first|refine dU ?_|(refine bG ?_ ?_<;>intro hc))|fail)
 refine fA 2 _ b8 rfl fun w9 p9=>?_;have b9:w9.heap[w6.heap.size]? = some (.cells [aE s.name, .int .i64 s.kind, .int .i64 (min s.ttl (fO o l).minimum),y].toArray 136 (0,0)):=p9.this;have z6:w.heap.size≤w6.heap.size:=(hx5.trans x6).size;have x9:=cJ hx8 p9;have zlt:w1.heap.size<w6.heap.size:=by
  have a1:=(Array.getElem?_eq_some_iff.1 h6).1;exact a1
 have h9:w9.heap[w1.heap.size]? = some (.cells qU.toArray 37 (0,0)):=(p9.other _ aC).trans h8;have hy9:=(eM (oy.ext x8) p9 b8).sl;have hp9:=aA b9;clear p9 b8 hp8 h8 hy8
 (repeat' first|((with_reducible refine aZ ?_);go_step)|((with_reducible refine aS ?_);first|refine dU ?_|(refine bG ?_ ?_<;>intro hc))|fail)
 refine oD (e:=136) (k:=4) (bytes:=56) (xs:=[.agg #[aE s.name, .int .i64 s.kind, .int .i64 (min s.ttl (fO o l).minimum),y]]) (by simp [Value.cells]) fun v10 w10 x10 _ sl10 _=>?_;refine aB ?_;have hs10:SetsAt w10 v10 [⟨s.name,s.kind,min s.ttl (fO o l).minimum,s.data⟩]:=(SetsC.one (s:=⟨s.name,s.kind,min s.ttl (fO o l).minimum,s.data⟩) (hy9.ext x10)).sets sl10
 (repeat' first|((with_reducible refine aZ ?_);go_step)|((with_reducible refine aS ?_);first|refine dU ?_|(refine bG ?_ ?_<;>intro hc))|fail)
 have hrec:bD [⟨s.name,s.kind,min s.ttl (fO o l).minimum,s.data⟩]=[gI o l]:=by rw [nI,hden,eK,hdat];rfl
 refine fV (enters_of Tryz.func103 rfl rfl) rfl rfl (Bt v10 _ _ hs10 (by rw [hrec];simp)) ?_;intro r11 w11 x11 o11;rw [hrec]at o11;refine aB ?_;have sl11:=o11.sl;have el11:=sl11.elem (i:=0) (e:=[aE (gI o l).name, .int .i64 (gI o l).kind, .int .i64 (gI o l).ttl,aE (gI o l).data]) rfl;have hl11:(aF [gI o l]).length=1:=rfl;have h11:=(x10.trans x11).at h9;have x911:=x9.trans (x10.trans x11)
 (repeat' first|((with_reducible refine aZ ?_);go_step)|((with_reducible refine aS ?_);first|refine dU ?_|(refine bG ?_ ?_<;>intro hc))|fail)
 refine dL (v:=kK (gI o l)) h11 (gE rfl rfl rfl rfl) fun w12 p12=>?_;have x12:=cJ x911 p12
 (repeat' first|((with_reducible refine aZ ?_);go_step)|((with_reducible refine aS ?_);first|refine dU ?_|(refine bG ?_ ?_<;>intro hc))|fail)
 refine uC (cs:=[aE (gI o l).name, .int .i64 (gI o l).kind, .int .i64 (gI o l).ttl,aE (gI o l).data]) p12.this ⟨rfl,x12⟩
theorem RM (k:Int) (d:List UInt8):(fold (aQ k d).1).length≤254:=by
 have h0:(fold []).length≤254:=jE [] rfl;unfold aQ;split
 ·exact h0
 ·split
  ·exact h0
  ·split
   ·exact h0
   ·rename_i n hn;unfold jR at hn;split at hn
    ·rename_i hh;cases hn
     exact jE _ hh.2
    ·cases hn
theorem AV {l:List RSet} {rs:List Rec} (h:k<rs.length):fW l (rs.take (k+1))=lZ l (fW l (rs.take k)) rs[k]:=by
 rw [List.take_succ_eq_append_getElem h,fW,List.foldl_append];rfl
theorem kM {l:List RSet} (hb:∀ s∈l,s.data.length≤20) (n:List UInt8) (k:Int):(gH (cK l n k)).length≤20:=by
 cases hf:cK l n k with
 | none=>simp [gH]
 | some s=>simp only [gH,eK,List.length_map];exact hb s (oN hf).1
theorem DY {l:List RSet} (hb:∀ s∈l,s.data.length≤20) (rs:List Rec):∀ k,k≤rs.length→(fW l (rs.take k)).2.length≤40*k
 | 0,_=>by simp [fW]
 | k+1,h=>by
   rw [AV h];have ih:=DY hb rs k aC;unfold lZ;split
   ·omega
   ·have a1:=kM hb (fold (aQ rs[k].kind rs[k].data).1) 1;have a2:=kM hb (fold (aQ rs[k].kind rs[k].data).1) 28;simp only [List.length_append];omega
def xN (ns:List (List UInt8)):List (Value×Value):=ns.map fun n=>(aE n, .bool true)
theorem RN {ns:List (List UInt8)} (h:(xN ns)[i]? = some (aE n,v)):n∈ns∧v=.bool true:=by
 rw [xN,List.getElem?_map]at h;cases hi:ns[i]? with
 | none=>rw [hi]at h;cases h
 | some m =>
  rw [hi]at h;simp only [Option.map_some,Option.some.injEq,Prod.mk.injEq,aE,Value.string.injEq,ByteArray.mk.injEq]at h;have:m=n:=by simpa using h.1
  exact ⟨this▸List.mem_of_getElem? hi,h.2.symm⟩
theorem VG {ns:List (List UInt8)} (h:∀ (i:Nat) (e:Value×Value),(xN ns)[i]? = some e→e.1≠aE n):n∉ns:=by
 intro hm;obtain ⟨i,hi,rfl⟩:=List.mem_iff_getElem.1 hm;exact h i (aE ns[i], .bool true) (by simp [xN,hi]) rfl
theorem XT:WideMaps.KeyLaw Tryz.prog 23:=WideMaps.string_law Tryz.underlying23
theorem VH (n:List UInt8) (hn:n.length≤1000000):∃ l,keyOf Tryz.prog 23 (aE n)=some l :=
 ⟨_,WideMaps.keyOf_string_mk Tryz.underlying23 (by rw [fD];unfold maxLen;omega)⟩
def uT (l:List RSet) (n:List UInt8) (j:Nat):List Rec:=((([1,28]:List Int).take j).map fun k=>gH (cK l n k)).flatten
theorem RO (l:List RSet) (n:List UInt8):uT l n 2=gH (cK l n 1)++gH (cK l n 28):=by simp [uT]
theorem MH (o:List UInt8) (v u:Value) (l:List RSet) (rs:List Rec) (w:World) (hv:SetsAt w v l) (hu:Sl 4 w u (aF rs)) (hz:ZoneOk o l) (hr:rs.length≤10000) (hd:∀ r∈rs,r.data.length≤9223372036854775807) :
 Calls Tryz.prog 55 #[.agg #[aE o,v],u] w (kZ w fun r w'=>Own w.heap.size 4 37 w' r (aF (KO l rs))):=by
 have hb20:∀ s∈l,s.data.length≤20:=fun s hs=>(qX (hz.may hs)).2;have hb:=vW hz;have hle:=aJ rs;go_enter Tryz.func55,Tryz.ntmps55
 refine_lift sF ?_;intro _ _ _;refine mW (vs:=[aE o,v]) fun p w1 x1 hp=>?_;refine aB ?_;refine_lift fN fun _ _=>?_;refine nD (kt:=23) rfl ?_;intro w2 x2 s2 hm2;refine aB ?_;refine_lift fN fun _ _=>?_;go_loopw [5,8,9,10,12,13,14,18] (fun out _ _ _ _ _ _ i wr=>∃ k:Nat,k≤rs.length∧i=.int .i64 k∧Ext w1 wr∧MapAt Tryz.prog 23 wr w1.heap.size (xN (fW l (rs.take k)).1)∧Own w1.heap.size 4 37 wr out (aF (fW l (rs.take k)).2)) (fun _ _ _ _ _ _ _ i _=>rs.length - (intOf i).toNat)
 case atStart=>exact ⟨0,Nat.zero_le _,rfl,x2,hm2,Own.nil _ _ _ _⟩
 case round =>
  obtain ⟨k,hk,rfl,hx,hm,ho⟩:=hrel;have hur:=(hu.ext x1).ext hx;by_cases hlt:k<rs.length
  ·have h4:=hur.elem (eX hlt);refine_lift JS ?_;intro _ _ _ _ _ _;refine dX (z:=qU) fun w3 x3 s3 h3=>?_;refine aB ?_;refine dL (v:=.agg #[aE rs[k].name, .int .i64 rs[k].kind, .int .i64 rs[k].ttl,aE rs[k].data]) h3 (gE rfl rfl rfl rfl) fun w4 p4=>?_;have x4:=cJ x3 p4;have h4':=aA (cs:=[aE rs[k].name, .int .i64 rs[k].kind, .int .i64 rs[k].ttl,aE rs[k].data]) p4.this;have hx4:=hx.trans x4;have hm4:=hm.at (fun o ho=>x4.at ho);have ho4:=ho.ext x4;clear p4 h3 x3;refine_lift fN fun _ _=>?_;refine cB (ZF rs[k].kind rs[k].data _ (hd _ (List.getElem_mem hlt))) fun w5 x5=>?_;have h5:=h4'.ext x5;refine_lift fN fun _ _=>?_;refine cB (vQ (aQ rs[k].kind rs[k].data).1 _) fun w6 x6=>?_;have h6:=h5.ext x6;have x46:=x5.trans x6;have hx6:=hx4.trans x46;have hm6:=hm4.at (fun o ho=>x46.at ho);have ho6:=ho4.ext x46;have hst:=AV (l:=l) hlt;have hlen:=RM rs[k].kind rs[k].data;have hol:=DY hb20 rs k hk;generalize hnn:fold (aQ rs[k].kind rs[k].data).1=n at *;by_cases hg:(aQ rs[k].kind rs[k].data).2=0∧AS rs[k].kind=true
   ·(repeat' first|((with_reducible refine aZ ?_);go_step)|((with_reducible refine aS ?_);first|refine dU ?_|(refine bG ?_ ?_<;>intro hc))|fail)
    all_goals first
     | (exfalso;clear hx hm ho hur h4 h4' h5 h6 hx4 hm4 ho4 hx6 hm6 ho6 hv hu hp hm2 hb hb20 hd hz hst;simp_all [AS];done)
     | skip
    all_goals
     obtain ⟨lx,hlx⟩:=VH n aC;have hzv:∀ w,(zeroValue 4).run Tryz.prog w=.ok (.bool false) w:=fun w=>by kernel_rfl
     obtain ⟨bv,bb,hrl,hcase⟩:=gM XT (zDk:eI Tryz.prog 210 23 4=true) hzv hm6 hlx false;simp only [Bool.false_eq_true,if_false]at hrl;refine cG rfl (Runs.lookup rfl rfl hrl) ?_;refine aB ?_;rcases hcase with ⟨i,hie,rfl⟩|⟨hno,rfl,rfl⟩
     ·obtain ⟨hin,rfl⟩:=RN hie;have hst':fW l (rs.take (k+1))=fW l (rs.take k):=by rw [hst,lZ,hnn,if_pos (.inr (.inr hin))]
      refine_lift cL ?_;exact ⟨⟨k+1,aC,by go_num,hx6,by rw [hst'];exact hm6,by rw [hst'];exact ho6⟩,by simp [intOf];omega⟩
     ·have hni:=VG hno;have hst':fW l (rs.take (k+1))=((fW l (rs.take k)).1 ++ [n],(fW l (rs.take k)).2++uT l n 2):=by
       rw [hst,lZ,hnn,if_neg (by rintro (h|h|h);exact h hg.1;rw [hg.2]at h;cases h;exact hni h),RO,List.append_assoc]
      refine_lift fN fun _ _=>?_;obtain ⟨w7,o7,hr7,p7,hm7⟩:=iZ XT (zDk:eI Tryz.prog 210 23 4=true) hm6 hlx (v:=.bool true) hno;refine eQ rfl rfl rfl rfl hr7 ?_;have hx7:=cJ hx6 p7;obtain ⟨es,ck,hme,_⟩:=hm6.out;have ho7:=ho6.mv p7.mv (.inr (ho6.neMap hme));have hm7':MapAt Tryz.prog 23 w7 w1.heap.size (xN ((fW l (rs.take k)).1 ++ [n])):=by simpa [xN]using hm7
      refine_lift fN fun _ _=>?_;refine oD (e:=3) (k:=1) (bytes:=8) (xs:=[.int .i64 1, .int .i64 28]) (by simp [Value.cells]) fun v8 w8 x8 _ sl8 o8=>?_;refine aB ?_;have o8':Own w1.heap.size 1 3 w8 v8 [[.int .i64 1],[.int .i64 28]]:=(show Own _ 1 3 w8 v8 [[.int .i64 1],[.int .i64 28]] from o8).weaken hx7.size;have hx8:=hx7.trans x8;have hm8:=hm7'.at (fun o ho=>x8.at ho);have ho8:=ho7.ext x8;have sl8':=o8'.sl;refine_lift cL ?_;clear sl8 sl8' hm7 hme o8 hm6 ho6 hx6 hm4 ho4 hm ho h4 h4' h5 h6 hrl hno;go_loopw [5,12,13,14,58] (fun out _ _ _ i wr=>∃ j:Nat,j≤2∧i=.int .i64 j∧Ext w1 wr∧MapAt Tryz.prog 23 wr w1.heap.size (xN ((fW l (rs.take k)).1 ++ [n]))∧Own w1.heap.size 4 37 wr out (aF ((fW l (rs.take k)).2++uT l n j))∧Own w1.heap.size 1 3 wr v8 [[.int .i64 1],[.int .i64 28]]) (fun _ _ _ _ i _=>2 - (intOf i).toNat)
      case atStart=>exact ⟨0,aC,rfl,hx8,hm8,by simpa [uT]using ho8,o8'⟩
      case round =>
       obtain ⟨j,hj,rfl,hxr,hmr,hor,h8r⟩:=hrel;have s8r:=h8r.sl;by_cases hj2:j<2
       ·obtain ⟨K,hK,hfam⟩:∃ K:Int,([[.int .i64 1],[.int .i64 28]]:List (List Value))[j]? = some [.int .i64 K]∧uT l n (j+1)=uT l n j++gH (cK l n K):=by
         rcases (show j=0∨j=1 by omega)with rfl|rfl
         ·exact ⟨1,rfl,by simp [uT]⟩
         ·exact ⟨28,rfl,by simp [uT]⟩
        have hel:=s8r.elem hK;have hpr:=hp.ext hxr;have hvr:=(hv.ext x1).ext hxr;have hfl:=kM hb20 n 1;have hfl2:(uT l n j).length≤40:=by
         rcases (show j=0∨j=1 by omega)with rfl|rfl
         ·simp [uT]
         ·simp [uT];omega
        have hfl3:=kM hb20 n K
        (repeat' first|((with_reducible refine aZ ?_);go_step)|((with_reducible refine aS ?_);first|refine dU ?_|(refine bG ?_ ?_<;>intro hc))|fail)
        rotate_left 1
        ·exfalso
         have hq:(([[.int .i64 1],[.int .i64 28]]:List (List Value)).length:Int)≤j:=by assumption
         simp at hq;omega
        refine gY (Bs v l n K _ hvr (fun s hs=>by have:=hb s hs;omega)) fun r9 w9 x9 hr9=>?_;obtain ⟨y9,rfl,hy9⟩:=uM hr9;clear hr9;refine_lift cL ?_;refine dX (z:=gT) fun w10 x10 s10 h10=>?_;refine aB ?_;refine dL (v:=.agg #[aE ((cK l n K).getD fH).name, .int .i64 ((cK l n K).getD fH).kind, .int .i64 ((cK l n K).getD fH).ttl,y9]) h10 (gE rfl rfl rfl hy9.one) fun w11 p11=>?_;have x11:=cJ x10 p11;have h11:=aA (cs:=[aE ((cK l n K).getD fH).name, .int .i64 ((cK l n K).getD fH).kind, .int .i64 ((cK l n K).getD fH).ttl,y9]) p11.this;have y11:=hy9.ext x11;have xr11:=x9.trans x11;have hx11:=hxr.trans xr11;have hm11:=hmr.at (fun o ho=>xr11.at ho);have ho11:=hor.ext xr11;have h8_11:=h8r.ext xr11;clear p11 h10 x10;cases hfs:(cK l n K).isSome with
        | false =>
         have e0:gH (cK l n K)=[]:=by
          cases hff:cK l n K with
          | none=>rfl
          | some s=>rw [hff]at hfs;cases hfs
         refine_lift yL fun _=>?_;exact ⟨⟨j+1,aC,by go_num,hx11,hm11,by rw [hfam,e0,List.append_nil];exact ho11,h8_11⟩,by simp [intOf];omega⟩
        | true =>
         refine_lift yL fun _=>?_;refine oD (e:=136) (k:=4) (bytes:=56) (xs:=[.agg #[aE ((cK l n K).getD fH).name, .int .i64 ((cK l n K).getD fH).kind, .int .i64 ((cK l n K).getD fH).ttl,y9]]) (by simp [Value.cells]) fun v12 w12 x12 _ sl12 _=>?_;refine aB ?_;have hs12:SetsAt w12 v12 [(cK l n K).getD fH]:=(SetsC.one (s:=(cK l n K).getD fH) (y11.ext x12)).sets sl12;refine_lift cL ?_;refine gY (Bt v12 _ _ hs12 (by rw [← nJ];omega)) fun r13 w13 x13 o13=>?_;rw [← nJ]at o13;refine aB ?_;have x1113:=x12.trans x13;have ho13:=ho11.ext x1113;have hx13:=hx11.trans x1113;refine bV (e:=37) (k:=4) rfl ho13 rfl o13.sl gN hx13.size (by rw [aJ,aJ,List.length_append];omega) ?_;intro v14 w14 o14 m14 _;refine aB ?_;have hx14:=ho13.mvx m14 hx13 (Nat.le_refl _);have hm13:=hm11.at (fun o ho=>x1113.at ho);obtain ⟨es',ck',hme',_⟩:=hm13.out;have hm14:=hm13.at (w':=w14) (fun o ho=>m14.at ho (fun e=>ho13.neMap hme' e.symm));have h8_13:=h8_11.ext x1113;have h8_14:=h8_13.mv m14 (h8_13.ne ho13 aK);have hrc:aF ((fW l (rs.take k)).2++uT l n j)++aF (gH (cK l n K))=aF ((fW l (rs.take k)).2++uT l n (j+1)):=by
          rw [hfam];simp [aF]
         rw [hrc]at o14;refine_lift cL ?_;exact ⟨⟨j+1,aC,by go_num,hx14,hm14,o14,h8_14⟩,by simp [intOf];omega⟩
       ·have:j=2:=aC;subst this;refine_lift yL fun _=>?_;exact ⟨⟨k+1,aC,by go_num,hxr,by rw [hst'];exact hmr,by rw [hst'];exact hor⟩,by simp [intOf];omega⟩
   ·have hst':fW l (rs.take (k+1))=fW l (rs.take k):=by
     rw [hst,lZ];rw [if_pos];by_cases h0:(aQ rs[k].kind rs[k].data).2=0
     ·exact .inr (.inl (by simpa [h0]using hg))
     ·exact .inl h0
    (repeat' first|((with_reducible refine aZ ?_);go_step)|((with_reducible refine aS ?_);first|refine dU ?_|(refine bG ?_ ?_<;>intro hc))|fail)
    all_goals first
     | (exfalso;clear hx hm ho hur h4 h4' h5 h6 hx4 hm4 ho4 hx6 hm6 ho6 hv hu hp hm2 hb hb20 hd hz hst hst';simp_all [AS];done)
     | exact ⟨⟨k+1,aC,by go_num,hx6,by rw [hst'];exact hm6,by rw [hst'];exact ho6⟩,by simp [intOf];omega⟩
  ·have:k=rs.length:=aC;subst this;rw [List.take_length]at ho;refine_lift yL fun _=>?_;go_ret;exact ⟨_,rfl,x1.trans hx,ho.weaken x1.size⟩
theorem VI (s:RSet) (u:Value) (w:World):Calls Tryz.prog 107 #[.agg #[aE s.name, .int .i64 s.kind, .int .i64 s.ttl,u]] w (bC w (.bool (fU s))):=by
 go_enter Tryz.func107,Tryz.ntmps107
 refine_lift mT fun _ _=>?_;refine mW (vs:=[aE s.name, .int .i64 s.kind, .int .i64 s.ttl,u]) fun ps w1 x1 hs=>?_;refine aB ?_;refine_lift cL ?_;go_ret;exact ⟨rfl,x1⟩
theorem VJ (pk:Value) (k:Int) (s:RSet) (u:Value) (w:World) (hk:Pts w pk [.int .i64 k]):Calls Tryz.prog 109 #[.agg #[aE s.name, .int .i64 s.kind, .int .i64 s.ttl,u],pk] w (bC w (.bool (!kJ k s))):=by
 go_enter Tryz.func109,Tryz.ntmps109
 refine_lift mT fun _ _=>?_;refine mW (vs:=[aE s.name, .int .i64 s.kind, .int .i64 s.ttl,u]) fun ps w1 x1 hs=>?_;refine aB ?_;refine_lift KB (fun hc=>?_) (fun hc=>?_)
 all_goals
  go_ret;refine ⟨?_,x1⟩;simp_all [kJ]
theorem Pts.take {p:Value} {vs:List Value} (h:Pts w p vs) (n:Nat):Pts w p (vs.take n):=by
 obtain ⟨b,o,e,hc⟩:=h;refine ⟨b,o,e,fun j x hx=>hc j x ?_⟩;rw [List.getElem?_take]at hx;split at hx
 ·exact hx
 ·cases hx
def qZ (o:List UInt8) (v:Value) (k:Int) (a u e:Value):List Value:=[aE o,v, .int .i64 k,a,u,e]
theorem lU {a e:Value} {k:Int} (h:w.heap[b]? = some (.cells (qZ o v k a u e).toArray 127 (0,0))) :
 Pts w (.pointer (some ⟨b,0,none⟩)) (qZ o v k a u e)∧Pts w (aV (.pointer (some ⟨b,0,none⟩)) 0) [aE o,v]∧Pts w (aV (.pointer (some ⟨b,0,none⟩)) 2) [.int .i64 k,a,u,e]:=by
 have hp:=aA h;exact ⟨hp,(hp.part 0).take 2,hp.part 2⟩
section
variable {P:Program} {w:World} {ts:List Value} {df:List Deferred} {d:Option Nat} {ty:TypeId} {ps:String} {af:Array Edge} {g:Option (Nat×Bool)}
theorem Runs.fieldA {s:TypeId} {m n off:Nat} {ad:Addr} (hx:ts.getD m undef=.pointer (some ad)) (hf:mY P s n off=true) :
 Runs P (Oper.mk d (.fieldAddr s (.tmp m) n) ty ps af g) (Act.mk ts.toArray df) w (aV (.pointer (some ad)) off):=by
 obtain ⟨fs,f,i,ht,hf,ho,hie,hz⟩:=lO hf;have hx':(Act.mk ts.toArray df).eval (.tmp m)=.pointer (some ad):=by rw [fY];exact hx
 constructor;simp [execOp,hx',Instr.fieldAt,Instr.sureAddr,run_underlying ht,hf,fieldPlace,sizeOf,typeInfo,hie,hz,aV,ho]
end
theorem IL (b:Nat) (o:List UInt8) (v:Value) (l:List RSet) (k0 kind:Int) (a:Value) (w0 w:World) (hx:Ext w0 w) (hv:SetsAt w0 v l) (hz:ZoneOk o l) (hbk:w0.heap.size≤b)
 (hb:w.heap[b]? = some (.cells (qZ o v k0 a (.slice none 0 0) (.slice none 0 0)).toArray 127 (0,0))) (ha:a.oneCell'=true) :
 Calls Tryz.prog 105 #[.pointer (some ⟨b,0,none⟩), .int .i64 kind] w fun e w'=>e=.returned (.tuple #[])∧Ext w0 w'∧Mv (some b) w w'∧∃ u,w'.heap[b]? = some (.cells (qZ o v kind a u (.slice none 0 0)).toArray 127 (0,0))∧Own w.heap.size 4 37 w' u (aF [gI o l]):=by
 obtain ⟨hp,hp0,hp2⟩:=lU hb;have hvw:=hv.ext hx;have hblt:=(Array.getElem?_eq_some_iff.1 hb).1;go_enter Tryz.func105,Tryz.ntmps105
 refine_lift LZ ?_;intro _ _ _;refine cB (RL o v l _ hvw hz) fun w1 x1=>?_;refine_lift cL ?_;refine dX (z:=qU) fun w2 x2 s2 h2=>?_;refine aB ?_;refine dL (v:=kK (gI o l)) h2 (gE rfl rfl rfl rfl) fun w3 p3=>?_;have x3:=cJ x2 p3;have h3:=aA (cs:=[aE (gI o l).name, .int .i64 (gI o l).kind, .int .i64 (gI o l).ttl,aE (gI o l).data]) p3.this;have x13:=x1.trans x3;have hb3:=x13.at hb;have h3b:w3.heap[w1.heap.size]? = some (.cells [aE (gI o l).name, .int .i64 (gI o l).kind, .int .i64 (gI o l).ttl,aE (gI o l).data].toArray 37 (0,0)):=p3.this;clear p3 h2 x2;have hzb:b≠w1.heap.size:=by have:=x1.size;omega
 refine_lift cL ?_;refine aO 12 (fun w'=>Pts w' (.pointer (some ⟨w1.heap.size,0,none⟩)) [aE (gI o l).name, .int .i64 (gI o l).kind, .int .i64 (gI o l).ttl,aE (gI o l).data]) zDk ?_;intro w4 x4 _;refine ⟨h3.ext x4,?_⟩;refine zG 0 ?_;refine zG 1 ?_;refine zG 2 ?_;refine oE (i:=3) (v:=kK (gI o l)) rfl rfl (fun w' hF=>by exact rn) ?_;refine aB ?_;refine ZA 5 ?_;refine yB (i:=6) rfl rfl (fun _=>Runs.fieldA (off:=2) rfl zDk) ?_;refine aB ?_;refine yB (i:=7) rfl rfl (fun _=>Runs.fieldA (off:=0) rfl zDk) ?_;refine aB ?_;have h4:=x4.at h3b;have hb4:=x4.at hb3;have x04:=x13.trans x4;refine ET (i:=4) (j:=8) zDk rfl rfl rfl ?_ ?_
 ·refine oD (e:=37) (k:=4) (bytes:=48) (xs:=[kK (gI o l)]) (by simp [Value.cells,kK]) fun u5 w5 x5 _ sl5 o5=>?_;refine aB ?_;have h5:=x5.at h4;have hb5:=x5.at hb4;refine aD ⟨aR (aA h5),?_⟩;refine dH 8 ?_;refine fA 2 _ hb5 rfl fun w6 p6=>?_;have h6:=p6.at h5 (fun e=>hzb e.symm);have hb6:w6.heap[b]? = some (.cells (qZ o v kind a (.slice none 0 0) (.slice none 0 0)).toArray 127 (0,0)):=p6.this;have o6:=(show Own _ 4 37 w5 u5 (aF [gI o l]) from o5).mv p6.mv (.inr (o5.neBlock hb5 aK));have m6:Mv (some b) w w6:=((x04.trans x5).mv _).trans p6.mv;have zz:=x04.size;refine aD ⟨aR (aA h6),?_⟩;refine ZA 9 ?_;refine yB (i:=10) rfl rfl (fun _=>Runs.fieldA (off:=2) rfl zDk) ?_;refine aB ?_;refine yB (i:=11) rfl rfl (fun _=>Runs.fieldA (off:=2) rfl zDk) ?_;refine aB ?_;refine dH 12 ?_;refine fA 4 _ hb6 o6.sl.one fun w7 p7=>?_;refine aD ⟨aN rfl,?_⟩;refine jP ?_;refine_lift cL ?_;have m7:Mv (some b) w w7:=m6.trans p7.mv;refine bodyPost_end (results_none rfl _ _ _) rfl ?_;exact ⟨rfl,hx.move m7 (by rintro k ⟨⟩;exact hbk),m7,_,p7.this,(eM o6 p7 hb6).weaken zz⟩
 ·refine fA 2 _ hb4 rfl fun w5 p5=>?_;have h5:=p5.at h4 (fun e=>hzb e.symm);have hb5:w5.heap[b]? = some (.cells (qZ o v kind a (.slice none 0 0) (.slice none 0 0)).toArray 127 (0,0)):=p5.this;refine aD ⟨aR (aA h5),?_⟩;refine dH 4 ?_;refine oD (e:=37) (k:=4) (bytes:=48) (xs:=[kK (gI o l)]) (by simp [Value.cells,kK]) fun u6 w6 x6 _ sl6 o6'=>?_;refine aB ?_;have h6:=x6.at h5;have hb6:=x6.at hb5;have o6:=(show Own _ 4 37 w6 u6 (aF [gI o l]) from o6');have m6:Mv (some b) w w6:=((x04.mv _).trans p5.mv).trans (x6.mv _);have zz:w.heap.size≤w5.heap.size:=Nat.le_trans x04.size (Nat.le_of_eq p5.size.symm);refine aD ⟨aR (aA h6),?_⟩;refine ZA 9 ?_;refine yB (i:=10) rfl rfl (fun _=>Runs.fieldA (off:=2) rfl zDk) ?_;refine aB ?_;refine yB (i:=11) rfl rfl (fun _=>Runs.fieldA (off:=2) rfl zDk) ?_;refine aB ?_;refine dH 12 ?_;refine fA 4 _ hb6 o6.sl.one fun w7 p7=>?_;refine aD ⟨aN rfl,?_⟩;refine jP ?_;refine_lift cL ?_;have m7:Mv (some b) w w7:=m6.trans p7.mv;refine bodyPost_end (results_none rfl _ _ _) rfl ?_;exact ⟨rfl,hx.move m7 (by rintro k ⟨⟩;exact hbk),m7,_,p7.this,(eM o6 p7 hb6).weaken zz⟩
theorem OF {l:List RSet} (h:ZoneOk o l):CA l []=true:=by
 obtain ⟨s,hs,h1,_⟩:=h.soaSet;have hm:=h.small h1;refine List.any_eq_true.2 ⟨s,h1,?_⟩;have ht:=nG (n:=s.name);rw [hm.2]at ht;obtain ⟨a,ha⟩:=Option.isSome_iff_exists.1 ht;have hr:dO []=some []:=rfl;rw [oM ha hr];simp
theorem KR {l:List RSet} (h:CA l (enc ls)=true):nU l ls=ls:=by
 cases ls with
 | nil=>rfl
 | cons x t=>rw [nU,if_pos h]
theorem RP {l:List RSet} {t:List (List UInt8)} (h:CA l (enc (x::t))=false):nU l (x::t)=nU l t:=by
 rw [nU,if_neg (by simp [h])]
theorem IM {l:List (List UInt8)}:∀ f∈aH l,∀ u∈f,u.oneCell'=true:=by
 intro f hf u hu;obtain ⟨r,_,rfl⟩:=List.mem_map.1 hf;simp only [List.mem_cons,List.not_mem_nil,or_false]at hu;subst hu;rfl
theorem RQ (x:List UInt8) (t:List (List UInt8)):(enc t).length<(enc (x::t)).length:=by simp [enc];omega
theorem ZQ (o:List UInt8) (v:Value) (l:List RSet) (n:List UInt8) (w0 w:World) (hx0:Ext w0 w) (hv0:SetsAt w0 v l) (hz:ZoneOk o l) (hn:(aM n).isSome=true) :
 Calls Tryz.prog 104 #[.agg #[aE o,v],aE n] w (kZ w fun r w'=>∃ u css,r=.tuple #[u, .bool (DW l n)]∧Own w.heap.size 4 136 w' u css∧SetsC w0 css (dZ l n)):=by
 have hv:=hv0.ext hx0;have hl:=uS hz;have hex:∀ (m:List UInt8) (w':World),SetsAt w' v l→Calls Tryz.prog 160 #[.agg #[aE o,v],aE m] w' (bC w' (.bool (CA l m))):=fun m w' h=>RE o v l m w' h;obtain ⟨ls0,hls0⟩:=Option.isSome_iff_exists.1 hn;obtain ⟨f1,f2,f3⟩:=fM hls0;go_enter Tryz.func104,Tryz.ntmps104
 refine_lift sF ?_;intro _ _ _;refine mW (vs:=[aE o,v]) fun p w1 x1 hp=>?_;refine aB ?_;have hv1:=hv.ext x1;refine_lift BW fun _ _ _ _=>?_;refine cB (hex n _ hv1) fun w2 x2=>?_;have hx2:=x1.trans x2;have hp2:=hp.ext x2;have hv2:=hv.ext hx2;cases hi:CA l n with
 | true =>
  refine_lift fN fun _ _=>?_;refine gY (Cs o v l n n w0 _ (hx0.trans hx2) hv0 aC) fun u w3 x3 ho=>?_;obtain ⟨css,ho,hc⟩:=ho;refine_lift cL ?_;go_ret2;exact ⟨_,rfl,hx2.trans x3,u,css,by rw [DW,hi];rfl,ho.weaken hx2.size,by rw [dZ,if_pos hi];exact hc⟩
 | false =>
  refine_lift fN fun _ _=>?_;go_loopw [6] (fun a wr=>∃ ls:List (List UInt8),a=aE (enc ls)∧Ext w2 wr∧ls.all jB=true∧(enc ls).length≤254∧nU l ls=nU l ls0) (fun a _=>EQ a)
  case atStart=>exact ⟨ls0,by rw [f2],Ext.refl _,f1,by rw [f2];exact f3,rfl⟩
  case round =>
   obtain ⟨ls,rfl,hx,g1,g2,g3⟩:=hrel;have hvr:=hv2.ext hx;have hpr:=hp2.ext hx;refine_lift Ec ?_;intro _ _ _ _ _;refine cB (hex (enc ls) _ hvr) fun w4 x4=>?_;have hx4:=hx.trans x4;cases hi4:CA l (enc ls) with
   | false =>
    cases ls with
    | nil=>rw [show enc []=[] from rfl,OF hz]at hi4;cases hi4
    | cons x t =>
     refine_lift cL ?_;refine cB (RK _ (sZ g1 g2)) fun w5 x5=>?_;refine_lift cL ?_;have ht:=RQ x t;exact ⟨⟨t,rfl,hx4.trans x5,by simp at g1;simp;exact g1.2,aC,by rw [← g3,RP hi4]⟩,by simp [yW];omega⟩
   | true =>
    have hab:nU l ls=ls:=KR hi4;rw [hab]at g3;have hp4:=hpr.ext x4;refine_lift fN fun _ _=>?_;refine oD (e:=9) (k:=1) (bytes:=16) (xs:=[aE [42]]) (by simp [aE,Value.cells]) fun v5 w5 x5 _ sl5 o5=>?_;refine aB ?_;refine_lift cL ?_;refine gY (uR (enc ls) _) fun v6 w6 x6 o6=>?_;rw [sZ g1 g2]at o6;refine aB ?_;have o5':=(show Own _ 1 9 w5 v5 (aH [[42]]) from o5).ext x6;have hlen:ls.length≤254:=by have:=kG ls;omega
    refine bV (e:=9) (k:=1) rfl o5' rfl o6.sl IM (Nat.le_trans x5.size x6.size) (by simp [aH];omega) ?_;intro v7 w7 o7 m7 _;refine aB ?_;have x7:=o5'.mvx m7 (x5.trans x6) (Nat.le_refl _);have hst:DV l n=(mV ([42]::ls)).getD []:=by rw [DV,hls0,Option.getD_some,← g3]
    have hv7:=(hvr.ext x4).ext x7;have hp7:=hp4.ext x7;have hx7:=hx2.trans (hx4.trans x7);refine_lift cL ?_;obtain ⟨e8,c8⟩:∃ e:Int,Calls Tryz.prog 101 #[v7] w7 (bC w7 (.tuple #[aE (DV l n), .int .i64 e])):=by
     have h:=Fi v7 ([42]::ls) w7 o7.sl (by simp;omega);rw [hst];cases hj:mV ([42]::ls) with
     | none=>rw [hj]at h;exact ⟨1,h⟩
     | some m=>rw [hj]at h;exact ⟨0,h⟩
    refine cB c8 fun w8 x8=>?_;have hv8:=hv7.ext x8;have hp8:=hp7.ext x8;have hx8:=hx7.trans x8;refine_lift fN fun _ _=>?_;refine gY (Cs o v l (DV l n) n w0 _ (hx0.trans hx8) hv0 aC) fun u w9 x9 ho=>?_;obtain ⟨css,ho,hc⟩:=ho;have su:=ho.sl;have hcl:=hc.len;refine_lift cL ?_;go_ret2;refine ⟨_,rfl,hx8.trans x9,u,css,?_,ho.weaken hx8.size,by rw [dZ,if_neg (by simp [hi])];exact hc⟩;rw [DW,hi,Bool.false_or,← hcl]
    congr 4
    simp
theorem IN (k:Int) (d:List UInt8):(aM (fold (aQ k d).1)).isSome=true:=by
 have h0:(aM (fold [])).isSome=true:=rfl;unfold aQ;split
 ·exact h0
 ·split
  ·exact h0
  ·split
   ·exact h0
   ·rename_i n hn;unfold jR at hn;split at hn
    ·rename_i hh;cases hn
     rw [qV];exact hh.2
    ·cases hn
theorem DZ (l:List RSet) (n:List UInt8):(dZ l n).length≤l.length:=by
 unfold dZ;split<;>exact RF _ _ _
theorem FH:∀ {L:List RSet},(∀ s∈L,s.data.length≤20)→(bD L).length≤20*L.length
 | [],_=>by simp [bD]
 | s::L,h=>by
   have e:bD (s::L)=eK s++bD L:=by simp [bD]
   have ih:=FH (L:=L) fun t ht=>h t (by simp [ht]);have:=h s aX;rw [e,List.length_append,eK,List.length_map,List.length_cons];omega
structure StepA (w0:World) (b:Nat) (o:List UInt8) (v:Value) (A:List Rec) (r:StepR) (w':World):Prop where
 ext:Ext w0 w'
 out:∃ a u,w'.heap[b]? = some (.cells (qZ o v r.kind a u (.slice none 0 0)).toArray 127 (0,0))∧Own w0.heap.size 4 37 w' a (aF (A++r.ans))∧Own w0.heap.size 4 37 w' u (aF r.auth)∧(r.more=true→u=.slice none 0 0)
theorem StepA.of {A:List Rec} {r:StepR} {a:Value} {cs:List Value} (hx:Ext w0 w1) (hm:Mv row w1 w') (hrow:row=some b) (hbk:w0.heap.size≤b)
 (hb1:w1.heap[b]? = some (.cells cs.toArray 127 (0,0))) (hb:w'.heap[b]? = some (.cells (qZ o v r.kind a u (.slice none 0 0)).toArray 127 (0,0))) (ha:Own w0.heap.size 4 37 w1 a (aF (A++r.ans))) (hu:Own w0.heap.size 4 37 w1 u (aF r.auth)) (hn:r.more=true→u=.slice none 0 0:=by (intro h;cases h)):StepA w0 b o v A r w':=by
 subst hrow;exact ⟨hx.move hm (by rintro k ⟨⟩;exact hbk),a,u,hb,ha.mv hm (.inr (ha.neBlock hb1 aK)),hu.mv hm (.inr (hu.neBlock hb1 aK)),hn⟩
theorem ZR (b:Nat) (o:List UInt8) (v:Value) (l:List RSet) (n:List UInt8) (k c:Int) (a:Value) (A:List Rec) (w0 w:World) (hx:Ext w0 w) (hv:SetsAt w0 v l) (hz:ZoneOk o l) (hbk:w0.heap.size≤b)
 (hb:w.heap[b]? = some (.cells (qZ o v 0 a (.slice none 0 0) (.slice none 0 0)).toArray 127 (0,0))) (ha:Own w0.heap.size 4 37 w a (aF A)) (hn:(aM n).isSome=true) (hA:A.length≤100000) :
 Calls Tryz.prog 54 #[.pointer (some ⟨b,0,none⟩),aE n, .int .i64 k, .int .i64 c] w fun e w'=>e=.returned (.tuple #[aE (cX o l n k c).next, .bool (cX o l n k c).more])∧StepA w0 b o v A (cX o l n k c) w':=by
 have hzb:=vW hz;have hzr:=qQ hz;have hblt:=(Array.getElem?_eq_some_iff.1 hb).1;go_enter Tryz.func54,Tryz.ntmps54
 refine_lift sF ?_;intro _ _ _;refine mW (vs:=[.int .i64 k]) fun pk w1 x1 hk=>?_;refine aB ?_;have hx1:=hx.trans x1;have hb1:=x1.at hb;obtain ⟨hp,hp0,hp2⟩:=lU hb1;have ha1:=ha.ext x1;have hv1:=hv.ext hx1;refine_lift BW fun _ _ _ _=>?_;refine cB (jI n o _) fun w2 x2=>?_;have hb2:=x2.at hb1;have hx2:=hx1.trans x2;have ha2:=ha1.ext x2;cases hu:bW n o with
 | false =>
  refine_lift PZ (fun _=>?_) (fun _ _ _=>?_)
  ·refine aG (Runs.fieldA (off:=2) rfl zDk) ?_;refine aB ?_;refine_lift cL ?_;refine fA 2 _ hb2 rfl fun w3 p3=>?_;refine_lift cL ?_;go_ret2;have hr:cX o l n k c=⟨4,[],[],[],false⟩:=by rw [cX,if_pos hu,if_pos ‹c=0›]
   rw [hr];exact ⟨rfl,StepA.of hx2 p3.mv rfl hbk hb2 p3.this (by rw [List.append_nil];exact ha2) (Own.nil _ _ _ _)⟩
  ·have hr:cX o l n k c=⟨0,[],[],[],false⟩:=by rw [cX,if_pos hu,if_neg ‹¬ c=0›]
   go_ret2;rw [hr];exact ⟨rfl,StepA.of hx2 (Mv.refl _ _) rfl hbk hb2 hb2 (by rw [List.append_nil];exact ha2) (Own.nil _ _ _ _)⟩
 | true =>
  have hu':¬ bW n o=false:=by simp [hu]
  refine_lift BW fun _ _ _ _=>?_;have c39:∀ w',SetsAt w' v l→Calls Tryz.prog 102 #[.agg #[aE o,v],aE n] w' (bC w' (.tuple #[aE (gU o l n).1, .bool (gU o l n).2])):=fun w' h=>by
   have:=Cj o v l n w' h hzb;rw [if_pos hzr,AH hz.chk]at this;exact this
  have hv2:=hv1.ext x2;refine cB (c39 _ hv2) fun w3 x3=>?_;have hb3:=x3.at hb2;have hx3:=hx2.trans x3;have ha3:=ha2.ext x3;have hv3:=hv2.ext x3;have hk3:=(hk.ext x2).ext x3;obtain ⟨qp,qp0,qp2⟩:=lU hb3;clear hp hp0 hp2;cases hc:(gU o l n).2 with
  | true =>
   refine_lift LZ fun _ _ _=>?_;refine gY (Bs v l (gU o l n).1 2 _ hv3 (fun s hs=>by have:=hzb s hs;omega)) fun r4 w4 x4 hr4=>?_;obtain ⟨y4,rfl,hy4⟩:=uM hr4;clear hr4;refine_lift cL ?_;refine dX (z:=gT) fun w5 x5 s5 h5=>?_;refine aB ?_;refine dL (v:=.agg #[aE ((cK l (gU o l n).1 2).getD fH).name, .int .i64 ((cK l (gU o l n).1 2).getD fH).kind, .int .i64 ((cK l (gU o l n).1 2).getD fH).ttl,y4]) h5 (gE rfl rfl rfl hy4.one) fun w6 p6=>?_;have x6:=cJ x5 p6;have h6:=aA (cs:=[aE ((cK l (gU o l n).1 2).getD fH).name, .int .i64 ((cK l (gU o l n).1 2).getD fH).kind, .int .i64 ((cK l (gU o l n).1 2).getD fH).ttl,y4]) p6.this;have x36:=x4.trans x6;have hx6:=hx3.trans x36;have hb6:=x36.at hb3;have ha6:=ha3.ext x36;have y6:=hy4.ext x6;clear p6 h5 x5;refine_lift fN fun _ _=>?_;refine oD (e:=136) (k:=4) (bytes:=56) (xs:=[.agg #[aE ((cK l (gU o l n).1 2).getD fH).name, .int .i64 ((cK l (gU o l n).1 2).getD fH).kind, .int .i64 ((cK l (gU o l n).1 2).getD fH).ttl,y4]]) (by simp [Value.cells]) fun v8 w8 x8 _ sl8 _=>?_;refine aB ?_;have hs8:SetsAt w8 v8 [(cK l (gU o l n).1 2).getD fH]:=(SetsC.one (s:=(cK l (gU o l n).1 2).getD fH) (y6.ext x8)).sets sl8;have hlen:(bD [(cK l (gU o l n).1 2).getD fH]).length≤1000000:=by
    rw [← nJ];have:=kM (fun s hs=>(qX (hz.may hs)).2) (gU o l n).1 2;omega
   refine_lift cL ?_;refine gY (Bt v8 _ _ hs8 hlen) fun r9 w9 x9 o9=>?_;rw [← nJ]at o9;refine aB ?_;have x69:=x8.trans x9;have hx9:=hx6.trans x69;have hb9:=x69.at hb6;have ha9:=ha6.ext x69;have zz:w0.heap.size≤w8.heap.size:=(hx6.trans x8).size;refine_lift cL ?_;refine aG (Runs.fieldA (off:=2) rfl zDk) ?_;refine aB ?_;refine_lift cL ?_;refine fA 2 _ hb9 rfl fun w10 p10=>?_;have hb10:w10.heap[b]? = some (.cells (qZ o v 3 a (.slice none 0 0) (.slice none 0 0)).toArray 127 (0,0)):=p10.this;obtain ⟨ap,ap0,ap2⟩:=lU hb10;refine_lift cL ?_;refine aG (Runs.fieldA (off:=2) rfl zDk) ?_;refine aB ?_;refine_lift cL ?_;refine fA 4 _ hb10 o9.sl.one fun w11 p11=>?_;refine_lift cL ?_;go_ret2;have hr:cX o l n k c=⟨3,[],gH (cK l (gU o l n).1 2),[],false⟩:=by rw [cX,if_neg hu',if_pos hc]
   rw [hr];exact ⟨rfl,StepA.of hx9 (p10.mv.trans p11.mv) rfl hbk hb9 p11.this (by rw [List.append_nil];exact ha9) (o9.weaken zz)⟩
  | false =>
   have hc':¬ (gU o l n).2=true:=by simp [hc]
   refine_lift LZ fun _ _ _=>?_;refine gY (ZQ o v l n w0 _ hx3 hv hz hn) fun r4 w4 x4 hr4=>?_;obtain ⟨u,css,rfl,ho,hcs⟩:=hr4;have hx4:=hx3.trans x4;have hb4:=x4.at hb3;have ha4:=ha3.ext x4;have hk4:=hk3.ext x4;have z34:=hx3.size;obtain ⟨sp,sp0,sp2⟩:=lU hb4;clear qp qp0 qp2;have hne:a.ownBlock≠some b:=ha4.neBlock hb4 aK;cases hsb:DW l n with
   | false =>
    refine_lift BW fun _ _ _ _=>?_;refine gS (IL b o v l 0 2 a w0 _ hx4 hv hz hbk hb4 ha4.sl.one) ?_;rintro e w5 ⟨rfl,x5,m5,u5,b5,o5⟩;refine ⟨_,rfl,?_⟩;refine aB ?_;refine_lift cL ?_;go_ret2;have hr:cX o l n k c=⟨2,[],[gI o l],[],false⟩:=by rw [cX,if_neg hu',if_neg hc',if_pos hsb]
    rw [hr];exact ⟨rfl,x5,a,u5,b5,by rw [List.append_nil];exact ha4.mv m5 (.inr hne),o5.weaken hx4.size,fun h=>by cases h⟩
   | true =>
    have hsb':¬ DW l n=false:=by simp [hsb]
    have hL:SetsAt w4 u (dZ l n):=(hcs.ext hx4).sets ho.sl;have hf1:SetFn w4 107 #[] (dZ l n) fU:=fun s _ x w' _ _=>VI s x w';have hcl:=hcs.len;have hl200:=uS hz;have hspl:=DZ l n;refine_lift BW fun _ _ _ _=>?_;refine cB (nH u (dZ l n) 107 #[] fU _ hL (enters_of Tryz.func107 rfl rfl) hf1) fun w5 x5=>?_;have hx5:=hx4.trans x5;have hb5:=x5.at hb4;have ha5:=ha4.ext x5;have ho5:=ho.ext x5;have hk5:=hk4.ext x5;by_cases hal:(dZ l n).any fU=true∧k≠5∧k≠255
    ·rcases oP fU (dZ l n)with ⟨i,hi,hidx,hpi,hfind⟩|⟨_,hno⟩
     ·rw [hidx];have hset:dT l n=(dZ l n)[i]:=by rw [dT,hfind];rfl
      obtain ⟨h51,h52⟩:=hal.2;have hcut:((dZ l n).take (i+1)).drop i=[dT l n]:=by
       rw [hset,List.take_succ_eq_append_getElem hi,List.drop_append];simp [Nat.min_eq_left (Nat.le_of_lt hi)]
      obtain ⟨x,hcx,hdx⟩:=hcs.row hi;rw [← hset]at hcx hdx;have hmem:dT l n∈dZ l n:=by rw [hset];exact List.getElem_mem hi
      obtain ⟨hrne,hd20,hd1⟩:=qY hz.chk hmem;have hsl5:=ho5.sl;have hdl:((dT l n).data.getD 0 []).length≤9223372036854775807:=by
       obtain ⟨t,ht,_,_,e3,_⟩:=pO hz.chk hmem;have:=mO hz t ht ((dT l n).data.getD 0 []) (by rw [e3,List.getD_eq_getElem?_getD,List.getElem?_eq_getElem (by rw [← e3];omega)];simp);omega
      have hd0:(aH (dT l n).data)[0]? = some [aE ((dT l n).data.getD 0 [])]:=pI _ _ _ (by rw [List.getD_eq_getElem?_getD,List.getElem?_eq_getElem aC];simp)
      (repeat' first|((with_reducible refine aZ ?_);go_step)|((with_reducible refine aS ?_);first|refine dU ?_|(refine bG ?_ ?_<;>intro hc))|fail)
      ·have hr:cX o l n k c=⟨0,[],[],[],false⟩:=by rw [cX,if_neg hu',if_neg hc',if_neg hsb',if_pos hal,if_pos ‹c=8›]
       go_ret2;rw [hr];exact ⟨rfl,StepA.of hx5 (Mv.refl _ _) rfl hbk hb5 hb5 (by rw [List.append_nil];exact ha5) (Own.nil _ _ _ _)⟩
      ·have hc8:=‹¬ c=8›;refine aO 12 (Ext w5) zDk ?_;intro w6 x6 _;refine ⟨x6,?_⟩;refine ZA 0 ?_;refine zG 1 ?_;refine zG 2 ?_;refine yB (i:=3) rfl rfl (fun _=>Runs.fieldA (off:=2) rfl zDk) ?_;refine aB ?_;refine zG 4 ?_;refine zG 5 ?_;refine zG 6 ?_;refine zG 7 ?_;refine zG 8 ?_;refine zG 9 ?_;refine oE (i:=10) (v:=dD u 4 i (i+1)) rfl rfl (fun w' hF=>Runs.cut (k:=4) (m:=i) (n:=i+1) (es:=css) rfl rfl (hsl5.ext hF) aC aC zDk) ?_;refine aB ?_;refine dH 11 ?_;have hs6:SetsAt w6 (dD u 4 i (i+1)) [dT l n]:=by
        have h1:=((hcs.ext (hx5.trans x6)).take (i+1)).drop i;rw [hcut]at h1;exact h1.sets ((hsl5.ext x6).cut aC aC)
       refine gY (Bt _ _ _ hs6 (by rw [nI,eK,List.length_map];omega)) fun r7 w7 x7 o7=>?_;rw [nI]at o7;refine aB ?_;have x57:=x6.trans x7;have hb7:=x57.at hb5;have ha7:=ha5.ext x57;refine aD ⟨aR x57,?_⟩;refine dH 12 ?_;refine bV (e:=37) (k:=4) rfl ha7 rfl o7.sl gN (hx5.trans x57).size (by rw [aJ,aJ,eK,List.length_map];omega) ?_;intro a8 w8 o8 m8 _;refine aB ?_;have hb8:=m8.at hb7 (fun e=>hne e.symm);have hx8:=ha7.mvx m8 (hx5.trans x57) (Nat.le_refl _);have ho7:=ho5.ext x57;have ho8:=ho7.mv m8 (ho7.ne ha7 aK);have hrc:aF A++aF (eK (dT l n))=aF (A++eK (dT l n)):=by simp [aF]
       rw [hrc]at o8;refine aD ⟨aN rfl,?_⟩;refine ZA 13 ?_;refine yB (i:=14) rfl rfl (fun _=>Runs.fieldA (off:=2) rfl zDk) ?_;refine aB ?_;refine yB (i:=15) rfl rfl (fun _=>Runs.fieldA (off:=1) rfl zDk) ?_;refine aB ?_;refine dH 16 ?_;refine fA 3 _ hb8 o8.sl.one fun w9 p9=>?_;refine aD ⟨aN rfl,?_⟩;refine jP ?_;have hb9:w9.heap[b]? = some (.cells (qZ o v 0 a8 (.slice none 0 0) (.slice none 0 0)).toArray 127 (0,0)):=p9.this;have hx9:=cJ hx8 p9;have ho9:=eM ho8 p9 hb8;have ha9:=eM o8 p9 hb8;have hs9:=ho9.sl;have el9:=hs9.elem hcx;have hd9:=hdx.ext hx9;have ed9:=hd9.elem hd0;have htl:=bH (dT l n).data;clear sp sp0 sp2 hsl5;refine_lift fN fun _ _=>?_;refine cB (ZF 5 ((dT l n).data.getD 0 []) _ hdl) fun w10 x10=>?_;refine_lift fN fun _ _=>?_;refine cB (vQ (aQ 5 ((dT l n).data.getD 0 [])).1 _) fun w11 x11=>?_;refine_lift cL ?_;go_ret2;have hr:cX o l n k c=⟨0,eK (dT l n),[],fold (aQ 5 ((dT l n).data.getD 0 [])).1,true⟩:=by rw [cX,if_neg hu',if_neg hc',if_neg hsb',if_pos hal,if_neg hc8]
       rw [hr];have x911:=x10.trans x11;exact ⟨rfl,hx9.trans x911,a8, .slice none 0 0,x911.at hb9,ha9.ext x911,Own.nil _ _ _ _,fun _=>rfl⟩
      all_goals
       exfalso
       first
        | (have hq:¬ (0:Int)≤(i:Int):=by assumption
           omega)
        | (have hq:(!decide (k=255))=false:=by assumption
           simp [h52]at hq)
        | (have hq:(!decide (k=5))=false:=by assumption
           simp [h51]at hq)
     ·rw [hno.1]at hal;cases hal.1
    ·have hf2:SetFn w1 109 #[pk] (dZ l n) (fun s => !kJ k s):=fun s _ x w' hx' _=>VJ pk k s x w' (hk.ext hx');have x15:Ext w1 w5:=x2.trans (x3.trans (x4.trans x5));have zb:w1.heap.size≤w3.heap.size:=(x2.trans x3).size;have hb5':=hb5;have hkk:(dZ l n).any fU=true→k=5∨k=255:=fun h=>by
      by_cases h5:k=5
      ·exact .inl h5
      ·by_cases h6:k=255
       ·exact .inr h6
       ·exact absurd ⟨h,h5,h6⟩ hal
     have hfe:(dZ l n).filter (fun s => !!kJ k s)=(dZ l n).filter (kJ k):=by simp only [Bool.not_not]
     have hMl:((dZ l n).filter (kJ k)).length≤200:=Nat.le_trans (List.length_filter_le _ _) aC;have hM20:=FH (L:=(dZ l n).filter (kJ k)) fun s hs=>(qY hz.chk (List.mem_filter.1 hs).1).2.1;have hany:oO fU (dZ l n)=-1∨∃ i:Nat,oO fU (dZ l n)=i∧(k=5∨k=255):=by
      rcases oP fU (dZ l n)with ⟨i,hi,hidx,hpi,hfind⟩|⟨hidx,hno⟩
      ·exact .inr ⟨i,hidx,hkk (List.any_eq_true.2 ⟨_,List.getElem_mem hi,hpi⟩)⟩
      ·exact .inl hidx
     obtain ⟨j,hj,hjk⟩:∃ j:Int,oO fU (dZ l n)=j∧(0≤j→k=5∨k=255):=by
      rcases hany with h|⟨i,h,h2⟩
      ·exact ⟨-1,h,aC⟩
      ·exact ⟨i,h,fun _=>h2⟩
     rw [hj];clear hany hj sp sp0 sp2
     (repeat' first|((with_reducible refine aZ ?_);go_step)|((with_reducible refine aS ?_);first|refine dU ?_|(refine bG ?_ ?_<;>intro hc))|fail)
     all_goals first
      | (exfalso
         have q1:(!decide (k=5))=true:=by assumption
         have q2:(!decide (k=255))=true:=by assumption
         have q3:0≤j:=by assumption
         simp at q1 q2;rcases hjk q3 with h|h
         ·exact q1 h
         ·exact q2 h)
      | skip
     all_goals
      refine gS (FG u (dZ l n) css 109 #[pk] (fun s => !kJ k s) w1 _ x15 zb ho5 (hcs.ext hx1) (enters_of Tryz.func109 rfl rfl) hf2) ?_;rintro e w6 ⟨v6,css6,rfl,o6,c6,x6⟩;refine ⟨_,rfl,?_⟩;refine aB ?_;rw [hfe]at c6;have hb6:=x6.at hb1;have ha6:=ha1.ext x6;have hx6:=hx1.trans x6;have hs6:=(c6.ext x6).sets o6.sl;have sl6:=o6.sl;have cl6:=c6.len;obtain ⟨rp,rp0,rp2⟩:=lU hb6;generalize hM:(dZ l n).filter (kJ k)=M at *;refine_lift fN fun _ _=>?_;refine aO 8 (Ext w6) zDk ?_;intro w7 x7 _;refine ⟨x7,?_⟩;refine ZA 0 ?_;refine zG 1 ?_;refine zG 2 ?_;refine yB (i:=3) rfl rfl (fun _=>Runs.fieldA (off:=2) rfl zDk) ?_;refine aB ?_;refine zG 4 ?_;refine zG 5 ?_;refine zG 6 ?_;refine dH 7 ?_;refine sC (Bt v6 M _ (hs6.ext x7) aC) fun r8 w8 x8 o8=>?_;have x68:=x7.trans x8;have hb8:=x68.at hb6;have ha8:=ha6.ext x68;refine aD ⟨aR x68,?_⟩;refine dH 8 ?_;refine bV (e:=37) (k:=4) rfl ha8 rfl o8.sl gN (hx6.trans x68).size (by rw [aJ,aJ];omega) ?_;intro a9 w9 o9 m9 _;refine aB ?_;have hb9:=m9.at hb8 (fun e=>hne e.symm);have hx9:=ha8.mvx m9 (hx6.trans x68) (Nat.le_refl _);have o69:=(o6.ext x68).mv m9 ((o6.ext x68).ne ha8 aK);have hrc:aF A++aF (bD M)=aF (A++bD M):=by simp [aF]
      rw [hrc]at o9;refine aD ⟨aN rfl,?_⟩;refine ZA 9 ?_;refine yB (i:=10) rfl rfl (fun _=>Runs.fieldA (off:=2) rfl zDk) ?_;refine aB ?_;refine yB (i:=11) rfl rfl (fun _=>Runs.fieldA (off:=1) rfl zDk) ?_;refine aB ?_;refine dH 12 ?_;refine fA 3 _ hb9 o9.sl.one fun w10 p10=>?_;refine aD ⟨aN rfl,?_⟩;refine jP ?_;have hb10:w10.heap[b]? = some (.cells (qZ o v 0 a9 (.slice none 0 0) (.slice none 0 0)).toArray 127 (0,0)):=p10.this;have hx10:=cJ hx9 p10;have ha10:=eM o9 p10 hb9;have o610:=eM o69 p10 hb9;have sl10:=o610.sl;clear rp rp0 rp2 sl6;refine_lift PZ (fun _=>?_) (fun _ _ _=>?_)
      ·have hl0:css6.length=0:=by have:=‹(css6.length:Int)=0›;omega
       have hM0:M=[]:=List.eq_nil_of_length_eq_zero aC;refine gS (IL b o v l 0 1 a9 w0 _ hx10 hv hz hbk hb10 ha10.sl.one) ?_;rintro e w11 ⟨rfl,x11,m11,u11,b11,o11⟩;refine ⟨_,rfl,?_⟩;refine aB ?_;refine_lift cL ?_;go_ret2;have hr:cX o l n k c=⟨1,[],[gI o l],[],false⟩:=by rw [cX,if_neg hu',if_neg hc',if_neg hsb',if_neg hal,hM,if_pos hM0]
       rw [hr];rw [hM0,show bD []=[] from rfl]at ha10;exact ⟨rfl,x11,a9,u11,b11,ha10.mv m11 (.inr (ha10.neBlock hb10 aK)),o11.weaken hx10.size,fun h=>by cases h⟩
      ·have hl0:css6.length≠0:=by have:=‹¬ (css6.length:Int)=0›;omega
       have hM0:M≠[]:=by rintro rfl;exact hl0 cl6
       go_ret2;have hr:cX o l n k c=⟨0,bD M,[],[],false⟩:=by rw [cX,if_neg hu',if_neg hc',if_neg hsb',if_neg hal,hM,if_neg hM0]
       rw [hr];exact ⟨rfl,hx10,a9, .slice none 0 0,hb10,ha10,Own.nil _ _ _ _,fun h=>by cases h⟩
def FromL (l:List RSet) (r:Rec):Prop:=∃ t∈l,r.data∈t.data
theorem FromL.opt {l:List RSet} {k:Int}:∀ r∈gH (cK l n k),FromL l r:=by
 intro r hr;cases hf:cK l n k with
 | none=>rw [hf]at hr;cases hr
 | some s =>
  rw [hf]at hr;obtain ⟨d,hd,rfl⟩:=List.mem_map.1 hr;exact ⟨s,(oN hf).1,hd⟩
theorem FromL.sets {l:List RSet} (h:cU l=0) {s:RSet} (hs:s∈dZ l n):∀ r∈eK s,FromL l r:=by
 intro r hr;obtain ⟨d,hd,rfl⟩:=List.mem_map.1 hr;obtain ⟨t,ht,_,_,e,_⟩:=pO h hs;exact ⟨t,ht,by rw [← e];exact hd⟩
theorem EA {l:List RSet} (h:cU l=0) (n:List UInt8) (k c:Int):(∀ r∈(cX o l n k c).ans,FromL l r)∧((cX o l n k c).kind=3→∀ r∈(cX o l n k c).auth,FromL l r):=by
 unfold cX;split
 ·exact ⟨aX,aX⟩
 ·split
  ·exact ⟨aX,fun _=>FromL.opt⟩
  ·split
   ·exact ⟨aX,aX⟩
   ·split
    ·rename_i h4;split
     ·exact ⟨aX,aX⟩
     ·exact ⟨FromL.sets h (rT h4.1).1,aX⟩
    ·split
     ·exact ⟨aX,aX⟩
     ·refine ⟨fun r hr=>?_,aX⟩;obtain ⟨s,hs,d,hd,rfl⟩:=xK hr;exact FromL.sets h (List.mem_filter.1 hs).1 _ (List.mem_map_of_mem hd)
theorem IP {l:List RSet} (h:cU l=0) (k:Int):∀ (f:Nat) (c:Int) (n:List UInt8),(∀ r∈(fT o l k f c n).ans,FromL l r)∧((fT o l k f c n).kind=3→∀ r∈(fT o l k f c n).auth,FromL l r)
 | 0,c,n=>by simp [fT]
 | f+1,c,n=>by
   rw [fT];split
   ·obtain ⟨h1,h2⟩:=IP h k f (c+1) (cX o l n k c).next;refine ⟨fun r hr=>?_,h2⟩;rcases List.mem_append.1 hr with hr|hr
    ·exact (EA h n k c).1 r hr
    ·exact h1 r hr
   ·exact EA h n k c
theorem EB {l:List RSet} (h:cU l=0) {k c:Int} (hm:(cX o l n k c).more=true) :
 (cX o l n k c).kind=0∧(cX o l n k c).auth=[]∧c≠8∧(aM (cX o l n k c).next).isSome=true∧(cX o l n k c).ans.length≤20:=by
 generalize hr:cX o l n k c=r at *;unfold cX at hr;split at hr
 ·subst hr;cases hm
 ·split at hr
  ·subst hr;cases hm
  ·split at hr
   ·subst hr;cases hm
   ·split at hr
    ·rename_i h4;split at hr
     ·subst hr;cases hm
     ·rename_i h5;subst hr;refine ⟨rfl,rfl,h5,IN _ _,?_⟩;simp only [eK,List.length_map];exact (qY h (rT h4.1).1).2.1
    ·split at hr<;>(subst hr;cases hm)
theorem IQ {l:List RSet} (h:cU l=0) (hl:l.length≤200) (n:List UInt8) (k c:Int):(cX o l n k c).ans.length≤4000∧(cX o l n k c).auth.length≤20:=by
 unfold cX;split
 ·simp
 ·split
  ·have:=kM (fun s hs=>(qX (DX h hs)).2) (gU o l n).1 2;exact ⟨aX,this⟩
  ·split
   ·simp
   ·split
    ·rename_i h4;split
     ·simp
     ·have:=(qY h (rT h4.1).1).2.1;simp only [eK,List.length_map];exact ⟨aC,aX⟩
    ·split
     ·simp
     ·have h1:=FH (L:=(dZ l n).filter (kJ k)) fun s hs=>(qY h (List.mem_filter.1 hs).1).2.1;have h2:=List.length_filter_le (kJ k) (dZ l n);have h3:=DZ l n;exact ⟨by simp only;omega,aX⟩
end Go.Proofs.X
