/- Laws and walks that the proof of the statement is made of (part 13). -/
import Derived.Test.YtdblpgbielpngaaGreatP12
set_option linter.unusedSimpArgs false
set_option linter.unusedVariables false
set_option maxRecDepth 100000
set_option maxHeartbeats 20000000
namespace Go.Proofs.X
open Go.RowKit
variable {cs:Array Value} {held:Bool} {qt:Int} {ps rs:List (List UInt8 × Nat)} {ls:List (List UInt8)} {css css0 es:List (List Value)} {d l m n o qn s t x y z:List UInt8} {B a b base c e fuel i j k p q:Nat} {fz:Nat × Nat} {row:Option Nat} {r u v:Value} {w w' w0 w1 w2:World}
theorem QK {k:Int} (hf:fits k d=true) (hk:qV k=true):(aQ k d).2=0:=by
 have h1:(k=2∨k=15)∨k=33:=by simpa [qV] using hk
 have h2:(aQ k d).2≠2:=by
  unfold fits at hf;rw [if_neg aE,if_neg aE,if_neg aE,if_neg aE] at hf
  simpa using hf
 have h3:¬ eL k < 0:=by
  unfold eL;rcases h1 with (rfl | rfl) | rfl <;> decide
 unfold aQ at *;rw [if_neg h3] at *;split at h2
 ·exact absurd rfl h2
 ·rename_i h4;rw [if_neg h4];split at h2
  ·exact absurd rfl h2
  ·rfl
theorem UI {s:RSet} (h:gV s=true) (hd:d ∈ s.data):fits s.kind d=true:=by
 obtain ⟨i,hi,he⟩:=List.mem_iff_getElem.1 hd;cases hb:lI s i with
 | true=>rw [rY hi hb] at h;cases h
 | false =>
  simp only [lI,Bool.or_eq_false_iff,decide_eq_false_iff_not,Decidable.not_not] at hb;have h1:=hb.1;rw [List.getD_eq_getElem?_getD,List.getElem?_eq_getElem hi,Option.getD_some,he] at h1;unfold aU at h1;split at h1
  ·cases h1
  ·split at h1
   ·cases h1
   ·rename_i h5;simp only [not_or,Bool.not_eq_false] at h5;exact h5.2.2.2.2.2
def FromK (l:List RSet) (r:Rec):Prop:=∃ t ∈ l,r.kind=t.kind∧r.data ∈ t.data
theorem FromK.opt {l:List RSet} {k:Int}:∀ r ∈ fJ (aY l n k),FromK l r:=by
 intro r hr;cases hf:aY l n k with
 | none=>rw [hf] at hr;cases hr
 | some s =>
  rw [hf] at hr;obtain ⟨d,hd,rfl⟩:=List.mem_map.1 hr;exact ⟨s,(kW hf).1,rfl,hd⟩
theorem FromK.sets {l:List RSet} (h:dB l=0) {s:RSet} (hs:s ∈ aW l n):∀ r ∈ bV s,FromK l r:=by
 intro r hr;obtain ⟨d,hd,rfl⟩:=List.mem_map.1 hr;obtain ⟨t,ht,e1,_,e,_⟩:=kY h hs;exact ⟨t,ht,e1,by rw [← e];exact hd⟩
theorem CU {l:List RSet} (h:dB l=0) (n:List UInt8) (k c:Int):(∀ r ∈ (bX o l n k c).ans,FromK l r)∧((bX o l n k c).kind=3→∀ r ∈ (bX o l n k c).auth,FromK l r):=by
 unfold bX;split
 ·exact ⟨bP,bP⟩
 ·split
  ·exact ⟨bP,fun _=>FromK.opt⟩
  ·split
   ·exact ⟨bP,bP⟩
   ·split
    ·rename_i h4;split
     ·exact ⟨bP,bP⟩
     ·exact ⟨FromK.sets h (pF h4.1).1,bP⟩
    ·split
     ·exact ⟨bP,bP⟩
     ·refine ⟨fun r hr => ?_,bP⟩;obtain ⟨s,hs,d,hd,rfl⟩:=oF hr;exact FromK.sets h (List.mem_filter.1 hs).1 _ (List.mem_map_of_mem hd)
theorem yI {l:List RSet} (h:dB l=0) (k:Int):∀ (f:Nat) (c:Int) (n:List UInt8),(∀ r ∈ (cX o l k f c n).ans,FromK l r)∧((cX o l k f c n).kind=3→∀ r ∈ (cX o l k f c n).auth,FromK l r)
 | 0,c,n=>by simp [cX]
 | f + 1,c,n=>by
   rw [cX];split
   ·obtain ⟨h1,h2⟩:=yI h k f (c + 1) (bX o l n k c).next;refine ⟨fun r hr => ?_,h2⟩;rcases List.mem_append.1 hr with hr | hr
    ·exact (CU h n k c).1 r hr
    ·exact h1 r hr
   ·exact CU h n k c
theorem kK {o:List UInt8} {l:List RSet} (h:dB l=0) (hl:l.length≤200) (k:Int):∀ (f:Nat) (c:Int) (n:List UInt8),(cX o l k f c n).ans.length≤20 * f + 4000∧(cX o l k f c n).auth.length≤20
 | 0,c,n=>by simp [cX]
 | f + 1,c,n=>by
   rw [cX];have hs:=KF (o:=o) h hl n k c;split
   ·rename_i hm;have hi:=kK h hl k f (c + 1) (bX o l n k c).next (o:=o);have h5:=(FK h hm).2.2.2.2;simp only [List.length_append];omega
   ·omega
theorem iJ {l:List RSet} (hz:ZoneOk o l) (k:Int) (f:Nat) (c:Int) (n:List UInt8):∀ r ∈ pK (cX o l k f c n).kind (cX o l k f c n).ans (cX o l k f c n).auth,r.data.length≤4611686018427387904∧(qV r.kind=true→(aQ r.kind r.data).2=0):=by
 intro r hr;obtain ⟨h1,h2⟩:=yI (o:=o) hz.chk k f c n;have hk:FromK l r:=by
  rcases List.mem_append.1 hr with hr | hr
  ·exact h1 r hr
  ·split at hr
   ·exact h2 ‹_› r hr
   ·cases hr
 obtain ⟨t,ht,e1,hd⟩:=hk;have hm:=hz.may ht;refine ⟨?_,fun h => ?_⟩
 ·have:=gN hz t ht _ hd;omega
 ·exact QK (by rw [e1];exact UI hm hd) h
section
variable {P:Program} {ops:Array Oper} {Q Q':Exit→Act→World→Prop}
theorem QL {o:Oper} {a:Act} {next next':Act→World→Prop} (hn:∀ a w,next a w→next' a w) (hq:∀ e a w,Q e a w→Q' e a w) {r:Result Next} (h:o.upon P a next Q r):o.upon P a next' Q' r:=by
 cases r with
 | ok n w' =>
  cases n <;> simp only [Oper.upon] at h ⊢ <;>
   first
    | exact hn _ _ h
    | exact Calls.mono h (fun e w'' he=>by cases e <;> first | exact hn _ _ he | exact hq _ _ _ he | exact (let ⟨a,w,q⟩:=he;⟨a,w,hq _ _ _ q⟩))
    | exact Rows.mono h (fun _ _ he=>hn _ _ he)
 | halt x w'=>cases x <;> simp only [Oper.upon] at h ⊢ <;> exact hq _ _ _ h
theorem sO (hq:∀ e a w,Q e a w→Q' e a w):∀ (rest:List Oper) (a:Act) (w:World),wpList P ops Q rest a w→wpList P ops Q' rest a w
 | [],a,w,h=>hq _ _ _ h
 | o :: rest,a,w,h=>by
   unfold wpList at h ⊢;split
   ·rename_i c;rw [if_pos c] at h;rcases h with h | ⟨h1,h2⟩
    ·exact .inl (QL (fun a w hh=>sO hq rest a w hh) hq h)
    ·exact .inr ⟨h1,let ⟨a,w,q⟩:=h2;⟨a,w,hq _ _ _ q⟩⟩
   ·rename_i c;rw [if_neg c] at h;exact sO hq rest _ _ h
theorem oH {J:Act→World→Prop} {rest:List Oper} {a:Act} (h:wpList P ops (fun e a w=>(e=.normal∧J a w)∨(e≠.normal∧Q e a w)) rest a w) (k:∀ a w,J a w→Q .normal a w):wpList P ops Q rest a w:=by
 refine sO (fun e a w hh => ?_) rest a w h;rcases hh with ⟨rfl,hh⟩ | ⟨_,hh⟩
 ·exact k a w hh
 ·exact hh
end
theorem iG {α:Type} {l:List α} {n:Nat} (h:l.length=n) (d:α):l=(List.range n).map fun i=>l.getD i d:=by
 apply List.ext_getElem?;intro i;by_cases hi:i < n
 ·rw [List.getElem?_eq_getElem aE,List.getElem?_map,List.getElem?_range hi];simp [List.getD_eq_getElem?_getD,List.getElem?_eq_getElem (show i < l.length by omega)]
 ·rw [List.getElem?_eq_none aE,List.getElem?_eq_none (by simp;omega)]
theorem AE {P:Program} {c:Code} {K K1:Act→World→Prop} {Q' R:Exit→Act→World→Prop} (J:Act→World→Prop) {a:Act} (hK:∀ a w,c.wp P (Exit.then K1 Q') a w→K a w) (h:c.wp P (fun e a w=>e=.normal∧J a w) a w) (k:∀ a w,J a w→K1 a w):Exit.then K R .normal a w :=
 hK _ _ (Code.wp_mono (fun e a w ⟨he,hj⟩=>by subst he;exact k a w hj) h)
theorem FX {l:List RSet} {kq:Int} (h:dB l=0) (hl:(aW l n).length≤200) (j:Nat):(aO (((aW l n).take j).filter (bN kq))).length≤4000:=by
 have h1:(((aW l n).take j).filter (bN kq)).length≤200:=Nat.le_trans (List.length_filter_le _ _) (by rw [List.length_take];omega);have h2:=sZ (L:=((aW l n).take j).filter (bN kq)) fun s hs=>(gI h (List.mem_of_mem_take (List.mem_filter.1 hs).1)).2.1;omega
theorem mY {L:List RSet} {kq:Int} (h:j < L.length):(L.take (j + 1)).any (bN kq)=((L.take j).any (bN kq) || bN kq L[j]):=by
 rw [List.take_succ_eq_append_getElem h,List.any_append];simp
theorem tH {L:List RSet} {kq:Int} (h:j < L.length) (hk:bN kq L[j]=true):aO ((L.take (j + 1)).filter (bN kq))=aO ((L.take j).filter (bN kq)) ++ bV L[j]:=by
 rw [List.take_succ_eq_append_getElem h,List.filter_append];simp [hk,aO]
theorem LB {L:List RSet} {kq:Int} (h:j < L.length) (hk:bN kq L[j]=false):(L.take (j + 1)).filter (bN kq)=(L.take j).filter (bN kq):=by
 rw [List.take_succ_eq_append_getElem h,List.filter_append];simp [hk]
theorem AF {α:Type} {L:List α} (h:j < L.length):(L.take (j + 1)).drop j=[L[j]]:=by
 rw [List.take_succ_eq_append_getElem h,List.drop_append_of_le_length (by rw [List.length_take];omega),List.drop_of_length_le (by rw [List.length_take];omega)];rfl
theorem UJ {o:Option RSet} (h:match o with
 | some s=>∃ x,r=.tuple #[.agg #[aI s.name, .int .i64 s.kind, .int .i64 s.ttl,x], .bool true]∧Own w.heap.size 1 9 w' x (aK s.data)
 | none=>r=.tuple #[.agg iP.toArray, .bool false]):∃ x,r=.tuple #[.agg #[aI (o.getD bW).name, .int .i64 (o.getD bW).kind, .int .i64 (o.getD bW).ttl,x], .bool o.isSome]∧Own w.heap.size 1 9 w' x (aK (o.getD bW).data):=by
 cases o with
 | none=>exact ⟨.slice none 0 0,h,Own.nil _ _ _ _⟩
 | some s=>exact h
theorem ZC (o:List UInt8) (v:Value) (l:List RSet) (q:List UInt8) (kq:Int) (w:World) (hv:SetsAt w v l) (hb:∀ s ∈ l,s.data.length≤1000000) (hd:∀ s ∈ l,∀ d ∈ s.data,d.length≤4611686018427387904) :
 Calls Tryz.prog 58 #[.agg #[aI o,v], .agg #[aI q, .int .i64 kq]] w (oQ w fun r w'=>∃ y,r=.tuple #[y, .int .i64 (nW o l q)]∧AnsO w.heap.size (rB o l q kq) y w'):=by
 go_enter Tryz.func58,Tryz.ntmps58
 refine_lift DF ?_;intro _ _ _;refine kN (vs:=[aI o,v]) fun p w1 x1 hp => ?_;refine aD ?_;refine kN (vs:=[aI q, .int .i64 kq]) fun pq w2 x2 hq => ?_;refine aD ?_;refine fO (z:=mO) fun w3 x3 s3 h3 => ?_;refine aD ?_;have hx3:=x1.trans (x2.trans x3);have hp3:=hp.ext (x2.trans x3);have hq3:=hq.ext x3;have hv3:=hv.ext hx3;have z2:=(x1.trans x2).size;generalize w2.heap.size=AB at *;refine_lift cC fun _ _ => ?_;refine cY (BO o v l _ hv3 hb hd) fun w4 x4 => ?_;have h4:=x4.at h3;have hx4:=hx3.trans x4;have hp4:=hp3.ext x4;have hq4:=hq3.ext x4;have hv4:=hv3.ext x4;have ret0:∀ e:Int,e≠0→nW o l q=e→rB o l q kq=NP:=fun e he h=>by rw [rB,if_pos (by rw [h];exact he)]
 refine_lift XZ (fun _ _ _ _ _ => ?_) (fun _ _ _ _ _ => ?_)
 ·have q1:¬ cB o l=0:=by simpa using (by assumption:(!decide (cB o l=0))=true)
  have hE:nW o l q=cB o l:=by rw [nW,if_pos q1]
  refine bZ (v:=.agg mO.toArray) rfl (Runs.build0 (by kernel_rfl)) ?_;refine aD ?_;refine_lift aX ?_;refine dS (v:=.agg mO.toArray) h4 aR fun w5 p5 => ?_;refine_lift aX ?_;refine nH (cs:=mO) p5.this ⟨_,rfl,hx4.move p5.mv (by rintro k ⟨⟩;exact z2),?_⟩;rw [ret0 _ q1 hE,hE];exact ⟨_,rfl,AnsO.zero _ _⟩
 have q1:cB o l=0:=by simpa using (by assumption:(!decide (cB o l=0))=false)
 refine cY (FO q _) fun w5 x5 => ?_;have h5:=x5.at h4;have hx5:=hx4.trans x5;have hp5:=hp4.ext x5;have hq5:=hq4.ext x5;have hv5:=hv4.ext x5;have hE:nW o l q=dW q:=by rw [nW,if_neg (by simp [q1])]
 refine_lift rT (fun _ _ _ => ?_) (fun _ _ _ => ?_)
 ·have q2:¬ dW q=0:=by simpa using (by assumption:(!decide (dW q=0))=true)
  have q3:dW q=1:=by
   unfold dW at q2 ⊢;split at q2
   ·exact absurd rfl q2
   ·rw [if_neg ‹_›]
  refine bZ (v:=.agg mO.toArray) rfl (Runs.build0 (by kernel_rfl)) ?_;refine aD ?_;refine_lift aX ?_;refine dS (v:=.agg mO.toArray) h5 aR fun w6 p6 => ?_;refine_lift aX ?_;refine nH (cs:=mO) p6.this ⟨_,rfl,hx5.move p6.mv (by rintro k ⟨⟩;exact z2),?_⟩;rw [ret0 _ q2 hE,hE,q3];exact ⟨_,rfl,AnsO.zero _ _⟩
 have q2:dW q=0:=by simpa using (by assumption:(!decide (dW q=0))=false)
 have hz:=kI q1;have hl200:=wI hz;have hA:rB o l q kq=⟨(cX o l kq 9 0 (fold q)).kind,(cX o l kq 9 0 (fold q)).ans,(cX o l kq 9 0 (fold q)).auth,xU l (pK (cX o l kq 9 0 (fold q)).kind (cX o l kq 9 0 (fold q)).ans (cX o l kq 9 0 (fold q)).auth)⟩:=by rw [rB,if_neg (by rw [hE];simp [q2])];rfl
 have hlq:(aP (fold q)).isSome=true:=by
  rw [sG];unfold dW at q2;split at q2
  ·assumption
  ·cases q2
 rw [q2] at hE;clear ret0;refine cY (QJ o v l _ hv5 hz) fun w6 x6 => ?_;refine_lift aX ?_;refine fO (z:=PM) fun w7 x7 s7 h7 => ?_;refine aD ?_;refine dS (v:=oM (eG o l)) h7 (fI rfl rfl rfl rfl) fun w8 p8 => ?_;have x8:=cH x7 p8;have b8:w8.heap[w6.heap.size]? = some (.cells [aI (eG o l).name, .int .i64 (eG o l).kind, .int .i64 (eG o l).ttl,aI (eG o l).data].toArray 67 (0,0)):=p8.this;have hd8:=aA b8;have zD:=(Array.getElem?_eq_some_iff.1 b8).1;have x58:=x6.trans x8;have h8:=x58.at h5;have hx8:=hx5.trans x58;have hp8:=hp5.ext x58;have hq8:=hq5.ext x58;have hv8:=hv5.ext x58;clear p8 h7 x7;generalize w6.heap.size=DB at *;refine_lift cC fun _ _ => ?_;refine bZ (v:=.agg mO.toArray) rfl (Runs.build0 (by kernel_rfl)) ?_;refine aD ?_;refine_lift aX ?_;refine fO (z:=mO) fun w9 x9 s9 h9 => ?_;refine aD ?_;refine dS (v:=.agg mO.toArray) h9 aR fun w10 p10 => ?_;have x10:=cH x9 p10;have b10:w10.heap[w8.heap.size]? = some (.cells mO.toArray 112 (0,0)):=p10.this;have h10:=x10.at h8;have hx10:=hx8.trans x10;have hp10:=hp8.ext x10;have hq10:=hq8.ext x10;have hv10:=hv8.ext x10;have hd10:=hd8.ext x10;clear p10 h9 x9;refine_lift cC fun _ _ => ?_;refine cY (mI q _) fun w11 x11 => ?_;have x811:=x10.trans x11;have b11:=x11.at b10;refine_lift cC fun _ _ => ?_;go_loopw [10,11,12,13,16,17,18] (fun nv iv _ _ _ _ _ wr=>∃ (c:Nat) (n:List UInt8) (a:Value) (A:List Rec),nv=aI n∧iv=.int .i64 c∧c≤8∧Ext w8 wr∧wr.heap[w8.heap.size]? = some (.cells [.int .i64 0,a, .slice none 0 0, .slice none 0 0].toArray 112 (0,0))∧Own w8.heap.size 4 67 wr a (aJ A)∧(aP n).isSome=true∧A.length≤20 * c ∧
     (cX o l kq 9 0 (fold q)).kind=(cX o l kq (9 - c) c n).kind∧(cX o l kq 9 0 (fold q)).ans=A ++ (cX o l kq (9 - c) c n).ans∧(cX o l kq 9 0 (fold q)).auth=(cX o l kq (9 - c) c n).auth) (fun _ iv _ _ _ _ _ _=>9 - (intOf iv).toNat)
 case atStart=>exact ⟨0,fold q, .slice none 0 0,[],rfl,rfl,aE,x811,b11,Own.nil _ _ _ _,hlq,bP,rfl,rfl,rfl⟩
 case round =>
  obtain ⟨c,n,a,A,rfl,rfl,hc,hx,hbr,oa,hln,hAl,e1,e2,e3⟩:=hrel;have hqr:=hq8.ext hx;have hpr:=hp8.ext hx;have hvr:=hv8.ext hx;have qbr:=aA (cs:=[.int .i64 0,a, .slice none 0 0, .slice none 0 0]) hbr;have hne:a.ownBlock≠some w8.heap.size:=oa.neBlock hbr bG;have eu:cX o l kq (9 - c) c n=if (bX o l n kq c).more=true then
   ⟨(cX o l kq (8 - c) (c + 1) (bX o l n kq c).next).kind,(bX o l n kq c).ans ++ (cX o l kq (8 - c) (c + 1) (bX o l n kq c).next).ans,(cX o l kq (8 - c) (c + 1) (bX o l n kq c).next).auth,[],false⟩
   else bX o l n kq c:=by rw [show 9 - c=(8 - c) + 1 by omega,cX]
  rw [eu] at e1 e2 e3;clear eu
  (repeat' first | ((with_reducible refine cQ ?_);go_step) | ((with_reducible refine bM ?_);first | refine gR ?_ | (refine cV ?_ ?_ <;> intro hc)) | fail)
  refine cY (oY n o _) fun w2 x2 => ?_;have y2:=hx.trans x2;have bb2:=x2.at hbr;have oa2:=oa.ext x2;have qb2:=qbr.ext x2;have hv2:=hvr.ext x2;cases hu:bO n o with
  | false =>
   refine_lift rT (fun _ _ _ => ?_) (fun _ _ _ => ?_)
   ·have hc0:(c:Int)=0:=by assumption
    refine eS 0 _ bb2 rfl fun w3 p3 => ?_;have bb3:w3.heap[w8.heap.size]? = some (.cells [.int .i64 4,a, .slice none 0 0, .slice none 0 0].toArray 112 (0,0)):=p3.this;have y3:=cH y2 p3;have oa3:=oa2.mv p3.mv (.inr hne);have hr:bX o l n kq c=⟨4,[],[],[],false⟩:=by rw [bX,if_pos hu,if_pos hc0]
    rw [hr] at e1 e2 e3;simp only [Bool.false_eq_true,if_false,List.append_nil] at e1 e2 e3;have on3:=Own.nil w8.heap.size 4 67 w3;have hRk:(cX o l kq 9 0 (fold q)).kind=4:=e1;have hRa:(cX o l kq 9 0 (fold q)).ans=A:=e2;have hRu:(cX o l kq 9 0 (fold q)).auth=[]:=e3;have hfit:=iJ hz kq 9 0 (fold q);have hlen:=kK (o:=o) hz.chk hl200 kq 9 0 (fold q);rw [hRk,hRa,hRu] at hfit hA;rw [hRa,hRu] at hlen;have bEnd:=aA (cs:=[.int .i64 4,a,(.slice none 0 0), .slice none 0 0]) bb3;have pEnd:=hp8.ext y3;refine_lift cC fun _ _ => ?_;refine gE (oP o v l 4 A [] a (.slice none 0 0) _ (hv8.ext y3) oa3.sl on3.sl hz aE aE (fun r hr=>(hfit r hr).1) (fun r hr=>(hfit r hr).2)) fun rE wE xE hrE => ?_;obtain ⟨yE,rfl,oE⟩:=hrE;have xF:=y3.trans xE;have hF:=xF.at h8;have aF:=oa3.ext xE;have uF:=on3.ext xE;have zF:=y3.size;have zw:w.heap.size≤w8.heap.size:=hx8.size;refine_lift aX ?_;refine dS (v:=.agg #[.int .i64 4,a,(.slice none 0 0),yE]) hF (fI rfl aF.sl.one uF.sl.one oE.sl.one) fun wG pG => ?_;refine_lift aX ?_;refine nH (cs:=[.int .i64 4,a,(.slice none 0 0),yE]) pG.this ⟨_,rfl,(hx8.trans xF).move pG.mv (by rintro k ⟨⟩;exact z2),?_⟩;rw [hA,hE];exact ⟨_,rfl,a,(.slice none 0 0),yE,rfl,(cM aF pG hF).weaken zw,(cM uF pG hF).weaken zw,(cM oE pG hF).weaken aE⟩
   ·have hc0:¬ (c:Int)=0:=by assumption
    have hr:bX o l n kq c=⟨0,[],[],[],false⟩:=by rw [bX,if_pos hu,if_neg hc0]
    rw [hr] at e1 e2 e3;simp only [Bool.false_eq_true,if_false,List.append_nil] at e1 e2 e3;have on3:=Own.nil w8.heap.size 4 67 w2;have hRk:(cX o l kq 9 0 (fold q)).kind=0:=e1;have hRa:(cX o l kq 9 0 (fold q)).ans=A:=e2;have hRu:(cX o l kq 9 0 (fold q)).auth=[]:=e3;have hfit:=iJ hz kq 9 0 (fold q);have hlen:=kK (o:=o) hz.chk hl200 kq 9 0 (fold q);rw [hRk,hRa,hRu] at hfit hA;rw [hRa,hRu] at hlen;have bEnd:=aA (cs:=[.int .i64 0,a,(.slice none 0 0), .slice none 0 0]) bb2;have pEnd:=hp8.ext y2;refine_lift aX ?_;refine gE (oP o v l 0 A [] a (.slice none 0 0) _ (hv8.ext y2) oa2.sl on3.sl hz aE aE (fun r hr=>(hfit r hr).1) (fun r hr=>(hfit r hr).2)) fun rE wE xE hrE => ?_;obtain ⟨yE,rfl,oE⟩:=hrE;have xF:=y2.trans xE;have hF:=xF.at h8;have aF:=oa2.ext xE;have uF:=on3.ext xE;have zF:=y2.size;have zw:w.heap.size≤w8.heap.size:=hx8.size;refine_lift aX ?_;refine dS (v:=.agg #[.int .i64 0,a,(.slice none 0 0),yE]) hF (fI rfl aF.sl.one uF.sl.one oE.sl.one) fun wG pG => ?_;refine_lift aX ?_;refine nH (cs:=[.int .i64 0,a,(.slice none 0 0),yE]) pG.this ⟨_,rfl,(hx8.trans xF).move pG.mv (by rintro k ⟨⟩;exact z2),?_⟩;rw [hA,hE];exact ⟨_,rfl,a,(.slice none 0 0),yE,rfl,(cM aF pG hF).weaken zw,(cM uF pG hF).weaken zw,(cM oE pG hF).weaken aE⟩
  | true =>
   have hu':¬ bO n o=false:=by simp [hu]
   have c39:∀ w',SetsAt w' v l→Calls Tryz.prog 101 #[.agg #[aI o,v],aI n] w' (bC w' (.tuple #[aI (eX o l n).1, .bool (eX o l n).2])):=fun w' h=>by
    have:=YY o v l n w' h hb hd q1;rw [xT hz.chk] at this;exact this
   have hp2:=hp8.ext y2;refine_lift cC fun _ _ => ?_;refine cY (c39 _ hv2) fun w3 x3 => ?_;have y3:=y2.trans x3;have bb3:=x3.at bb2;have oa3:=oa2.ext x3;have hp3':=hp8.ext y3;have hv3':=hv8.ext y3;cases hcu:(eX o l n).2 with
   | true =>
    refine_lift QV fun _ _ _ _ _ => ?_;refine gE (pY v l (eX o l n).1 2 _ hv3' hb) fun r4 w4 x4 hr4 => ?_;obtain ⟨y4,rfl,hy4⟩:=UJ hr4;clear hr4;refine_lift aX ?_;refine fO (z:=iP) fun w5 x5 s5 h5 => ?_;refine aD ?_;refine dS (v:=.agg #[aI ((aY l (eX o l n).1 2).getD bW).name, .int .i64 ((aY l (eX o l n).1 2).getD bW).kind, .int .i64 ((aY l (eX o l n).1 2).getD bW).ttl,y4]) h5 (fI rfl rfl rfl hy4.sl.one) fun w6 p6 => ?_;have x6:=cH x5 p6;have e6:w6.heap[w4.heap.size]? = some (.cells [aI ((aY l (eX o l n).1 2).getD bW).name, .int .i64 ((aY l (eX o l n).1 2).getD bW).kind, .int .i64 ((aY l (eX o l n).1 2).getD bW).ttl,y4].toArray 117 (0,0)):=p6.this;have h6:=aA (cs:=[aI ((aY l (eX o l n).1 2).getD bW).name, .int .i64 ((aY l (eX o l n).1 2).getD bW).kind, .int .i64 ((aY l (eX o l n).1 2).getD bW).ttl,y4]) p6.this;have x36:=x4.trans x6;have y6':=y3.trans x36;have bb6:=x36.at bb3;have oa6:=oa3.ext x36;have hy6:=hy4.ext x6;have qb6:=aA (cs:=[.int .i64 0,a, .slice none 0 0, .slice none 0 0]) bb6;clear p6 h5 x5;refine_lift cC fun _ _ => ?_;refine eS 0 _ bb6 rfl fun w7 p7 => ?_;have bb7:w7.heap[w8.heap.size]? = some (.cells [.int .i64 3,a, .slice none 0 0, .slice none 0 0].toArray 112 (0,0)):=p7.this;have zb:w8.heap.size < w4.heap.size:=Nat.lt_of_lt_of_le (Array.getElem?_eq_some_iff.1 bb3).1 x4.size;have y7:=cH y6' p7;have e7:=aA (p7.at e6 aE);have hy7:=(cM hy6 p7 bb6).sl;have oa7:=oa6.mv p7.mv (.inr hne);have qb7:=aA bb7;clear e6 h6;refine_lift cC fun _ _ => ?_;refine nG (e:=117) (k:=4) (bytes:=56) (xs:=[.agg #[aI ((aY l (eX o l n).1 2).getD bW).name, .int .i64 ((aY l (eX o l n).1 2).getD bW).kind, .int .i64 ((aY l (eX o l n).1 2).getD bW).ttl,y4]]) (by simp [Value.cells]) fun v9 w9 x9 _ sl9 _ => ?_;refine aD ?_;have hs9:SetsAt w9 v9 [(aY l (eX o l n).1 2).getD bW]:=(SetsC.one (s:=(aY l (eX o l n).1 2).getD bW) (hy7.ext x9)).sets sl9;have hlen9:(aO [(aY l (eX o l n).1 2).getD bW]).length≤100000:=by
     rw [← eZ];have:=gO (fun s hs=>(nO (hz.may hs)).2) (eX o l n).1 2;omega
    refine_lift aX ?_;refine gE (gQ v9 _ _ hs9 hlen9) fun r10 w10 x10 o10 => ?_;rw [← eZ] at o10;refine aD ?_;have x79:=x9.trans x10;have y10:=y7.trans x79;have bb10:=x79.at bb7;have oa10:=oa7.ext x79;have qb10:=qb7.ext x79;have z10:=(y7.trans x9).size;refine_lift aX ?_;refine eS 2 _ bb10 o10.sl.one fun w11 p11 => ?_;have bb11:w11.heap[w8.heap.size]? = some (.cells [.int .i64 3,a,r10, .slice none 0 0].toArray 112 (0,0)):=p11.this;have y11:=cH y10 p11;have oa11:=oa10.mv p11.mv (.inr hne);have ou11:=(cM o10 p11 bb10).weaken z10;have hr:bX o l n kq c=⟨3,[],fJ (aY l (eX o l n).1 2),[],false⟩:=by rw [bX,if_neg hu',if_pos hcu]
    rw [hr] at e1 e2 e3;simp only [Bool.false_eq_true,if_false,List.append_nil] at e1 e2 e3;have hRk:(cX o l kq 9 0 (fold q)).kind=3:=e1;have hRa:(cX o l kq 9 0 (fold q)).ans=A:=e2;have hRu:(cX o l kq 9 0 (fold q)).auth=(fJ (aY l (eX o l n).1 2)):=e3;have hfit:=iJ hz kq 9 0 (fold q);have hlen:=kK (o:=o) hz.chk hl200 kq 9 0 (fold q);rw [hRk,hRa,hRu] at hfit hA;rw [hRa,hRu] at hlen;have bEnd:=aA (cs:=[.int .i64 3,a,r10, .slice none 0 0]) bb11;have pEnd:=hp8.ext y11;refine_lift cC fun _ _ => ?_;refine gE (oP o v l 3 A (fJ (aY l (eX o l n).1 2)) a r10 _ (hv8.ext y11) oa11.sl ou11.sl hz aE aE (fun r hr=>(hfit r hr).1) (fun r hr=>(hfit r hr).2)) fun rE wE xE hrE => ?_;obtain ⟨yE,rfl,oE⟩:=hrE;have xF:=y11.trans xE;have hF:=xF.at h8;have aF:=oa11.ext xE;have uF:=ou11.ext xE;have zF:=y11.size;have zw:w.heap.size≤w8.heap.size:=hx8.size;refine_lift aX ?_;refine dS (v:=.agg #[.int .i64 3,a,r10,yE]) hF (fI rfl aF.sl.one uF.sl.one oE.sl.one) fun wG pG => ?_;refine_lift aX ?_;refine nH (cs:=[.int .i64 3,a,r10,yE]) pG.this ⟨_,rfl,(hx8.trans xF).move pG.mv (by rintro k ⟨⟩;exact z2),?_⟩;rw [hA,hE];exact ⟨_,rfl,a,r10,yE,rfl,(cM aF pG hF).weaken zw,(cM uF pG hF).weaken zw,(cM oE pG hF).weaken aE⟩
   | false =>
    have hcu':¬ (eX o l n).2=true:=by simp [hcu]
    refine_lift rI fun _ _ _ => ?_;refine EF (XQ o v l n n _ hv3' aE hb) fun u4 w4 x4 hs4 => ?_;have hv4':=hv3'.ext x4;have hp4':=hp3'.ext x4;refine_lift qQ fun _ _ _ _ => ?_;refine cY (KW o v l n _ hv4') fun w5 x5 => ?_;rw [CS hu];have x35:=x4.trans x5;have y5:=y3.trans x35;have bb5:=x35.at bb3;have oa5:=oa3.ext x35;have hs5:=(hs4.ext x5).weaken y3.size;have hv5':=hv4'.ext x5;have hp5':=hp4'.ext x5;have hq5':=hq8.ext y5;have hd5':=hd8.ext y5;have qb5:=aA (cs:=[.int .i64 0,a, .slice none 0 0, .slice none 0 0]) bb5;cases hi:qE l n with
    | true =>
     have hS:aW l n=FG l n n:=by rw [aW,if_pos hi]
     have hB':¬ sF l n=false:=by simp [sF,hi]
     rw [← hS] at hs5;obtain ⟨css,ho,hcs⟩:=hs5;have hol:=ho.sl;have hcl:=hcs.len;have hspl:=sY l n;by_cases hal:(aW l n).any fH=true∧kq≠5∧kq≠255
     ·obtain ⟨hone,hk5⟩:=CT hz hal.1;obtain ⟨h51,h52⟩:=hal.2;have hlen1:(aW l n).length=1:=by rw [hone];rfl
      have hcl1:css.length=1:=aE;obtain ⟨x,hcx,hdx⟩:=hcs.at' 0 (bB l n) (by rw [hone];rfl);have hmem:bB l n ∈ aW l n:=by rw [hone];simp
      have elx:=hol.elem hcx;rw [hk5] at elx;obtain ⟨hrne,hd20,hd1⟩:=gI hz.chk hmem;have hdl:((bB l n).data.getD 0 []).length≤4611686018427387904:=by
       obtain ⟨t,ht,_,_,e9,_⟩:=kY hz.chk hmem;have:=gN hz t ht ((bB l n).data.getD 0 []) (by rw [e9,List.getD_eq_getElem?_getD,List.getElem?_eq_getElem (by rw [← e9];omega)];simp);omega
      have hd0:(aK (bB l n).data)[0]? = some [aI ((bB l n).data.getD 0 [])]:=kU _ _ _ (by rw [List.getD_eq_getElem?_getD,List.getElem?_eq_getElem aE];simp)
      (repeat' first | ((with_reducible refine cQ ?_);go_step) | ((with_reducible refine bM ?_);first | refine gR ?_ | (refine cV ?_ ?_ <;> intro hc)) | fail)
      all_goals first
       | (exfalso
          have q9:(!decide (kq=255))=false:=by assumption
          simp [h52] at q9;done)
       | (exfalso
          have q9:(!decide (kq=5))=false:=by assumption
          simp [h51] at q9;done)
       | (exfalso
          have q9:¬ 0 < (css.length:Int):=by assumption
          omega)
       | skip
      ·have hc8:(c:Int)=8:=by assumption
       have hr:bX o l n kq c=⟨0,[],[],[],false⟩:=by rw [bX,if_neg hu',if_neg hcu',if_neg hB',if_pos hal,if_pos hc8]
       rw [hr] at e1 e2 e3;simp only [Bool.false_eq_true,if_false,List.append_nil] at e1 e2 e3;have on3:=Own.nil w8.heap.size 4 67 w5;have hRk:(cX o l kq 9 0 (fold q)).kind=0:=e1;have hRa:(cX o l kq 9 0 (fold q)).ans=A:=e2;have hRu:(cX o l kq 9 0 (fold q)).auth=[]:=e3;have hfit:=iJ hz kq 9 0 (fold q);have hlen:=kK (o:=o) hz.chk hl200 kq 9 0 (fold q);rw [hRk,hRa,hRu] at hfit hA;rw [hRa,hRu] at hlen;have bEnd:=aA (cs:=[.int .i64 0,a,(.slice none 0 0), .slice none 0 0]) bb5;have pEnd:=hp8.ext y5;refine_lift aX ?_;refine gE (oP o v l 0 A [] a (.slice none 0 0) _ (hv8.ext y5) oa5.sl on3.sl hz aE aE (fun r hr=>(hfit r hr).1) (fun r hr=>(hfit r hr).2)) fun rE wE xE hrE => ?_;obtain ⟨yE,rfl,oE⟩:=hrE;have xF:=y5.trans xE;have hF:=xF.at h8;have aF:=oa5.ext xE;have uF:=on3.ext xE;have zF:=y5.size;have zw:w.heap.size≤w8.heap.size:=hx8.size;refine_lift aX ?_;refine dS (v:=.agg #[.int .i64 0,a,(.slice none 0 0),yE]) hF (fI rfl aF.sl.one uF.sl.one oE.sl.one) fun wG pG => ?_;refine_lift aX ?_;refine nH (cs:=[.int .i64 0,a,(.slice none 0 0),yE]) pG.this ⟨_,rfl,(hx8.trans xF).move pG.mv (by rintro k ⟨⟩;exact z2),?_⟩;rw [hA,hE];exact ⟨_,rfl,a,(.slice none 0 0),yE,rfl,(cM aF pG hF).weaken zw,(cM uF pG hF).weaken zw,(cM oE pG hF).weaken aE⟩
      ·have hc8:¬ (c:Int)=8:=by assumption
       have hr:bX o l n kq c=⟨0,bV (bB l n),[],fold (aQ 5 ((bB l n).data.getD 0 [])).1,true⟩:=by rw [bX,if_neg hu',if_neg hcu',if_neg hB',if_pos hal,if_neg hc8]
       rw [hr] at e1 e2 e3;simp only [if_true] at e1 e2 e3;rw [← List.append_assoc] at e2;refine bE 5 (Ext w5) aR ?_;intro v1 k1 _;refine ⟨k1,?_⟩;refine cI 0 ?_;refine cI 1 ?_;refine cI 2 ?_;refine uG (i:=3) (v:=dG u4 4 0 1) rfl rfl (fun w' hF=>Runs.take (k:=4) (n:=1) (es:=css) rfl (hol.ext hF) aE aR) ?_;refine aD ?_;refine fR 4 ?_;have hs6:SetsAt v1 (dG u4 4 0 1) [bB l n]:=by
        have g1:=((hcs.sets.ext k1).take 1).drop 0;rw [hone] at g1;exact g1.sets ((hol.ext k1).cut aE aE)
       refine gE (gQ _ _ _ hs6 (by rw [dN,bV,List.length_map];omega)) fun r2 v2 k2 o2 => ?_;rw [dN] at o2;refine aD ?_;have k02:=k1.trans k2;have bb9:=k02.at bb5;have oa9:=oa5.ext k02;refine aG ⟨bJ k02,?_⟩;refine fR 5 ?_;refine aZ (e:=67) (k:=4) rfl oa9 rfl o2.sl dP (y5.trans k02).size (by rw [aN,aN,bV,List.length_map];omega) ?_;intro a3 v3 o3 m3 _;refine aD ?_;have bb10:=m3.at bb9 (fun e=>hne e.symm);have y10:=oa9.mvx m3 (y5.trans k02) (Nat.le_refl _);have hs8:=(ho.ext k02).mv m3 ((ho.ext k02).ne oa9 bG);have hrc:aJ A ++ aJ (bV (bB l n))=aJ (A ++ bV (bB l n)):=by simp [aJ]
       rw [hrc] at o3;refine aG ⟨bF rfl,?_⟩;refine zU 6 ?_;refine fR 7 ?_;refine eS 1 _ bb10 o3.sl.one fun v4 p4 => ?_;refine aG ⟨bF rfl,?_⟩;refine qR ?_;have bb11:v4.heap[w8.heap.size]? = some (.cells [.int .i64 0,a3, .slice none 0 0, .slice none 0 0].toArray 112 (0,0)):=p4.this;have y11:=cH y10 p4;have ho11:=cM hs8 p4 bb10;have oa11:=cM o3 p4 bb10;clear hol;have hol:=ho11.sl;have el9:=hol.elem hcx;have hx11:Sl 1 v4 x (aK (bB l n).data):=(((hdx.ext k02).mv m3 ((hdx.ext k02).ne oa9 bG)).mv p4.mv (.inr (((hdx.ext k02).mv m3 ((hdx.ext k02).ne oa9 bG)).neBlock bb10 bG))).sl;have ed9:=hx11.elem hd0;have htl:=aV (bB l n).data;refine_lift cC fun _ _ => ?_;refine cY (mQ 5 ((bB l n).data.getD 0 []) _ hdl) fun w20 x20 => ?_;refine_lift cC fun _ _ => ?_;refine cY (mI (aQ 5 ((bB l n).data.getD 0 [])).1 _) fun w21 x21 => ?_;refine_lift aX ?_;have x2021:=x20.trans x21;refine ⟨⟨c + 1,_,a3,A ++ bV (bB l n),rfl,by go_num,aE,y11.trans x2021,x2021.at bb11,oa11.ext x2021,sJ _ _,by simp only [List.length_append,bV,List.length_map];omega,?_,?_,?_⟩,by simp [intOf];omega⟩
       ·rw [e1,show 9 - (c + 1)=8 - c by omega];rfl
       ·rw [e2,show 9 - (c + 1)=8 - c by omega];rfl
       ·rw [e3,show 9 - (c + 1)=8 - c by omega];rfl
     ·clear hq5';refine_lift qQ fun _ _ _ _ => ?_;refine oH (J:=fun a' w'=>w'=w5∧∃ ts:List Value,a'=Act.mk ts.toArray []∧ts.length=199∧ts.getD 2 undef=p∧ts.getD 3 undef=pq∧ts.getD 4 undef=.pointer (some ⟨AB,0,none⟩)∧ts.getD 7 undef=.pointer (some ⟨DB,0,none⟩)∧ts.getD 9 undef=.pointer (some ⟨w8.heap.size,0,none⟩)∧ts.getD 16 undef=u4∧ts.getD 127 undef=.bool false) ?_ ?_
      ·have hq5':=hq8.ext y5;rcases Nat.eq_zero_or_pos (aW l n).length with hz0 | hz0
       ·refine_lift xN (fun hc hc hc => ?_) (fun hc hc => ?_) (fun hc => ?_) (fun hc hc hc => ?_)
        all_goals first
         | (have hh:False:=by have q9:0 < (css.length:Int):=by assumption
                              omega
            exact hh.elim)
         | exact .inl ⟨rfl,rfl,_,rfl,rfl,rfl,rfl,rfl,rfl,rfl,rfl,rfl⟩
       ·obtain ⟨x,hcx,hdx⟩:=hcs.at' 0 (aW l n)[0] (by rw [List.getElem?_eq_getElem hz0]);have elx:=hol.elem hcx;have hkh:kq=5∨kq=255∨(aW l n)[0].kind≠5:=by
         by_cases h5:(aW l n)[0].kind=5
         ·by_cases h6:kq=5
          ·exact .inl h6
          ·by_cases h7:kq=255
           ·exact .inr (.inl h7)
           ·exact absurd ⟨List.any_eq_true.2 ⟨_,List.getElem_mem hz0,by simp [fH,h5]⟩,h6,h7⟩ hal
         ·exact .inr (.inr h5)
        refine_lift xN (fun hc hc hc => ?_) (fun hc hc => ?_) (fun hc => ?_) (fun hc hc hc => ?_)
        all_goals first
         | (have hh:False:=by have q9:¬ 0 < (css.length:Int):=by assumption
                              omega
            exact hh.elim)
         | (have hh:False:=by
             have q9:(aW l n)[0].kind=5:=by assumption
             have q8:(!decide (kq=5))=true:=by assumption
             have q7:(!decide (kq=255))=true:=by assumption
             simp at q8 q7;exact hkh.elim q8 (fun h=>h.elim q7 (fun h=>h q9))
            exact hh.elim)
         | (have q8:(!decide (kq=5))=true:=by assumption
            have q7:(!decide (kq=255))=true:=by assumption
            simp at q8 q7;have q9:¬ (aW l n)[0].kind=5:=fun h=>hkh.elim q8 (fun h'=>h'.elim q7 (fun h''=>h'' h));exact .inl ⟨rfl,rfl,_,rfl,rfl,rfl,rfl,rfl,rfl,rfl,rfl,congrArg Value.bool (decide_eq_false q9)⟩)
         | exact .inl ⟨rfl,rfl,_,rfl,rfl,rfl,rfl,rfl,rfl,rfl,rfl,rfl⟩
      ·have hq5':=hq8.ext y5;rintro _ _ ⟨rfl,ts,rfl,hlen,g2,g3,g4,g7,g9,g16,g127⟩;obtain ⟨f,rfl⟩:∃ f:Nat→Value,ts=[f 0,f 1,f 2,f 3,f 4,f 5,f 6,f 7,f 8,f 9,f 10,f 11,f 12,f 13,f 14,f 15,f 16,f 17,f 18,f 19,f 20,f 21,f 22,f 23,f 24,f 25,f 26,f 27,f 28,f 29,f 30,f 31,f 32,f 33,f 34,f 35,f 36,f 37,f 38,f 39,f 40,f 41,f 42,f 43,f 44,f 45,f 46,f 47,f 48,f 49,f 50,f 51,f 52,f 53,f 54,f 55,f 56,f 57,f 58,f 59,f 60,f 61,f 62,f 63,f 64,f 65,f 66,f 67,f 68,f 69,f 70,f 71,f 72,f 73,f 74,f 75,f 76,f 77,f 78,f 79,f 80,f 81,f 82,f 83,f 84,f 85,f 86,f 87,f 88,f 89,f 90,f 91,f 92,f 93,f 94,f 95,f 96,f 97,f 98,f 99,f 100,f 101,f 102,f 103,f 104,f 105,f 106,f 107,f 108,f 109,f 110,f 111,f 112,f 113,f 114,f 115,f 116,f 117,f 118,f 119,f 120,f 121,f 122,f 123,f 124,f 125,f 126,f 127,f 128,f 129,f 130,f 131,f 132,f 133,f 134,f 135,f 136,f 137,f 138,f 139,f 140,f 141,f 142,f 143,f 144,f 145,f 146,f 147,f 148,f 149,f 150,f 151,f 152,f 153,f 154,f 155,f 156,f 157,f 158,f 159,f 160,f 161,f 162,f 163,f 164,f 165,f 166,f 167,f 168,f 169,f 170,f 171,f 172,f 173,f 174,f 175,f 176,f 177,f 178,f 179,f 180,f 181,f 182,f 183,f 184,f 185,f 186,f 187,f 188,f 189,f 190,f 191,f 192,f 193,f 194,f 195,f 196,f 197,f 198]:=⟨fun i=>ts.getD i undef,iG hlen undef⟩;change f 2=_ at g2;change f 3=_ at g3;change f 4=_ at g4;change f 7=_ at g7;change f 9=_ at g9;change f 16=_ at g16;change f 127=_ at g127;rw [g2,g3,g4,g7,g9,g16,g127];clear hlen g2 g3 g4 g7 g9 g16 g127;refine_lift cC fun _ _ => ?_;have hMl:((aW l n).filter (bN kq)).length≤200:=Nat.le_trans (List.length_filter_le _ _) aE;have hM20:=sZ (L:=(aW l n).filter (bN kq)) fun s hs=>(gI hz.chk (List.mem_filter.1 hs).1).2.1;have hr:bX o l n kq c=if (aW l n).filter (bN kq)=[] then ⟨1,[],[eG o l],[],false⟩ else ⟨0,aO ((aW l n).filter (bN kq)),[],[],false⟩:=by rw [bX,if_neg hu',if_neg hcu',if_neg hB',if_neg hal]
       rw [hr] at e1 e2 e3;clear hr;have hjl:∀ j,(aO (((aW l n).take j).filter (bN kq))).length≤4000:=fun j=>FX hz.chk aE j;go_loopw [19,20] (fun av kv wr=>∃ (j:Nat) (a':Value) (b:Bool),j≤(aW l n).length∧b=((aW l n).take j).any (bN kq)∧av=.bool b∧kv=.int .i64 j∧Ext w8 wr∧wr.heap[w8.heap.size]? = some (.cells [.int .i64 0,a', .slice none 0 0, .slice none 0 0].toArray 112 (0,0))∧Own w8.heap.size 4 67 wr a' (aJ (A ++ aO (((aW l n).take j).filter (bN kq))))∧Own w8.heap.size 4 117 wr u4 css∧SetsW w8.heap.size wr css (aW l n)) (fun _ kv _=>(aW l n).length - (intOf kv).toNat)
       case atStart=>exact ⟨0,a,false,Nat.zero_le _,bP,rfl,rfl,y5,bb5,by simpa [aO] using oa5,ho,hcs⟩
       case round =>
        obtain ⟨j,a',b,hj,hb,rfl,rfl,yr,br,or',hou,hcr⟩:=hrel;have qr:=aA (cs:=[.int .i64 0,a', .slice none 0 0, .slice none 0 0]) br;have hqj:=hq8.ext yr;have hpj:=hp8.ext yr;have hdj:=hd8.ext yr;have hlj:=hou.sl;have hjl0:=hjl j;by_cases hlt:j < (aW l n).length
        ·obtain ⟨xj,hcj,hdj⟩:=hcr.at' j (aW l n)[j] (List.getElem?_eq_getElem hlt);have elj:=hlj.elem hcj;refine_lift DI ?_;intro _ _ _ _ _ _;by_cases hk1:(aW l n)[j].kind=kq
         ·have hof:bN kq (aW l n)[j]=true:=by simp [bN,hk1]
          refine bS aR aR ?_;refine_lift oR ?_;rw [decide_eq_true hk1];refine_lift oR ?_;intro w2 x2;have yr2:=yr.trans x2;have br2:=x2.at br;have or2:=or'.ext x2;have hou2:=hou.ext x2;have hcr2:=hcr.ext x2;have qr2:=qr.ext x2;have hlj2:=hou2.sl;have hne':a'.ownBlock≠some w8.heap.size:=or'.neBlock br bG;have hr20:=(gI hz.chk (List.getElem_mem hlt)).2.1;clear br or' hou hcr qr hlj elj hqj hpj;refine_lift aX ?_;refine bE 8 (Ext w2) aR ?_;intro v1 k1 _;refine ⟨k1,?_⟩;refine cI 0 ?_;refine cI 1 ?_;refine cI 2 ?_;refine cI 3 ?_;refine cI 4 ?_;refine cI 5 ?_;refine uG (i:=6) (v:=dG u4 4 j (j + 1)) rfl rfl (fun w' hF=>Runs.cut (k:=4) (m:=j) (n:=j + 1) (es:=css) rfl rfl (hlj2.ext hF) aE aE aR) ?_;refine aD ?_;refine fR 7 ?_;have hs6:SetsAt v1 (dG u4 4 j (j + 1)) [(aW l n)[j]]:=by
           have g1:=((hcr2.sets.ext k1).take (j + 1)).drop j;rw [AF hlt] at g1;exact g1.sets ((hlj2.ext k1).cut aE aE)
          refine gE (gQ _ _ _ hs6 (by rw [dN,bV,List.length_map];omega)) fun r3 v2 k2 o2 => ?_;rw [dN] at o2;refine aD ?_;have k02:=k1.trans k2;have bb9:=k02.at br2;have oa9:=or2.ext k02;refine aG ⟨bJ k02,?_⟩;refine fR 8 ?_;refine aZ (e:=67) (k:=4) rfl oa9 rfl o2.sl dP (yr2.trans k02).size (by rw [aN,aN,bV,List.length_map,List.length_append];omega) ?_;intro a3 v3 o3 m3 _;refine aD ?_;have bb10:=m3.at bb9 (fun e=>hne' e.symm);have y10:=oa9.mvx m3 (yr2.trans k02) (Nat.le_refl _);have ho8:=(hou2.ext k02).mv m3 ((hou2.ext k02).ne oa9 bG);have hc8:=(hcr2.ext k02).mv oa9 bG m3;have hrc:aJ (A ++ aO (((aW l n).take j).filter (bN kq))) ++ aJ (bV (aW l n)[j])=aJ (A ++ aO (((aW l n).take (j + 1)).filter (bN kq))):=by rw [tH hlt hof];simp [aJ]
          rw [hrc] at o3;refine aG ⟨bF rfl,?_⟩;refine zU 9 ?_;refine fR 10 ?_;refine eS 1 _ bb10 o3.sl.one fun v4 p4 => ?_;refine aG ⟨bF rfl,?_⟩;refine qR ?_;have bb11:v4.heap[w8.heap.size]? = some (.cells [.int .i64 0,a3, .slice none 0 0, .slice none 0 0].toArray 112 (0,0)):=p4.this;have y11:=cH y10 p4;have ho11:=cM ho8 p4 bb10;have oa11:=cM o3 p4 bb10;have hc11:=hc8.put bb10 bG p4;refine_lift aX ?_;exact ⟨⟨j + 1,a3,true,aE,by rw [mY hlt,hof,Bool.or_true],rfl,by go_num,y11,bb11,oa11,ho11,hc11⟩,by simp [intOf];omega⟩
         ·by_cases hk2:kq=255
          ·have hof:bN kq (aW l n)[j]=true:=by simp [bN,hk2]
           refine bS aR aR ?_;refine_lift oR ?_;rw [decide_eq_false hk1];refine_lift oR ?_;rw [decide_eq_true hk2];refine_lift oR ?_;intro w2 x2;have yr2:=yr.trans x2;have br2:=x2.at br;have or2:=or'.ext x2;have hou2:=hou.ext x2;have hcr2:=hcr.ext x2;have qr2:=qr.ext x2;have hlj2:=hou2.sl;have hne':a'.ownBlock≠some w8.heap.size:=or'.neBlock br bG;have hr20:=(gI hz.chk (List.getElem_mem hlt)).2.1;clear br or' hou hcr qr hlj elj hqj hpj;refine_lift aX ?_;refine bE 8 (Ext w2) aR ?_;intro v1 k1 _;refine ⟨k1,?_⟩;refine cI 0 ?_;refine cI 1 ?_;refine cI 2 ?_;refine cI 3 ?_;refine cI 4 ?_;refine cI 5 ?_;refine uG (i:=6) (v:=dG u4 4 j (j + 1)) rfl rfl (fun w' hF=>Runs.cut (k:=4) (m:=j) (n:=j + 1) (es:=css) rfl rfl (hlj2.ext hF) aE aE aR) ?_;refine aD ?_;refine fR 7 ?_;have hs6:SetsAt v1 (dG u4 4 j (j + 1)) [(aW l n)[j]]:=by
            have g1:=((hcr2.sets.ext k1).take (j + 1)).drop j;rw [AF hlt] at g1;exact g1.sets ((hlj2.ext k1).cut aE aE)
           refine gE (gQ _ _ _ hs6 (by rw [dN,bV,List.length_map];omega)) fun r3 v2 k2 o2 => ?_;rw [dN] at o2;refine aD ?_;have k02:=k1.trans k2;have bb9:=k02.at br2;have oa9:=or2.ext k02;refine aG ⟨bJ k02,?_⟩;refine fR 8 ?_;refine aZ (e:=67) (k:=4) rfl oa9 rfl o2.sl dP (yr2.trans k02).size (by rw [aN,aN,bV,List.length_map,List.length_append];omega) ?_;intro a3 v3 o3 m3 _;refine aD ?_;have bb10:=m3.at bb9 (fun e=>hne' e.symm);have y10:=oa9.mvx m3 (yr2.trans k02) (Nat.le_refl _);have ho8:=(hou2.ext k02).mv m3 ((hou2.ext k02).ne oa9 bG);have hc8:=(hcr2.ext k02).mv oa9 bG m3;have hrc:aJ (A ++ aO (((aW l n).take j).filter (bN kq))) ++ aJ (bV (aW l n)[j])=aJ (A ++ aO (((aW l n).take (j + 1)).filter (bN kq))):=by rw [tH hlt hof];simp [aJ]
           rw [hrc] at o3;refine aG ⟨bF rfl,?_⟩;refine zU 9 ?_;refine fR 10 ?_;refine eS 1 _ bb10 o3.sl.one fun v4 p4 => ?_;refine aG ⟨bF rfl,?_⟩;refine qR ?_;have bb11:v4.heap[w8.heap.size]? = some (.cells [.int .i64 0,a3, .slice none 0 0, .slice none 0 0].toArray 112 (0,0)):=p4.this;have y11:=cH y10 p4;have ho11:=cM ho8 p4 bb10;have oa11:=cM o3 p4 bb10;have hc11:=hc8.put bb10 bG p4;refine_lift aX ?_;exact ⟨⟨j + 1,a3,true,aE,by rw [mY hlt,hof,Bool.or_true],rfl,by go_num,y11,bb11,oa11,ho11,hc11⟩,by simp [intOf];omega⟩
          ·have hof:bN kq (aW l n)[j]=false:=by simp [bN,hk1,hk2]
           refine bS aR aR ?_;refine_lift oR ?_;rw [decide_eq_false hk1];refine_lift oR ?_;rw [decide_eq_false hk2];refine_lift oR ?_;intro w2 x2;refine_lift aX ?_;exact ⟨⟨j + 1,a',b,aE,by rw [mY hlt,hof,Bool.or_false];exact hb,rfl,by go_num,yr.trans x2,x2.at br,by rw [LB hlt hof];exact or'.ext x2,hou.ext x2,hcr.ext x2⟩,by simp [intOf];omega⟩
        ·have hT:(aW l n).take j=aW l n:=by rw [show j=(aW l n).length by omega,List.take_length]
         rw [hT] at or' hb;clear hjl hjl0 hT;have on3:=Own.nil w8.heap.size 4 67 wr;cases b with
         | false =>
          have hF:(aW l n).filter (bN kq)=[]:=List.filter_eq_nil_iff.2 fun s hs h=>by
           have:=List.any_eq_true.2 ⟨s,hs,h⟩;rw [← hb] at this;cases this
          rw [hF] at or';rw [if_pos hF] at e1 e2 e3;simp only [Bool.false_eq_true,if_false,List.append_nil] at e1 e2 e3;have or9:Own w8.heap.size 4 67 wr a' (aJ A):=by simpa [aO] using or'
          clear or';refine_lift QV fun _ _ _ _ _ => ?_;refine eS 0 _ br rfl fun d1 pd1 => ?_;have bd1:d1.heap[w8.heap.size]? = some (.cells [.int .i64 1,a', .slice none 0 0, .slice none 0 0].toArray 112 (0,0)):=pd1.this;have yd1:=cH yr pd1;have rd1:=aA (pd1.at (yr.at b8) aE);have od1:=cM or9 pd1 br;have qd1:=aA (cs:=[.int .i64 1,a', .slice none 0 0, .slice none 0 0]) bd1;refine_lift aX ?_;refine nG (e:=67) (k:=4) (bytes:=48) (xs:=[oM (eG o l)]) (by simp [Value.cells,oM]) fun v2d d2 xd2 _ sl2d od2' => ?_;refine aD ?_;have od2:Own d1.heap.size 4 67 d2 v2d (aJ [eG o l]):=od2';have bd2:=xd2.at bd1;have qd2:=qd1.ext xd2;have odA:=od1.ext xd2;refine_lift aX ?_;refine eS 2 _ bd2 od2.sl.one fun d3 pd3 => ?_;have bd3:d3.heap[w8.heap.size]? = some (.cells [.int .i64 1,a',v2d, .slice none 0 0].toArray 112 (0,0)):=pd3.this;have yd3:=cH (yd1.trans xd2) pd3;have odB:=cM odA pd3 bd2;have odU:=(cM od2 pd3 bd2).weaken yd1.size;have hRk:(cX o l kq 9 0 (fold q)).kind=1:=e1;have hRa:(cX o l kq 9 0 (fold q)).ans=A:=e2;have hRu:(cX o l kq 9 0 (fold q)).auth=[eG o l]:=e3;have hfit:=iJ hz kq 9 0 (fold q);have hlen:=kK (o:=o) hz.chk hl200 kq 9 0 (fold q);rw [hRk,hRa,hRu] at hfit hA;rw [hRa,hRu] at hlen;have bEnd:=aA (cs:=[.int .i64 1,a',v2d, .slice none 0 0]) bd3;have pEnd:=hp8.ext yd3;refine_lift cC fun _ _ => ?_;refine gE (oP o v l 1 A [eG o l] a' v2d _ (hv8.ext yd3) odB.sl odU.sl hz aE aE (fun r hr=>(hfit r hr).1) (fun r hr=>(hfit r hr).2)) fun rE wE xE hrE => ?_;obtain ⟨yE,rfl,oE⟩:=hrE;have xF:=yd3.trans xE;have hF:=xF.at h8;have aF:=odB.ext xE;have uF:=odU.ext xE;have zF:=yd3.size;have zw:w.heap.size≤w8.heap.size:=hx8.size;refine_lift aX ?_;refine dS (v:=.agg #[.int .i64 1,a',v2d,yE]) hF (fI rfl aF.sl.one uF.sl.one oE.sl.one) fun wG pG => ?_;refine_lift aX ?_;refine nH (cs:=[.int .i64 1,a',v2d,yE]) pG.this ⟨_,rfl,(hx8.trans xF).move pG.mv (by rintro k ⟨⟩;exact z2),?_⟩;rw [hA,hE];exact ⟨_,rfl,a',v2d,yE,rfl,(cM aF pG hF).weaken zw,(cM uF pG hF).weaken zw,(cM oE pG hF).weaken aE⟩
         | true =>
          have hF:¬ (aW l n).filter (bN kq)=[]:=fun h=>by
           obtain ⟨s,hs,hk⟩:=List.any_eq_true.1 hb.symm;exact List.filter_eq_nil_iff.1 h s hs hk
          rw [if_neg hF] at e1 e2 e3;simp only [Bool.false_eq_true,if_false,List.append_nil] at e1 e2 e3;refine_lift rI fun _ _ _ => ?_;have hRk:(cX o l kq 9 0 (fold q)).kind=0:=e1;have hRa:(cX o l kq 9 0 (fold q)).ans=(A ++ aO ((aW l n).filter (bN kq))):=e2;have hRu:(cX o l kq 9 0 (fold q)).auth=[]:=e3;have hfit:=iJ hz kq 9 0 (fold q);have hlen:=kK (o:=o) hz.chk hl200 kq 9 0 (fold q);rw [hRk,hRa,hRu] at hfit hA;rw [hRa,hRu] at hlen;have bEnd:=aA (cs:=[.int .i64 0,a',(.slice none 0 0), .slice none 0 0]) br;have pEnd:=hp8.ext yr;refine_lift aX ?_;refine gE (oP o v l 0 (A ++ aO ((aW l n).filter (bN kq))) [] a' (.slice none 0 0) _ (hv8.ext yr) or'.sl on3.sl hz aE aE (fun r hr=>(hfit r hr).1) (fun r hr=>(hfit r hr).2)) fun rE wE xE hrE => ?_;obtain ⟨yE,rfl,oE⟩:=hrE;have xF:=yr.trans xE;have hF:=xF.at h8;have aF:=or'.ext xE;have uF:=on3.ext xE;have zF:=yr.size;have zw:w.heap.size≤w8.heap.size:=hx8.size;refine_lift aX ?_;refine dS (v:=.agg #[.int .i64 0,a',(.slice none 0 0),yE]) hF (fI rfl aF.sl.one uF.sl.one oE.sl.one) fun wG pG => ?_;refine_lift aX ?_;refine nH (cs:=[.int .i64 0,a',(.slice none 0 0),yE]) pG.this ⟨_,rfl,(hx8.trans xF).move pG.mv (by rintro k ⟨⟩;exact z2),?_⟩;rw [hA,hE];exact ⟨_,rfl,a',(.slice none 0 0),yE,rfl,(cM aF pG hF).weaken zw,(cM uF pG hF).weaken zw,(cM oE pG hF).weaken aE⟩
    | false =>
     have hS:aW l n=FG l (qU l n) n:=by rw [aW,if_neg (by simp [hi])]
     refine_lift cC fun _ _ => ?_;refine bE 5 (Ext w5) aR ?_;intro w6 x6 _;refine ⟨x6,?_⟩;refine cI 0 ?_;refine cI 1 ?_;refine cI 2 ?_;refine cI 4 ?_;refine fR 3 ?_;refine cY (WR o v l n _ (hv5'.ext x6) hz hu) fun w7 x7 => ?_;have x57:=x6.trans x7;refine aG ⟨bJ x57,?_⟩;refine fR 5 ?_;refine EF (XQ o v l (qU l n) n _ (hv5'.ext x57) aE hb) fun u8 w8' x8' hs8 => ?_;have x58':=x57.trans x8';refine aG ⟨bF rfl,?_⟩;refine zU 6 ?_;refine qR ?_;have y8:=y5.trans x58';have bb8:=x58'.at bb5;have oa8:=oa5.ext x58';have hs8':=hs8.weaken (y5.trans x57).size;have hq8':=hq8.ext y8;have hp8':=hp8.ext y8;have hd8':=hd8.ext y8;have qb8:=aA (cs:=[.int .i64 0,a, .slice none 0 0, .slice none 0 0]) bb8;rw [← hS] at hs8';by_cases hB':sF l n=false
     ·have hN:aW l n=[]:=by
       rw [hS]
       simpa [sF,hi] using hB'
      have hr:bX o l n kq c=⟨2,[],[eG o l],[],false⟩:=by rw [bX,if_neg hu',if_neg hcu',if_pos hB']
      rw [hr] at e1 e2 e3;simp only [Bool.false_eq_true,if_false,List.append_nil] at e1 e2 e3;obtain ⟨css,ho,hcs⟩:=hs8';have hcl:=hcs.len;have hsl8:=ho.sl;rw [hN,List.length_nil] at hcl;refine_lift rI fun _ _ _ => ?_;refine eS 0 _ bb8 rfl fun d1 pd1 => ?_;have bd1:d1.heap[w8.heap.size]? = some (.cells [.int .i64 2,a, .slice none 0 0, .slice none 0 0].toArray 112 (0,0)):=pd1.this;have yd1:=cH y8 pd1;have rd1:=aA (pd1.at (y8.at b8) aE);have od1:=cM oa8 pd1 bb8;have qd1:=aA (cs:=[.int .i64 2,a, .slice none 0 0, .slice none 0 0]) bd1;refine_lift cC fun _ _ => ?_;refine nG (e:=67) (k:=4) (bytes:=48) (xs:=[oM (eG o l)]) (by simp [Value.cells,oM]) fun v2d d2 xd2 _ sl2d od2' => ?_;refine aD ?_;have od2:Own d1.heap.size 4 67 d2 v2d (aJ [eG o l]):=od2';have bd2:=xd2.at bd1;have qd2:=qd1.ext xd2;have odA:=od1.ext xd2;refine_lift aX ?_;refine eS 2 _ bd2 od2.sl.one fun d3 pd3 => ?_;have bd3:d3.heap[w8.heap.size]? = some (.cells [.int .i64 2,a,v2d, .slice none 0 0].toArray 112 (0,0)):=pd3.this;have yd3:=cH (yd1.trans xd2) pd3;have odB:=cM odA pd3 bd2;have odU:=(cM od2 pd3 bd2).weaken yd1.size;have hRk:(cX o l kq 9 0 (fold q)).kind=2:=e1;have hRa:(cX o l kq 9 0 (fold q)).ans=A:=e2;have hRu:(cX o l kq 9 0 (fold q)).auth=[eG o l]:=e3;have hfit:=iJ hz kq 9 0 (fold q);have hlen:=kK (o:=o) hz.chk hl200 kq 9 0 (fold q);rw [hRk,hRa,hRu] at hfit hA;rw [hRa,hRu] at hlen;have bEnd:=aA (cs:=[.int .i64 2,a,v2d, .slice none 0 0]) bd3;have pEnd:=hp8.ext yd3;refine_lift cC fun _ _ => ?_;refine gE (oP o v l 2 A [eG o l] a v2d _ (hv8.ext yd3) odB.sl odU.sl hz aE aE (fun r hr=>(hfit r hr).1) (fun r hr=>(hfit r hr).2)) fun rE wE xE hrE => ?_;obtain ⟨yE,rfl,oE⟩:=hrE;have xF:=yd3.trans xE;have hF:=xF.at h8;have aF:=odB.ext xE;have uF:=odU.ext xE;have zF:=yd3.size;have zw:w.heap.size≤w8.heap.size:=hx8.size;refine_lift aX ?_;refine dS (v:=.agg #[.int .i64 2,a,v2d,yE]) hF (fI rfl aF.sl.one uF.sl.one oE.sl.one) fun wG pG => ?_;refine_lift aX ?_;refine nH (cs:=[.int .i64 2,a,v2d,yE]) pG.this ⟨_,rfl,(hx8.trans xF).move pG.mv (by rintro k ⟨⟩;exact z2),?_⟩;rw [hA,hE];exact ⟨_,rfl,a,v2d,yE,rfl,(cM aF pG hF).weaken zw,(cM uF pG hF).weaken zw,(cM oE pG hF).weaken aE⟩
     ·have hpos:0 < (aW l n).length:=by
       rw [hS];have hB2:=hB';simp [sF,hi] at hB2;exact List.length_pos_iff.2 hB2
      obtain ⟨css,ho,hcs⟩:=hs8';have hol:=ho.sl;have hcl:=hcs.len;have hspl:=sY l n;by_cases hal:(aW l n).any fH=true∧kq≠5∧kq≠255
      ·obtain ⟨hone,hk5⟩:=CT hz hal.1;obtain ⟨h51,h52⟩:=hal.2;have hlen1:(aW l n).length=1:=by rw [hone];rfl
       have hcl1:css.length=1:=aE;obtain ⟨x,hcx,hdx⟩:=hcs.at' 0 (bB l n) (by rw [hone];rfl);have hmem:bB l n ∈ aW l n:=by rw [hone];simp
       have elx:=hol.elem hcx;rw [hk5] at elx;obtain ⟨hrne,hd20,hd1⟩:=gI hz.chk hmem;have hdl:((bB l n).data.getD 0 []).length≤4611686018427387904:=by
        obtain ⟨t,ht,_,_,e9,_⟩:=kY hz.chk hmem;have:=gN hz t ht ((bB l n).data.getD 0 []) (by rw [e9,List.getD_eq_getElem?_getD,List.getElem?_eq_getElem (by rw [← e9];omega)];simp);omega
       have hd0:(aK (bB l n).data)[0]? = some [aI ((bB l n).data.getD 0 [])]:=kU _ _ _ (by rw [List.getD_eq_getElem?_getD,List.getElem?_eq_getElem aE];simp)
       (repeat' first | ((with_reducible refine cQ ?_);go_step) | ((with_reducible refine bM ?_);first | refine gR ?_ | (refine cV ?_ ?_ <;> intro hc)) | fail)
       all_goals first
        | (exfalso
           have q9:(!decide (kq=255))=false:=by assumption
           simp [h52] at q9;done)
        | (exfalso
           have q9:(!decide (kq=5))=false:=by assumption
           simp [h51] at q9;done)
        | (exfalso
           have q9:¬ 0 < (css.length:Int):=by assumption
           omega)
        | skip
       ·have hc8:(c:Int)=8:=by assumption
        have hr:bX o l n kq c=⟨0,[],[],[],false⟩:=by rw [bX,if_neg hu',if_neg hcu',if_neg hB',if_pos hal,if_pos hc8]
        rw [hr] at e1 e2 e3;simp only [Bool.false_eq_true,if_false,List.append_nil] at e1 e2 e3;have on3:=Own.nil w8.heap.size 4 67 w8';have hRk:(cX o l kq 9 0 (fold q)).kind=0:=e1;have hRa:(cX o l kq 9 0 (fold q)).ans=A:=e2;have hRu:(cX o l kq 9 0 (fold q)).auth=[]:=e3;have hfit:=iJ hz kq 9 0 (fold q);have hlen:=kK (o:=o) hz.chk hl200 kq 9 0 (fold q);rw [hRk,hRa,hRu] at hfit hA;rw [hRa,hRu] at hlen;have bEnd:=aA (cs:=[.int .i64 0,a,(.slice none 0 0), .slice none 0 0]) bb8;have pEnd:=hp8.ext y8;refine_lift aX ?_;refine gE (oP o v l 0 A [] a (.slice none 0 0) _ (hv8.ext y8) oa8.sl on3.sl hz aE aE (fun r hr=>(hfit r hr).1) (fun r hr=>(hfit r hr).2)) fun rE wE xE hrE => ?_;obtain ⟨yE,rfl,oE⟩:=hrE;have xF:=y8.trans xE;have hF:=xF.at h8;have aF:=oa8.ext xE;have uF:=on3.ext xE;have zF:=y8.size;have zw:w.heap.size≤w8.heap.size:=hx8.size;refine_lift aX ?_;refine dS (v:=.agg #[.int .i64 0,a,(.slice none 0 0),yE]) hF (fI rfl aF.sl.one uF.sl.one oE.sl.one) fun wG pG => ?_;refine_lift aX ?_;refine nH (cs:=[.int .i64 0,a,(.slice none 0 0),yE]) pG.this ⟨_,rfl,(hx8.trans xF).move pG.mv (by rintro k ⟨⟩;exact z2),?_⟩;rw [hA,hE];exact ⟨_,rfl,a,(.slice none 0 0),yE,rfl,(cM aF pG hF).weaken zw,(cM uF pG hF).weaken zw,(cM oE pG hF).weaken aE⟩
       ·have hc8:¬ (c:Int)=8:=by assumption
        have hr:bX o l n kq c=⟨0,bV (bB l n),[],fold (aQ 5 ((bB l n).data.getD 0 [])).1,true⟩:=by rw [bX,if_neg hu',if_neg hcu',if_neg hB',if_pos hal,if_neg hc8]
        rw [hr] at e1 e2 e3;simp only [if_true] at e1 e2 e3;rw [← List.append_assoc] at e2;refine bE 5 (Ext w8') aR ?_;intro v1 k1 _;refine ⟨k1,?_⟩;refine cI 0 ?_;refine cI 1 ?_;refine cI 2 ?_;refine uG (i:=3) (v:=dG u8 4 0 1) rfl rfl (fun w' hF=>Runs.take (k:=4) (n:=1) (es:=css) rfl (hol.ext hF) aE aR) ?_;refine aD ?_;refine fR 4 ?_;have hs6:SetsAt v1 (dG u8 4 0 1) [bB l n]:=by
         have g1:=((hcs.sets.ext k1).take 1).drop 0;rw [hone] at g1;exact g1.sets ((hol.ext k1).cut aE aE)
        refine gE (gQ _ _ _ hs6 (by rw [dN,bV,List.length_map];omega)) fun r2 v2 k2 o2 => ?_;rw [dN] at o2;refine aD ?_;have k02:=k1.trans k2;have bb9:=k02.at bb8;have oa9:=oa8.ext k02;refine aG ⟨bJ k02,?_⟩;refine fR 5 ?_;refine aZ (e:=67) (k:=4) rfl oa9 rfl o2.sl dP (y8.trans k02).size (by rw [aN,aN,bV,List.length_map];omega) ?_;intro a3 v3 o3 m3 _;refine aD ?_;have bb10:=m3.at bb9 (fun e=>hne e.symm);have y10:=oa9.mvx m3 (y8.trans k02) (Nat.le_refl _);have hs8:=(ho.ext k02).mv m3 ((ho.ext k02).ne oa9 bG);have hrc:aJ A ++ aJ (bV (bB l n))=aJ (A ++ bV (bB l n)):=by simp [aJ]
        rw [hrc] at o3;refine aG ⟨bF rfl,?_⟩;refine zU 6 ?_;refine fR 7 ?_;refine eS 1 _ bb10 o3.sl.one fun v4 p4 => ?_;refine aG ⟨bF rfl,?_⟩;refine qR ?_;have bb11:v4.heap[w8.heap.size]? = some (.cells [.int .i64 0,a3, .slice none 0 0, .slice none 0 0].toArray 112 (0,0)):=p4.this;have y11:=cH y10 p4;have ho11:=cM hs8 p4 bb10;have oa11:=cM o3 p4 bb10;clear hol;have hol:=ho11.sl;have el9:=hol.elem hcx;have hx11:Sl 1 v4 x (aK (bB l n).data):=(((hdx.ext k02).mv m3 ((hdx.ext k02).ne oa9 bG)).mv p4.mv (.inr (((hdx.ext k02).mv m3 ((hdx.ext k02).ne oa9 bG)).neBlock bb10 bG))).sl;have ed9:=hx11.elem hd0;have htl:=aV (bB l n).data;refine_lift cC fun _ _ => ?_;refine cY (mQ 5 ((bB l n).data.getD 0 []) _ hdl) fun w20 x20 => ?_;refine_lift cC fun _ _ => ?_;refine cY (mI (aQ 5 ((bB l n).data.getD 0 [])).1 _) fun w21 x21 => ?_;refine_lift aX ?_;have x2021:=x20.trans x21;refine ⟨⟨c + 1,_,a3,A ++ bV (bB l n),rfl,by go_num,aE,y11.trans x2021,x2021.at bb11,oa11.ext x2021,sJ _ _,by simp only [List.length_append,bV,List.length_map];omega,?_,?_,?_⟩,by simp [intOf];omega⟩
        ·rw [e1,show 9 - (c + 1)=8 - c by omega];rfl
        ·rw [e2,show 9 - (c + 1)=8 - c by omega];rfl
        ·rw [e3,show 9 - (c + 1)=8 - c by omega];rfl
      ·clear hq8' hq5';refine_lift QV fun _ _ _ _ _ => ?_;refine oH (J:=fun a' w'=>w'=w8'∧∃ ts:List Value,a'=Act.mk ts.toArray []∧ts.length=199∧ts.getD 2 undef=p∧ts.getD 3 undef=pq∧ts.getD 4 undef=.pointer (some ⟨AB,0,none⟩)∧ts.getD 7 undef=.pointer (some ⟨DB,0,none⟩)∧ts.getD 9 undef=.pointer (some ⟨w8.heap.size,0,none⟩)∧ts.getD 16 undef=u8∧ts.getD 127 undef=.bool false) ?_ ?_
       ·have hq8':=hq8.ext y8;rcases Nat.eq_zero_or_pos (aW l n).length with hz0 | hz0
        ·refine_lift xN (fun hc hc hc => ?_) (fun hc hc => ?_) (fun hc => ?_) (fun hc hc hc => ?_)
         all_goals first
          | (have hh:False:=by have q9:0 < (css.length:Int):=by assumption
                               omega
             exact hh.elim)
          | exact .inl ⟨rfl,rfl,_,rfl,rfl,rfl,rfl,rfl,rfl,rfl,rfl,rfl⟩
        ·obtain ⟨x,hcx,hdx⟩:=hcs.at' 0 (aW l n)[0] (by rw [List.getElem?_eq_getElem hz0]);have elx:=hol.elem hcx;have hkh:kq=5∨kq=255∨(aW l n)[0].kind≠5:=by
          by_cases h5:(aW l n)[0].kind=5
          ·by_cases h6:kq=5
           ·exact .inl h6
           ·by_cases h7:kq=255
            ·exact .inr (.inl h7)
            ·exact absurd ⟨List.any_eq_true.2 ⟨_,List.getElem_mem hz0,by simp [fH,h5]⟩,h6,h7⟩ hal
          ·exact .inr (.inr h5)
         refine_lift xN (fun hc hc hc => ?_) (fun hc hc => ?_) (fun hc => ?_) (fun hc hc hc => ?_)
         all_goals first
          | (have hh:False:=by have q9:¬ 0 < (css.length:Int):=by assumption
                               omega
             exact hh.elim)
          | (have hh:False:=by
              have q9:(aW l n)[0].kind=5:=by assumption
              have q8:(!decide (kq=5))=true:=by assumption
              have q7:(!decide (kq=255))=true:=by assumption
              simp at q8 q7;exact hkh.elim q8 (fun h=>h.elim q7 (fun h=>h q9))
             exact hh.elim)
          | (have q8:(!decide (kq=5))=true:=by assumption
             have q7:(!decide (kq=255))=true:=by assumption
             simp at q8 q7;have q9:¬ (aW l n)[0].kind=5:=fun h=>hkh.elim q8 (fun h'=>h'.elim q7 (fun h''=>h'' h));exact .inl ⟨rfl,rfl,_,rfl,rfl,rfl,rfl,rfl,rfl,rfl,rfl,congrArg Value.bool (decide_eq_false q9)⟩)
          | exact .inl ⟨rfl,rfl,_,rfl,rfl,rfl,rfl,rfl,rfl,rfl,rfl,rfl⟩
       ·have hq8':=hq8.ext y8;rintro _ _ ⟨rfl,ts,rfl,hlen,g2,g3,g4,g7,g9,g16,g127⟩;obtain ⟨f,rfl⟩:∃ f:Nat→Value,ts=[f 0,f 1,f 2,f 3,f 4,f 5,f 6,f 7,f 8,f 9,f 10,f 11,f 12,f 13,f 14,f 15,f 16,f 17,f 18,f 19,f 20,f 21,f 22,f 23,f 24,f 25,f 26,f 27,f 28,f 29,f 30,f 31,f 32,f 33,f 34,f 35,f 36,f 37,f 38,f 39,f 40,f 41,f 42,f 43,f 44,f 45,f 46,f 47,f 48,f 49,f 50,f 51,f 52,f 53,f 54,f 55,f 56,f 57,f 58,f 59,f 60,f 61,f 62,f 63,f 64,f 65,f 66,f 67,f 68,f 69,f 70,f 71,f 72,f 73,f 74,f 75,f 76,f 77,f 78,f 79,f 80,f 81,f 82,f 83,f 84,f 85,f 86,f 87,f 88,f 89,f 90,f 91,f 92,f 93,f 94,f 95,f 96,f 97,f 98,f 99,f 100,f 101,f 102,f 103,f 104,f 105,f 106,f 107,f 108,f 109,f 110,f 111,f 112,f 113,f 114,f 115,f 116,f 117,f 118,f 119,f 120,f 121,f 122,f 123,f 124,f 125,f 126,f 127,f 128,f 129,f 130,f 131,f 132,f 133,f 134,f 135,f 136,f 137,f 138,f 139,f 140,f 141,f 142,f 143,f 144,f 145,f 146,f 147,f 148,f 149,f 150,f 151,f 152,f 153,f 154,f 155,f 156,f 157,f 158,f 159,f 160,f 161,f 162,f 163,f 164,f 165,f 166,f 167,f 168,f 169,f 170,f 171,f 172,f 173,f 174,f 175,f 176,f 177,f 178,f 179,f 180,f 181,f 182,f 183,f 184,f 185,f 186,f 187,f 188,f 189,f 190,f 191,f 192,f 193,f 194,f 195,f 196,f 197,f 198]:=⟨fun i=>ts.getD i undef,iG hlen undef⟩;change f 2=_ at g2;change f 3=_ at g3;change f 4=_ at g4;change f 7=_ at g7;change f 9=_ at g9;change f 16=_ at g16;change f 127=_ at g127;rw [g2,g3,g4,g7,g9,g16,g127];clear hlen g2 g3 g4 g7 g9 g16 g127;refine_lift cC fun _ _ => ?_;have hMl:((aW l n).filter (bN kq)).length≤200:=Nat.le_trans (List.length_filter_le _ _) aE;have hM20:=sZ (L:=(aW l n).filter (bN kq)) fun s hs=>(gI hz.chk (List.mem_filter.1 hs).1).2.1;have hr:bX o l n kq c=if (aW l n).filter (bN kq)=[] then ⟨1,[],[eG o l],[],false⟩ else ⟨0,aO ((aW l n).filter (bN kq)),[],[],false⟩:=by rw [bX,if_neg hu',if_neg hcu',if_neg hB',if_neg hal]
        rw [hr] at e1 e2 e3;clear hr;have hjl:∀ j,(aO (((aW l n).take j).filter (bN kq))).length≤4000:=fun j=>FX hz.chk aE j;go_loopw [19,20] (fun av kv wr=>∃ (j:Nat) (a':Value) (b:Bool),j≤(aW l n).length∧b=((aW l n).take j).any (bN kq)∧av=.bool b∧kv=.int .i64 j∧Ext w8 wr∧wr.heap[w8.heap.size]? = some (.cells [.int .i64 0,a', .slice none 0 0, .slice none 0 0].toArray 112 (0,0))∧Own w8.heap.size 4 67 wr a' (aJ (A ++ aO (((aW l n).take j).filter (bN kq))))∧Own w8.heap.size 4 117 wr u8 css∧SetsW w8.heap.size wr css (aW l n)) (fun _ kv _=>(aW l n).length - (intOf kv).toNat)
        case atStart=>exact ⟨0,a,false,Nat.zero_le _,bP,rfl,rfl,y8,bb8,by simpa [aO] using oa8,ho,hcs⟩
        case round =>
         obtain ⟨j,a',b,hj,hb,rfl,rfl,yr,br,or',hou,hcr⟩:=hrel;have qr:=aA (cs:=[.int .i64 0,a', .slice none 0 0, .slice none 0 0]) br;have hqj:=hq8.ext yr;have hpj:=hp8.ext yr;have hdj:=hd8.ext yr;have hlj:=hou.sl;have hjl0:=hjl j;by_cases hlt:j < (aW l n).length
         ·obtain ⟨xj,hcj,hdj⟩:=hcr.at' j (aW l n)[j] (List.getElem?_eq_getElem hlt);have elj:=hlj.elem hcj;refine_lift DI ?_;intro _ _ _ _ _ _;by_cases hk1:(aW l n)[j].kind=kq
          ·have hof:bN kq (aW l n)[j]=true:=by simp [bN,hk1]
           refine bS aR aR ?_;refine_lift oR ?_;rw [decide_eq_true hk1];refine_lift oR ?_;intro w2 x2;have yr2:=yr.trans x2;have br2:=x2.at br;have or2:=or'.ext x2;have hou2:=hou.ext x2;have hcr2:=hcr.ext x2;have qr2:=qr.ext x2;have hlj2:=hou2.sl;have hne':a'.ownBlock≠some w8.heap.size:=or'.neBlock br bG;have hr20:=(gI hz.chk (List.getElem_mem hlt)).2.1;clear br or' hou hcr qr hlj elj hqj hpj;refine_lift aX ?_;refine bE 8 (Ext w2) aR ?_;intro v1 k1 _;refine ⟨k1,?_⟩;refine cI 0 ?_;refine cI 1 ?_;refine cI 2 ?_;refine cI 3 ?_;refine cI 4 ?_;refine cI 5 ?_;refine uG (i:=6) (v:=dG u8 4 j (j + 1)) rfl rfl (fun w' hF=>Runs.cut (k:=4) (m:=j) (n:=j + 1) (es:=css) rfl rfl (hlj2.ext hF) aE aE aR) ?_;refine aD ?_;refine fR 7 ?_;have hs6:SetsAt v1 (dG u8 4 j (j + 1)) [(aW l n)[j]]:=by
            have g1:=((hcr2.sets.ext k1).take (j + 1)).drop j;rw [AF hlt] at g1;exact g1.sets ((hlj2.ext k1).cut aE aE)
           refine gE (gQ _ _ _ hs6 (by rw [dN,bV,List.length_map];omega)) fun r3 v2 k2 o2 => ?_;rw [dN] at o2;refine aD ?_;have k02:=k1.trans k2;have bb9:=k02.at br2;have oa9:=or2.ext k02;refine aG ⟨bJ k02,?_⟩;refine fR 8 ?_;refine aZ (e:=67) (k:=4) rfl oa9 rfl o2.sl dP (yr2.trans k02).size (by rw [aN,aN,bV,List.length_map,List.length_append];omega) ?_;intro a3 v3 o3 m3 _;refine aD ?_;have bb10:=m3.at bb9 (fun e=>hne' e.symm);have y10:=oa9.mvx m3 (yr2.trans k02) (Nat.le_refl _);have ho8:=(hou2.ext k02).mv m3 ((hou2.ext k02).ne oa9 bG);have hc8:=(hcr2.ext k02).mv oa9 bG m3;have hrc:aJ (A ++ aO (((aW l n).take j).filter (bN kq))) ++ aJ (bV (aW l n)[j])=aJ (A ++ aO (((aW l n).take (j + 1)).filter (bN kq))):=by rw [tH hlt hof];simp [aJ]
           rw [hrc] at o3;refine aG ⟨bF rfl,?_⟩;refine zU 9 ?_;refine fR 10 ?_;refine eS 1 _ bb10 o3.sl.one fun v4 p4 => ?_;refine aG ⟨bF rfl,?_⟩;refine qR ?_;have bb11:v4.heap[w8.heap.size]? = some (.cells [.int .i64 0,a3, .slice none 0 0, .slice none 0 0].toArray 112 (0,0)):=p4.this;have y11:=cH y10 p4;have ho11:=cM ho8 p4 bb10;have oa11:=cM o3 p4 bb10;have hc11:=hc8.put bb10 bG p4;refine_lift aX ?_;exact ⟨⟨j + 1,a3,true,aE,by rw [mY hlt,hof,Bool.or_true],rfl,by go_num,y11,bb11,oa11,ho11,hc11⟩,by simp [intOf];omega⟩
          ·by_cases hk2:kq=255
           ·have hof:bN kq (aW l n)[j]=true:=by simp [bN,hk2]
            refine bS aR aR ?_;refine_lift oR ?_;rw [decide_eq_false hk1];refine_lift oR ?_;rw [decide_eq_true hk2];refine_lift oR ?_;intro w2 x2;have yr2:=yr.trans x2;have br2:=x2.at br;have or2:=or'.ext x2;have hou2:=hou.ext x2;have hcr2:=hcr.ext x2;have qr2:=qr.ext x2;have hlj2:=hou2.sl;have hne':a'.ownBlock≠some w8.heap.size:=or'.neBlock br bG;have hr20:=(gI hz.chk (List.getElem_mem hlt)).2.1;clear br or' hou hcr qr hlj elj hqj hpj;refine_lift aX ?_;refine bE 8 (Ext w2) aR ?_;intro v1 k1 _;refine ⟨k1,?_⟩;refine cI 0 ?_;refine cI 1 ?_;refine cI 2 ?_;refine cI 3 ?_;refine cI 4 ?_;refine cI 5 ?_;refine uG (i:=6) (v:=dG u8 4 j (j + 1)) rfl rfl (fun w' hF=>Runs.cut (k:=4) (m:=j) (n:=j + 1) (es:=css) rfl rfl (hlj2.ext hF) aE aE aR) ?_;refine aD ?_;refine fR 7 ?_;have hs6:SetsAt v1 (dG u8 4 j (j + 1)) [(aW l n)[j]]:=by
             have g1:=((hcr2.sets.ext k1).take (j + 1)).drop j;rw [AF hlt] at g1;exact g1.sets ((hlj2.ext k1).cut aE aE)
            refine gE (gQ _ _ _ hs6 (by rw [dN,bV,List.length_map];omega)) fun r3 v2 k2 o2 => ?_;rw [dN] at o2;refine aD ?_;have k02:=k1.trans k2;have bb9:=k02.at br2;have oa9:=or2.ext k02;refine aG ⟨bJ k02,?_⟩;refine fR 8 ?_;refine aZ (e:=67) (k:=4) rfl oa9 rfl o2.sl dP (yr2.trans k02).size (by rw [aN,aN,bV,List.length_map,List.length_append];omega) ?_;intro a3 v3 o3 m3 _;refine aD ?_;have bb10:=m3.at bb9 (fun e=>hne' e.symm);have y10:=oa9.mvx m3 (yr2.trans k02) (Nat.le_refl _);have ho8:=(hou2.ext k02).mv m3 ((hou2.ext k02).ne oa9 bG);have hc8:=(hcr2.ext k02).mv oa9 bG m3;have hrc:aJ (A ++ aO (((aW l n).take j).filter (bN kq))) ++ aJ (bV (aW l n)[j])=aJ (A ++ aO (((aW l n).take (j + 1)).filter (bN kq))):=by rw [tH hlt hof];simp [aJ]
            rw [hrc] at o3;refine aG ⟨bF rfl,?_⟩;refine zU 9 ?_;refine fR 10 ?_;refine eS 1 _ bb10 o3.sl.one fun v4 p4 => ?_;refine aG ⟨bF rfl,?_⟩;refine qR ?_;have bb11:v4.heap[w8.heap.size]? = some (.cells [.int .i64 0,a3, .slice none 0 0, .slice none 0 0].toArray 112 (0,0)):=p4.this;have y11:=cH y10 p4;have ho11:=cM ho8 p4 bb10;have oa11:=cM o3 p4 bb10;have hc11:=hc8.put bb10 bG p4;refine_lift aX ?_;exact ⟨⟨j + 1,a3,true,aE,by rw [mY hlt,hof,Bool.or_true],rfl,by go_num,y11,bb11,oa11,ho11,hc11⟩,by simp [intOf];omega⟩
           ·have hof:bN kq (aW l n)[j]=false:=by simp [bN,hk1,hk2]
            refine bS aR aR ?_;refine_lift oR ?_;rw [decide_eq_false hk1];refine_lift oR ?_;rw [decide_eq_false hk2];refine_lift oR ?_;intro w2 x2;refine_lift aX ?_;exact ⟨⟨j + 1,a',b,aE,by rw [mY hlt,hof,Bool.or_false];exact hb,rfl,by go_num,yr.trans x2,x2.at br,by rw [LB hlt hof];exact or'.ext x2,hou.ext x2,hcr.ext x2⟩,by simp [intOf];omega⟩
         ·have hT:(aW l n).take j=aW l n:=by rw [show j=(aW l n).length by omega,List.take_length]
          rw [hT] at or' hb;clear hjl hjl0 hT;have on3:=Own.nil w8.heap.size 4 67 wr;cases b with
          | false =>
           have hF:(aW l n).filter (bN kq)=[]:=List.filter_eq_nil_iff.2 fun s hs h=>by
            have:=List.any_eq_true.2 ⟨s,hs,h⟩;rw [← hb] at this;cases this
           rw [hF] at or';rw [if_pos hF] at e1 e2 e3;simp only [Bool.false_eq_true,if_false,List.append_nil] at e1 e2 e3;have or9:Own w8.heap.size 4 67 wr a' (aJ A):=by simpa [aO] using or'
           clear or';refine_lift QV fun _ _ _ _ _ => ?_;refine eS 0 _ br rfl fun d1 pd1 => ?_;have bd1:d1.heap[w8.heap.size]? = some (.cells [.int .i64 1,a', .slice none 0 0, .slice none 0 0].toArray 112 (0,0)):=pd1.this;have yd1:=cH yr pd1;have rd1:=aA (pd1.at (yr.at b8) aE);have od1:=cM or9 pd1 br;have qd1:=aA (cs:=[.int .i64 1,a', .slice none 0 0, .slice none 0 0]) bd1;refine_lift aX ?_;refine nG (e:=67) (k:=4) (bytes:=48) (xs:=[oM (eG o l)]) (by simp [Value.cells,oM]) fun v2d d2 xd2 _ sl2d od2' => ?_;refine aD ?_;have od2:Own d1.heap.size 4 67 d2 v2d (aJ [eG o l]):=od2';have bd2:=xd2.at bd1;have qd2:=qd1.ext xd2;have odA:=od1.ext xd2;refine_lift aX ?_;refine eS 2 _ bd2 od2.sl.one fun d3 pd3 => ?_;have bd3:d3.heap[w8.heap.size]? = some (.cells [.int .i64 1,a',v2d, .slice none 0 0].toArray 112 (0,0)):=pd3.this;have yd3:=cH (yd1.trans xd2) pd3;have odB:=cM odA pd3 bd2;have odU:=(cM od2 pd3 bd2).weaken yd1.size;have hRk:(cX o l kq 9 0 (fold q)).kind=1:=e1;have hRa:(cX o l kq 9 0 (fold q)).ans=A:=e2;have hRu:(cX o l kq 9 0 (fold q)).auth=[eG o l]:=e3;have hfit:=iJ hz kq 9 0 (fold q);have hlen:=kK (o:=o) hz.chk hl200 kq 9 0 (fold q);rw [hRk,hRa,hRu] at hfit hA;rw [hRa,hRu] at hlen;have bEnd:=aA (cs:=[.int .i64 1,a',v2d, .slice none 0 0]) bd3;have pEnd:=hp8.ext yd3;refine_lift cC fun _ _ => ?_;refine gE (oP o v l 1 A [eG o l] a' v2d _ (hv8.ext yd3) odB.sl odU.sl hz aE aE (fun r hr=>(hfit r hr).1) (fun r hr=>(hfit r hr).2)) fun rE wE xE hrE => ?_;obtain ⟨yE,rfl,oE⟩:=hrE;have xF:=yd3.trans xE;have hF:=xF.at h8;have aF:=odB.ext xE;have uF:=odU.ext xE;have zF:=yd3.size;have zw:w.heap.size≤w8.heap.size:=hx8.size;refine_lift aX ?_;refine dS (v:=.agg #[.int .i64 1,a',v2d,yE]) hF (fI rfl aF.sl.one uF.sl.one oE.sl.one) fun wG pG => ?_;refine_lift aX ?_;refine nH (cs:=[.int .i64 1,a',v2d,yE]) pG.this ⟨_,rfl,(hx8.trans xF).move pG.mv (by rintro k ⟨⟩;exact z2),?_⟩;rw [hA,hE];exact ⟨_,rfl,a',v2d,yE,rfl,(cM aF pG hF).weaken zw,(cM uF pG hF).weaken zw,(cM oE pG hF).weaken aE⟩
          | true =>
           have hF:¬ (aW l n).filter (bN kq)=[]:=fun h=>by
            obtain ⟨s,hs,hk⟩:=List.any_eq_true.1 hb.symm;exact List.filter_eq_nil_iff.1 h s hs hk
           rw [if_neg hF] at e1 e2 e3;simp only [Bool.false_eq_true,if_false,List.append_nil] at e1 e2 e3;refine_lift rI fun _ _ _ => ?_;have hRk:(cX o l kq 9 0 (fold q)).kind=0:=e1;have hRa:(cX o l kq 9 0 (fold q)).ans=(A ++ aO ((aW l n).filter (bN kq))):=e2;have hRu:(cX o l kq 9 0 (fold q)).auth=[]:=e3;have hfit:=iJ hz kq 9 0 (fold q);have hlen:=kK (o:=o) hz.chk hl200 kq 9 0 (fold q);rw [hRk,hRa,hRu] at hfit hA;rw [hRa,hRu] at hlen;have bEnd:=aA (cs:=[.int .i64 0,a',(.slice none 0 0), .slice none 0 0]) br;have pEnd:=hp8.ext yr;refine_lift aX ?_;refine gE (oP o v l 0 (A ++ aO ((aW l n).filter (bN kq))) [] a' (.slice none 0 0) _ (hv8.ext yr) or'.sl on3.sl hz aE aE (fun r hr=>(hfit r hr).1) (fun r hr=>(hfit r hr).2)) fun rE wE xE hrE => ?_;obtain ⟨yE,rfl,oE⟩:=hrE;have xF:=yr.trans xE;have hF:=xF.at h8;have aF:=or'.ext xE;have uF:=on3.ext xE;have zF:=yr.size;have zw:w.heap.size≤w8.heap.size:=hx8.size;refine_lift aX ?_;refine dS (v:=.agg #[.int .i64 0,a',(.slice none 0 0),yE]) hF (fI rfl aF.sl.one uF.sl.one oE.sl.one) fun wG pG => ?_;refine_lift aX ?_;refine nH (cs:=[.int .i64 0,a',(.slice none 0 0),yE]) pG.this ⟨_,rfl,(hx8.trans xF).move pG.mv (by rintro k ⟨⟩;exact z2),?_⟩;rw [hA,hE];exact ⟨_,rfl,a',(.slice none 0 0),yE,rfl,(cM aF pG hF).weaken zw,(cM uF pG hF).weaken zw,(cM oE pG hF).weaken aE⟩
def zL (m:MsgR) (code:Int):MsgR:=⟨m.id,true,m.op,false,false,m.want,false,code,m.qs,[],[],[],1232⟩
def FY (m:MsgR) (code:Int):MsgR:=⟨m.id,true,m.op,false,false,m.want,false,code,[],[],[],[],0⟩
theorem jP (m:MsgR) (q a u e:Value) (code:Int) (w:World) (hm:MsgV w m q a u e) (hl:m.qs.length≤1000):Calls Tryz.prog 25 #[.agg (aM m q a u e).toArray, .int .i64 code] w (oQ w fun r w'=>∃ q',r=.agg (aM (bareR m code) q' aH aH aH).toArray∧Own w.heap.size 2 45 w' q' (cR m.qs)):=by
 have hql:=dC m.qs;go_enter Tryz.func25,Tryz.ntmps25
 refine_lift DF ?_;intro _ _ _;refine zV (vs:=aM m q a u e) fun w1 x1 s1 hb1 => ?_;refine aD ?_;refine fO (z:=fB) fun w2 x2 s2 h2 => ?_;refine aD ?_;have x02:=x1.trans x2;have hb2:=x2.at hb1;have hpM:=aA (cs:=aM m q a u e) hb2;unfold aM at hpM;have hq2:=hm.qs.ext x02;have z1:=x1.size;refine_lift cC fun _ _ => ?_;refine bZ (v:=.agg (aM (FY m code) aH aH aH aH).toArray) rfl (Runs.build (vals:=[(0, .int .i64 m.id),(2, .int .i64 m.op),(5, .bool m.want),(1, .bool true),(7, .int .i64 code)]) rfl (by kernel_rfl)) ?_;refine aD ?_;refine_lift aX ?_;refine fO (z:=fB) fun w3 x3 s3 h3 => ?_;refine aD ?_;refine dS (v:=.agg (aM (FY m code) aH aH aH aH).toArray) h3 (bY (m:=FY m code) (w:=w3) ⟨Sl.nil _ _,Sl.nil _ _,Sl.nil _ _,Sl.nil _ _⟩) fun w4 p4 => ?_;have x4:=cH x3 p4;have hB4:w4.heap[w2.heap.size]? = some (.cells (aM (FY m code) aH aH aH aH).toArray 48 (0,0)):=p4.this;clear p4 h3 x3;generalize hBk:w2.heap.size=B at *;have hpB:=aA (cs:=aM (FY m code) aH aH aH aH) hB4;unfold aM FY at hpB;have hpM4:=hpM.ext x4;have hq4:=hq2.ext x4;have hh2:=x4.at h2;refine_lift cC fun _ _ => ?_;refine aZ (e:=45) (k:=2) rfl (Own.nil w.heap.size 2 45 w4) rfl hq4 (uQ) (x02.trans x4).size (by simp;omega) ?_;intro v5 w5 o5 m5 _;refine aD ?_;have hB5:=m5.at hB4 (by rintro ⟨⟩);have hh5:=m5.at hh2 (by rintro ⟨⟩);have x5:Ext w4 w5:=(Own.nil w4.heap.size 2 45 w4).mvx m5 (Ext.refl _) (Nat.le_refl _);have x25:=x4.trans x5;have hpM5:=hpM.ext x25;rw [List.nil_append] at o5;clear hpB hpM4;refine_lift aX ?_;refine eS 8 v5 hB5 o5.sl.one fun w6 p6 => ?_;have hB6:w6.heap[B]? = some (.cells (aM (bareN m code) v5 aH aH aH).toArray 48 (0,0)):=p6.this;have x26:=cH x25 p6;have o6:=cM o5 p6 hB5;have hpM6:=hpM.ext x26;have hh6:=p6.mv.at hh5 (by intro e9;have:=Option.some.inj e9;omega);have hpB6:=aA (cs:=aM (bareN m code) v5 aH aH aH) hB6;clear hpM5;unfold aM bareN at hpB6;by_cases c0:m.size=0
 ·have hR:bareR m code=bareN m code:=by unfold bareR bareN;rw [if_pos c0]
  refine_lift rT (fun _ _ _ => ?_) (fun _ _ _ => ?_)
  all_goals first
   | (have hh:False:=by have h9:=‹(!decide (m.size=0))=true›;rw [decide_eq_true c0] at h9;cases h9
      exact hh.elim)
   | skip
  have hmF:MsgV w6 (bareN m code) v5 aH aH aH:=⟨o6.sl,Sl.nil _ _,Sl.nil _ _,Sl.nil _ _⟩;refine dS (v:=.agg (aM (bareN m code) v5 aH aH aH).toArray) hh6 (bY hmF) fun w7 p7 => ?_;refine_lift aX ?_;refine xB (cs:=aM (bareN m code) v5 aH aH aH) p7.this ⟨_,rfl,(x02.trans x26).move p7.mv (by rintro k ⟨⟩;exact z1),v5,by rw [hR],?_⟩;exact cM o6 p7 hh6
 ·have hR:bareR m code=zL m code:=by unfold bareR zL;rw [if_neg c0]
  refine_lift rT (fun _ _ _ => ?_) (fun _ _ _ => ?_)
  all_goals first
   | (have hh:False:=by have h9:=‹(!decide (m.size=0))=false›;rw [decide_eq_false c0] at h9;cases h9
      exact hh.elim)
   | skip
  refine eS 12 (.int .i64 1232) hB6 rfl fun w7 p7 => ?_;have hB7:w7.heap[B]? = some (.cells (aM (zL m code) v5 aH aH aH).toArray 48 (0,0)):=p7.this;have x27:=cH x26 p7;have o7:=cM o6 p7 hB6;have hh7:=p7.mv.at hh6 (by intro e9;have:=Option.some.inj e9;omega);have hpB7:=aA (cs:=aM (zL m code) v5 aH aH aH) hB7;clear hpB6;unfold aM zL at hpB7;refine_lift cC fun _ _ => ?_;have hmF:MsgV w7 (zL m code) v5 aH aH aH:=⟨o7.sl,Sl.nil _ _,Sl.nil _ _,Sl.nil _ _⟩;refine dS (v:=.agg (aM (zL m code) v5 aH aH aH).toArray) hh7 (bY hmF) fun w8 p8 => ?_;refine_lift aX ?_;refine xB (cs:=aM (zL m code) v5 aH aH aH) p8.this ⟨_,rfl,(x02.trans x27).move p8.mv (by rintro k ⟨⟩;exact z1),v5,by rw [hR],?_⟩;exact cM o7 p8 hh7
theorem QM (v:Value) (hs:List HldR) (m:MsgR) (q a u e:Value) (w:World) (hv:HldsAt w v hs) (hm:MsgV w m q a u e) (hl:hs.length≤1000) (hb:∀ h ∈ hs,∀ s ∈ h.l,s.data.length≤1000000) (hd:∀ h ∈ hs,∀ s ∈ h.l,∀ d ∈ s.data,d.length≤4611686018427387904) (hmd:∀ r,r ∈ m.an∨r ∈ m.au∨r ∈ m.ex→r.data.length≤4611686018427387904):Calls Tryz.prog 23 #[v, .agg (aM m q a u e).toArray] w (oQ w (UA w (cT hs m))):=by
 obtain ⟨css,hsl,hcl⟩:=hv.sl;go_enter Tryz.func23,Tryz.ntmps23
 refine_lift mS fun _ _ => ?_;refine zV (vs:=aM m q a u e) fun w1 x1 s1 hb1 => ?_;refine aD ?_;refine fO (z:=fB) fun w2 x2 s2 hz2 => ?_;refine aD ?_;have x02:=x1.trans x2;have hpM:=aA (cs:=aM m q a u e) (x2.at hb1);unfold aM at hpM;have hm2:=hm.ext x02;refine_lift qQ fun _ _ _ _ => ?_;refine cY (CG m q a u e _ hm2 hmd) fun w3 x3 => ?_;have x03:=x02.trans x3;have hz3:=x3.at hz2;have hm3:=hm2.ext x3;have hpM:=hpM.ext x3;by_cases cc:cS m=0
 ·have hok:=mX cc;have hlq:m.qs.length≤1000:=by have:=hok.ql;omega
  have hql:=dC m.qs;cases cr:m.resp with
  | true =>
   have hR:cT hs m=bareR m 1:=by unfold cT;rw [if_neg (by simpa using cc),if_pos cr]
   rw [cr] at hpM
   (repeat' first | ((with_reducible refine cQ ?_);go_step) | ((with_reducible refine bM ?_);first | refine gR ?_ | (refine cV ?_ ?_ <;> intro hc)) | fail)
   all_goals first
    | (exfalso;omega)
    | (exfalso;rename_i hz9;simp at hz9;omega)
    | (exfalso;simp_all;done)
    | skip
   rw [← cr];refine gE (jP m q a u e 1 _ (hm3) hlq) ?_;intro _ wb xb ⟨qb,er,ob⟩;subst er;refine aD ?_;have hmb:MsgV wb (bareR m 1) qb aH aH aH:=⟨ob.sl,Sl.nil _ _,Sl.nil _ _,Sl.nil _ _⟩;have hzb:=xb.at hz3;refine dS (v:=.agg (aM (bareR m 1) qb aH aH aH).toArray) hzb (bY hmb) fun wc pc => ?_;have xc:=cH ((x03).trans xb) pc;refine_lift aX ?_;refine xB (cs:=aM (bareR m 1) qb aH aH aH) pc.this ⟨_,rfl,xc,qb,aH,aH,aH,by rw [hR],?_⟩;rw [hR];exact ⟨(cM ob pc hzb).weaken (x03).size,Own.nil _ _ _ _,Own.nil _ _ _ _,Own.nil _ _ _ _⟩
  | false =>
   have hR0:cT hs m=_:=rfl
   conv at hR0=>rhs;unfold cT;rw [if_neg (by simpa using cc),if_neg (by rw [cr];decide)]
   rw [cr] at hpM;by_cases co:m.op=0
   ·rw [if_neg (by simpa using co)] at hR0;have hq3:=hm3.qs;by_cases c1:m.qs.length=1
    ·rw [if_neg (by simpa using c1)] at hR0;obtain ⟨⟨xn,xk⟩,hx1⟩:∃ x,m.qs=[x]:=List.length_eq_one_iff.1 c1;have hxh:m.qs.head! = (xn,xk):=by rw [hx1];rfl
     rw [hxh] at hR0;dsimp only at hR0;have hqe:=hq3.elem (i:=0) (e:=[aI xn, .int .i64 xk]) (by rw [hx1];rfl)
     (repeat' first | ((with_reducible refine cQ ?_);go_step) | ((with_reducible refine bM ?_);first | refine gR ?_ | (refine cV ?_ ?_ <;> intro hc)) | fail)
     all_goals first
      | (exfalso;omega)
      | (exfalso;rename_i hz9;simp at hz9;omega)
      | (exfalso;simp_all;done)
      | skip
     refine fO (z:=[aI [], .int .i64 0]) fun w4 x4 s4 h4 => ?_;refine aD ?_;refine dS (v:=.agg #[aI xn, .int .i64 xk]) h4 (TY rfl rfl) fun w5 p5 => ?_;have x5:=cH x4 p5;have hpx:=aA (cs:=[aI xn, .int .i64 xk]) p5.this;have hpM:=hpM.ext x5;have hm5:=hm3.ext x5;have hz5:=x5.at hz3;have x05:=x03.trans x5;clear p5 h4 x4 hqe;generalize w3.heap.size=c at *;by_cases ct:xk=252∨xk=251
     ·have hR:cT hs m=bareR m 4:=by rw [hR0,if_pos ct]
      refine_lift VB (fun _ _ hc _ _ => ?_) (fun _ _ hc _ _ _ => ?_)
      all_goals first
       | (exfalso;omega)
       | skip
      all_goals rw [← cr]
      all_goals refine gE (jP m q a u e 4 _ (hm5) hlq) ?_
      all_goals intro _ wb xb ⟨qb,er,ob⟩
      all_goals subst er
      all_goals refine aD ?_
      all_goals have hmb:MsgV wb (bareR m 4) qb aH aH aH:=⟨ob.sl,Sl.nil _ _,Sl.nil _ _,Sl.nil _ _⟩
      all_goals have hzb:=xb.at hz5
      all_goals refine dS (v:=.agg (aM (bareR m 4) qb aH aH aH).toArray) hzb (bY hmb) ?_
      all_goals intro wc pc
      all_goals have xc:=cH ((x05).trans xb) pc
      all_goals refine_lift aX ?_
      all_goals refine xB (cs:=aM (bareR m 4) qb aH aH aH) pc.this ⟨_,rfl,xc,qb,aH,aH,aH,by rw [hR],?_⟩
      all_goals rw [hR]
      all_goals exact ⟨(cM ob pc hzb).weaken (x05).size,Own.nil _ _ _ _,Own.nil _ _ _ _,Own.nil _ _ _ _⟩
     ·rw [if_neg ct] at hR0
      (repeat' first | ((with_reducible refine cQ ?_);go_step) | ((with_reducible refine bM ?_);first | refine gR ?_ | (refine cV ?_ ?_ <;> intro hc)) | fail)
      all_goals first
       | (exfalso;omega)
       | skip
      refine cY (ZB v hs xn _ (hv.ext x05) hl) fun w6 x6 => ?_;have hpM:=hpM.ext x6;have hpx:=hpx.ext x6;have hm6:=hm5.ext x6;have hz6:=x6.at hz5;have x06:=x05.trans x6;cases hof:UR hs xn with
      | none =>
       rw [hof] at hR0;have hR:cT hs m=bareR m 5:=hR0;refine_lift QV fun _ _ _ _ _ => ?_;rw [← cr];refine gE (jP m q a u e 5 _ (hm6) hlq) ?_;intro _ wb xb ⟨qb,er,ob⟩;subst er;refine aD ?_;have hmb:MsgV wb (bareR m 5) qb aH aH aH:=⟨ob.sl,Sl.nil _ _,Sl.nil _ _,Sl.nil _ _⟩;have hzb:=xb.at hz6;refine dS (v:=.agg (aM (bareR m 5) qb aH aH aH).toArray) hzb (bY hmb) fun wc pc => ?_;have xc:=cH ((x06).trans xb) pc;refine_lift aX ?_;refine xB (cs:=aM (bareR m 5) qb aH aH aH) pc.this ⟨_,rfl,xc,qb,aH,aH,aH,by rw [hR],?_⟩;rw [hR];exact ⟨(cM ob pc hzb).weaken (x06).size,Own.nil _ _ _ _,Own.nil _ _ _ _,Own.nil _ _ _ _⟩
      | some i =>
       rw [hof] at hR0;dsimp only at hR0;have hil:=TZ hof;have hbang:hs[i]! = hs[i]:=getElem!_pos hs i hil;rw [hbang] at hR0;obtain ⟨y,hel,hsy⟩:=(hv.ext x06).elem (List.getElem?_eq_getElem hil);have hbi:=hb _ (List.getElem_mem hil);have hdi:=hd _ (List.getElem_mem hil);generalize hs[i]=H at *;refine_lift rI fun _ _ _ => ?_;refine fO (z:=Ap) fun w7 x7 s7 h7 => ?_;refine aD ?_;refine dS (v:=.agg #[aI H.o,y,aI H.org, .bool H.up]) h7 (fI rfl (by obtain ⟨_,hq,_⟩:=hsy.sl;exact hq.one) rfl rfl) fun w8 p8 => ?_;have x68:=cH x7 p8;have hb8:w8.heap[w6.heap.size]? = some (.cells [aI H.o,y,aI H.org, .bool H.up].toArray 37 (0,0)):=p8.this;have hel8:=aA (cs:=[aI H.o,y,aI H.org, .bool H.up]) hb8;have hpM:=hpM.ext x68;have hpx:=hpx.ext x68;have hm8:=hm6.ext x68;have hz8:=x68.at hz6;have hsy8:=hsy.ext x68;have x08:=x06.trans x68;clear p8 h7 x7 hel;generalize w6.heap.size=hB6 at *;have hH:OD m H (xn,xk)=if H.up=false∨nW H.o H.l xn≠0∨H.o≠fold H.org then bareR m 2 else iO m (rB H.o H.l xn xk):=rfl
       rw [hH] at hR0;have hcA:∀ w',Ext w8 w'→Calls Tryz.prog 58 #[.agg #[aI H.o,y], .agg #[aI xn, .int .i64 xk]] w' (oQ w' fun r w3=>∃ z,r=.tuple #[z, .int .i64 (nW H.o H.l xn)]∧AnsO w'.heap.size (rB H.o H.l xn xk) z w3):=fun w' x'=>ZC H.o y H.l xn xk w' (hsy8.ext x') hbi hdi;generalize nW H.o H.l xn=E at *;generalize rB H.o H.l xn xk=A at *;have hel0:Pts w8 (dZ (.pointer (some ⟨hB6,0,none⟩)) 0) [aI H.o,y]:=(hel8.front 2).part 0;refine_lift cC fun _ _ => ?_;refine gE (hcA _ (Ext.refl _)) ?_;rintro _ w20 x20 ⟨z,rfl,u1,u2,u3,rfl,o1,o2,o3⟩;refine aD ?_;clear hel0 hpx;refine_lift aX ?_;refine fO (z:=mO) fun w21 x21 s21 h21 => ?_;refine aD ?_;refine dS (v:=.agg #[.int .i64 A.kind,u1,u2,u3]) h21 (fI rfl (o1.ext x21).sl.one (o2.ext x21).sl.one (o3.ext x21).sl.one) fun w9 p9 => ?_;have x209:=cH x21 p9;have k7':w9.heap[w20.heap.size]? = some (.cells [.int .i64 A.kind,u1,u2,u3].toArray 112 (0,0)):=p9.this;have x9:=x20.trans x209;have o1:=(o1.ext x209).weaken x08.size;have o2:=(o2.ext x209).weaken x08.size;have o3:=(o3.ext x209).weaken x08.size;clear p9 h21 x21 hcA;generalize w20.heap.size=zk at *;have hpa:=aA (cs:=[.int .i64 A.kind,u1,u2,u3]) k7';have hpM:=hpM.ext x9;have hel:=hel8.ext x9;have hm9:=hm8.ext x9;have hz9:=x9.at hz8;have x09:=x08.trans x9;clear hel8;have hcF:∀ w',Calls Tryz.prog 59 #[aI H.org] w' (bC w' (aI (fold H.org))):=fun w'=>mI H.org w';refine_lift qQ fun _ _ _ _ => ?_;cases hup:H.up with
       | false =>
        rw [hup] at hel hR0;rw [if_pos (.inl rfl)] at hR0;refine bS aR aR ?_;refine_lift oR ?_;intro w10 x10;have hpM:=hpM.ext x10;refine_lift cC fun _ _ => ?_;rw [← cr];refine gE (jP m q a u e 2 _ (hm9.ext x10) hlq) ?_;intro _ wb xb ⟨qb,er,ob⟩;subst er;refine aD ?_;have hmb:MsgV wb (bareR m 2) qb aH aH aH:=⟨ob.sl,Sl.nil _ _,Sl.nil _ _,Sl.nil _ _⟩;have hzb:=xb.at (x10.at hz9);refine dS (v:=.agg (aM (bareR m 2) qb aH aH aH).toArray) hzb (bY hmb) fun wc pc => ?_;have xc:=cH ((x09.trans x10).trans xb) pc;refine_lift aX ?_;refine xB (cs:=aM (bareR m 2) qb aH aH aH) pc.this ⟨_,rfl,xc,qb,aH,aH,aH,by rw [hR0],?_⟩;rw [hR0];exact ⟨(cM ob pc hzb).weaken (x09.trans x10).size,Own.nil _ _ _ _,Own.nil _ _ _ _,Own.nil _ _ _ _⟩
       | true =>
        rw [hup] at hel hR0;by_cases hE0:E=0
        ·refine bS aR aR ?_;refine_lift oR ?_;rw [show (!decide (E=0))=false by rw [hE0];rfl];refine_lift oR ?_;refine eJ (enters_of Tryz.func59 rfl rfl) rfl rfl (fun w' x'=>hcF w') ?_;refine aD ?_;refine_lift oR ?_;intro w10 x10;have hpM:=hpM.ext x10;have hpa:=hpa.ext x10;have hm10:=hm9.ext x10;have hz10:=x10.at hz9;have x010:=x09.trans x10;by_cases ho:H.o=fold H.org
         ·rw [if_neg (by rintro (h | h | h);cases h;exact h hE0;exact h ho)] at hR0;refine_lift rT (fun _ _ _ => ?_) (fun _ _ _ => ?_)
          all_goals first
           | (have hh:False:=by have hh9:=‹(!decide (H.o=fold H.org))=true›;rw [decide_eq_true ho] at hh9;cases hh9
              exact hh.elim)
           | skip
          rw [← cr];refine gE (jP m q a u e 0 _ hm10 hlq) ?_;intro _ wb xb ⟨qb,er,ob⟩;subst er;refine aD ?_;refine fO (z:=fB) fun w11 x11 s11 h11 => ?_;refine aD ?_;have hmb:MsgV w11 (bareR m 0) qb aH aH aH:=⟨(ob.ext x11).sl,Sl.nil _ _,Sl.nil _ _,Sl.nil _ _⟩;refine dS (v:=.agg (aM (bareR m 0) qb aH aH aH).toArray) h11 (bY hmb) fun w12 p12 => ?_;have x12:=cH x11 p12;have hB:w12.heap[wb.heap.size]? = some (.cells (aM (bareR m 0) qb aH aH aH).toArray 48 (0,0)):=p12.this;have ob12:=ob.ext x12;have q1:=o1.one;have q2:=o2.one;have q3:=o3.one;have x10b:=xb.trans x12;have hBB:w10.heap.size≤wb.heap.size:=xb.size;have hpa0:=hpa;have hpa:=hpa.ext x10b;clear p12 h11 x11 hmb hpM;generalize wb.heap.size=BB at *;have hpB:=aA (cs:=aM (bareR m 0) qb aH aH aH) hB;unfold aM bareR at hpB;clear hel;by_cases k2:A.kind=2
          ·have hBa:w12.heap[BB]? = some (.cells [.int .i64 m.id, .bool true, .int .i64 m.op, .bool false, .bool false, .bool m.want, .bool false, .int .i64 0,qb,aH,aH,aH, .int .i64 (if m.size=0 then 0 else 1232)].toArray 48 (0,0)):=hB;refine_lift rI fun _ _ _ => ?_
           all_goals first
            | (have hh:False:=aE
               exact hh.elim)
            | skip
           refine eS 7 (.int .i64 3) hBa rfl fun w13 p13 => ?_;have x13:=cH x10b p13;have hB13:w13.heap[BB]? = some (.cells [.int .i64 m.id, .bool true, .int .i64 m.op, .bool false, .bool false, .bool m.want, .bool false, .int .i64 3,qb,aH,aH,aH, .int .i64 (if m.size=0 then 0 else 1232)].toArray 48 (0,0)):=p13.this;have ob13:=cM ob12 p13 hBa;clear hpa;have hpa:=hpa0.ext x13;refine_lift cC fun _ _ => ?_;refine eS 3 (.bool (!decide (A.kind=3))) hB13 rfl fun w14 p14 => ?_;have x14:=cH x13 p14;have hB14:w14.heap[BB]? = some (.cells [.int .i64 m.id, .bool true, .int .i64 m.op, .bool (!decide (A.kind=3)), .bool false, .bool m.want, .bool false, .int .i64 3,qb,aH,aH,aH, .int .i64 (if m.size=0 then 0 else 1232)].toArray 48 (0,0)):=p14.this;have ob14:=cM ob13 p14 hB13;clear hpa;have hpa:=hpa0.ext x14;refine_lift cC fun _ _ => ?_;refine eS 9 u1 hB14 q1 fun w15 p15 => ?_;have x15:=cH x14 p15;have hB15:w15.heap[BB]? = some (.cells [.int .i64 m.id, .bool true, .int .i64 m.op, .bool (!decide (A.kind=3)), .bool false, .bool m.want, .bool false, .int .i64 3,qb,u1,aH,aH, .int .i64 (if m.size=0 then 0 else 1232)].toArray 48 (0,0)):=p15.this;have ob15:=cM ob14 p15 hB14;clear hpa;have hpa:=hpa0.ext x15;refine_lift cC fun _ _ => ?_;refine eS 10 u2 hB15 q2 fun w16 p16 => ?_;have x16:=cH x15 p16;have hB16:w16.heap[BB]? = some (.cells [.int .i64 m.id, .bool true, .int .i64 m.op, .bool (!decide (A.kind=3)), .bool false, .bool m.want, .bool false, .int .i64 3,qb,u1,u2,aH, .int .i64 (if m.size=0 then 0 else 1232)].toArray 48 (0,0)):=p16.this;have ob16:=cM ob15 p16 hB15;clear hpa;have hpa:=hpa0.ext x16;refine_lift cC fun _ _ => ?_;refine eS 11 u3 hB16 q3 fun w17 p17 => ?_;have x17:=cH x16 p17;have hB17:w17.heap[BB]? = some (.cells [.int .i64 m.id, .bool true, .int .i64 m.op, .bool (!decide (A.kind=3)), .bool false, .bool m.want, .bool false, .int .i64 3,qb,u1,u2,u3, .int .i64 (if m.size=0 then 0 else 1232)].toArray 48 (0,0)):=p17.this;have ob17:=cM ob16 p17 hB16;clear hpa;have hpa:=hpa0.ext x17;have hT:iO m A=⟨m.id,true,m.op,!decide (A.kind=3),false,m.want,false,3,m.qs,A.ans,A.auth,A.extra,if m.size=0 then 0 else 1232⟩:=by
            unfold iO bareR;rw [if_pos k2]
           have hpC:=aA (cs:=[.int .i64 m.id, .bool true, .int .i64 m.op, .bool (!decide (A.kind=3)), .bool false, .bool m.want, .bool false, .int .i64 3,qb,u1,u2,u3, .int .i64 (if m.size=0 then 0 else 1232)]) hB17;refine_lift cC fun _ _ => ?_;have xe:Ext w9 w17:=x10.trans x17;have hmF:MsgV w17 (iO m A) qb u1 u2 u3:=by
            rw [hT];exact ⟨ob17.sl,(o1.ext xe).sl,(o2.ext xe).sl,(o3.ext xe).sl⟩
           have hzF:=x17.at hz10;refine iQ (v:=.agg (aM (iO m A) qb u1 u2 u3).toArray) rfl rfl (by rw [hT];rfl) hzF (aR:gL Tryz.prog 48 13=true) rfl (bY hmF) ?_;intro w19 p19;have x19:=cH (x09.trans xe) p19;refine_lift aX ?_;refine xB (cs:=aM (iO m A) qb u1 u2 u3) p19.this ⟨_,rfl,x19,qb,u1,u2,u3,by rw [hR0],?_⟩;rw [hR0,hT];have f0:=cM ob17 p19 hzF;have f1:=cM (o1.ext xe) p19 hzF;have f2:=cM (o2.ext xe) p19 hzF;have f3:=cM (o3.ext xe) p19 hzF;exact ⟨f0.weaken x010.size,f1,f2,f3⟩
          ·have hBa:w12.heap[BB]? = some (.cells [.int .i64 m.id, .bool true, .int .i64 m.op, .bool false, .bool false, .bool m.want, .bool false, .int .i64 0,qb,aH,aH,aH, .int .i64 (if m.size=0 then 0 else 1232)].toArray 48 (0,0)):=hB;refine_lift rI fun _ _ _ => ?_
           all_goals first
            | (have hh:False:=aE
               exact hh.elim)
            | skip
           refine eS 3 (.bool (!decide (A.kind=3))) hBa rfl fun w13 p13 => ?_;have x13:=cH x10b p13;have hB13:w13.heap[BB]? = some (.cells [.int .i64 m.id, .bool true, .int .i64 m.op, .bool (!decide (A.kind=3)), .bool false, .bool m.want, .bool false, .int .i64 0,qb,aH,aH,aH, .int .i64 (if m.size=0 then 0 else 1232)].toArray 48 (0,0)):=p13.this;have ob13:=cM ob12 p13 hBa;clear hpa;have hpa:=hpa0.ext x13;refine_lift cC fun _ _ => ?_;refine eS 9 u1 hB13 q1 fun w14 p14 => ?_;have x14:=cH x13 p14;have hB14:w14.heap[BB]? = some (.cells [.int .i64 m.id, .bool true, .int .i64 m.op, .bool (!decide (A.kind=3)), .bool false, .bool m.want, .bool false, .int .i64 0,qb,u1,aH,aH, .int .i64 (if m.size=0 then 0 else 1232)].toArray 48 (0,0)):=p14.this;have ob14:=cM ob13 p14 hB13;clear hpa;have hpa:=hpa0.ext x14;refine_lift cC fun _ _ => ?_;refine eS 10 u2 hB14 q2 fun w15 p15 => ?_;have x15:=cH x14 p15;have hB15:w15.heap[BB]? = some (.cells [.int .i64 m.id, .bool true, .int .i64 m.op, .bool (!decide (A.kind=3)), .bool false, .bool m.want, .bool false, .int .i64 0,qb,u1,u2,aH, .int .i64 (if m.size=0 then 0 else 1232)].toArray 48 (0,0)):=p15.this;have ob15:=cM ob14 p15 hB14;clear hpa;have hpa:=hpa0.ext x15;refine_lift cC fun _ _ => ?_;refine eS 11 u3 hB15 q3 fun w16 p16 => ?_;have x16:=cH x15 p16;have hB16:w16.heap[BB]? = some (.cells [.int .i64 m.id, .bool true, .int .i64 m.op, .bool (!decide (A.kind=3)), .bool false, .bool m.want, .bool false, .int .i64 0,qb,u1,u2,u3, .int .i64 (if m.size=0 then 0 else 1232)].toArray 48 (0,0)):=p16.this;have ob16:=cM ob15 p16 hB15;clear hpa;have hpa:=hpa0.ext x16;have hT:iO m A=⟨m.id,true,m.op,!decide (A.kind=3),false,m.want,false,0,m.qs,A.ans,A.auth,A.extra,if m.size=0 then 0 else 1232⟩:=by
            unfold iO bareR;rw [if_neg k2]
           have hpC:=aA (cs:=[.int .i64 m.id, .bool true, .int .i64 m.op, .bool (!decide (A.kind=3)), .bool false, .bool m.want, .bool false, .int .i64 0,qb,u1,u2,u3, .int .i64 (if m.size=0 then 0 else 1232)]) hB16;refine_lift cC fun _ _ => ?_;have xe:Ext w9 w16:=x10.trans x16;have hmF:MsgV w16 (iO m A) qb u1 u2 u3:=by
            rw [hT];exact ⟨ob16.sl,(o1.ext xe).sl,(o2.ext xe).sl,(o3.ext xe).sl⟩
           have hzF:=x16.at hz10;refine iQ (v:=.agg (aM (iO m A) qb u1 u2 u3).toArray) rfl rfl (by rw [hT];rfl) hzF (aR:gL Tryz.prog 48 13=true) rfl (bY hmF) ?_;intro w19 p19;have x19:=cH (x09.trans xe) p19;refine_lift aX ?_;refine xB (cs:=aM (iO m A) qb u1 u2 u3) p19.this ⟨_,rfl,x19,qb,u1,u2,u3,by rw [hR0],?_⟩;rw [hR0,hT];have f0:=cM ob16 p19 hzF;have f1:=cM (o1.ext xe) p19 hzF;have f2:=cM (o2.ext xe) p19 hzF;have f3:=cM (o3.ext xe) p19 hzF;exact ⟨f0.weaken x010.size,f1,f2,f3⟩
         ·rw [if_pos (.inr (.inr ho))] at hR0;refine_lift rT (fun _ _ _ => ?_) (fun _ _ _ => ?_)
          all_goals first
           | (have hh:False:=by have hh9:=‹(!decide (H.o=fold H.org))=false›;rw [decide_eq_false ho] at hh9;cases hh9
              exact hh.elim)
           | skip
          rw [← cr];refine gE (jP m q a u e 2 _ (hm10) hlq) ?_;intro _ wb xb ⟨qb,er,ob⟩;subst er;refine aD ?_;have hmb:MsgV wb (bareR m 2) qb aH aH aH:=⟨ob.sl,Sl.nil _ _,Sl.nil _ _,Sl.nil _ _⟩;have hzb:=xb.at hz10;refine dS (v:=.agg (aM (bareR m 2) qb aH aH aH).toArray) hzb (bY hmb) fun wc pc => ?_;have xc:=cH ((x010).trans xb) pc;refine_lift aX ?_;refine xB (cs:=aM (bareR m 2) qb aH aH aH) pc.this ⟨_,rfl,xc,qb,aH,aH,aH,by rw [hR0],?_⟩;rw [hR0];exact ⟨(cM ob pc hzb).weaken (x010).size,Own.nil _ _ _ _,Own.nil _ _ _ _,Own.nil _ _ _ _⟩
        ·rw [if_pos (.inr (.inl hE0))] at hR0;refine bS aR aR ?_;refine_lift oR ?_;rw [show (!decide (E=0))=true by rw [decide_eq_false hE0];rfl];refine_lift oR ?_;intro w10 x10;have hpM:=hpM.ext x10;refine_lift cC fun _ _ => ?_;rw [← cr];refine gE (jP m q a u e 2 _ (hm9.ext x10) hlq) ?_;intro _ wb xb ⟨qb,er,ob⟩;subst er;refine aD ?_;have hmb:MsgV wb (bareR m 2) qb aH aH aH:=⟨ob.sl,Sl.nil _ _,Sl.nil _ _,Sl.nil _ _⟩;have hzb:=xb.at (x10.at hz9);refine dS (v:=.agg (aM (bareR m 2) qb aH aH aH).toArray) hzb (bY hmb) fun wc pc => ?_;have xc:=cH ((x09.trans x10).trans xb) pc;refine_lift aX ?_;refine xB (cs:=aM (bareR m 2) qb aH aH aH) pc.this ⟨_,rfl,xc,qb,aH,aH,aH,by rw [hR0],?_⟩;rw [hR0];exact ⟨(cM ob pc hzb).weaken (x09.trans x10).size,Own.nil _ _ _ _,Own.nil _ _ _ _,Own.nil _ _ _ _⟩
    ·have hR:cT hs m=bareR m 1:=by rw [hR0,if_pos (by simpa using c1)]
     have hd1:¬ ((cR m.qs).length:Int)=1:=aE
     (repeat' first | ((with_reducible refine cQ ?_);go_step) | ((with_reducible refine bM ?_);first | refine gR ?_ | (refine cV ?_ ?_ <;> intro hc)) | fail)
     all_goals first
      | (exfalso;exact hd1 (by simpa using ‹(!decide (((cR m.qs).length:Int)=1))=false›))
      | skip
     all_goals first
      | (exfalso;omega)
      | (exfalso;rename_i hz9;simp at hz9;omega)
      | (exfalso;simp_all;done)
      | skip
     rw [← cr];refine gE (jP m q a u e 1 _ (hm3) hlq) ?_;intro _ wb xb ⟨qb,er,ob⟩;subst er;refine aD ?_;have hmb:MsgV wb (bareR m 1) qb aH aH aH:=⟨ob.sl,Sl.nil _ _,Sl.nil _ _,Sl.nil _ _⟩;have hzb:=xb.at hz3;refine dS (v:=.agg (aM (bareR m 1) qb aH aH aH).toArray) hzb (bY hmb) fun wc pc => ?_;have xc:=cH ((x03).trans xb) pc;refine_lift aX ?_;refine xB (cs:=aM (bareR m 1) qb aH aH aH) pc.this ⟨_,rfl,xc,qb,aH,aH,aH,by rw [hR],?_⟩;rw [hR];exact ⟨(cM ob pc hzb).weaken (x03).size,Own.nil _ _ _ _,Own.nil _ _ _ _,Own.nil _ _ _ _⟩
   ·have hR:cT hs m=bareR m 4:=by rw [hR0,if_pos (by simpa using co)]
    (repeat' first | ((with_reducible refine cQ ?_);go_step) | ((with_reducible refine bM ?_);first | refine gR ?_ | (refine cV ?_ ?_ <;> intro hc)) | fail)
    all_goals first
     | (exfalso;omega)
     | (exfalso;rename_i hz9;simp at hz9;omega)
     | (exfalso;simp_all;done)
     | skip
    rw [← cr];refine gE (jP m q a u e 4 _ (hm3) hlq) ?_;intro _ wb xb ⟨qb,er,ob⟩;subst er;refine aD ?_;have hmb:MsgV wb (bareR m 4) qb aH aH aH:=⟨ob.sl,Sl.nil _ _,Sl.nil _ _,Sl.nil _ _⟩;have hzb:=xb.at hz3;refine dS (v:=.agg (aM (bareR m 4) qb aH aH aH).toArray) hzb (bY hmb) fun wc pc => ?_;have xc:=cH ((x03).trans xb) pc;refine_lift aX ?_;refine xB (cs:=aM (bareR m 4) qb aH aH aH) pc.this ⟨_,rfl,xc,qb,aH,aH,aH,by rw [hR],?_⟩;rw [hR];exact ⟨(cM ob pc hzb).weaken (x03).size,Own.nil _ _ _ _,Own.nil _ _ _ _,Own.nil _ _ _ _⟩
 ·have hR:cT hs m=CL:=by unfold cT;rw [if_pos cc]
  (repeat' first | ((with_reducible refine cQ ?_);go_step) | ((with_reducible refine bM ?_);first | refine gR ?_ | (refine cV ?_ ?_ <;> intro hc)) | fail)
  all_goals first
   | (exfalso;omega)
   | (exfalso;rename_i hz9;simp at hz9;omega)
   | (exfalso;simp_all;done)
   | skip
  refine aS (v:=.agg (aM CL aH aH aH aH).toArray) (Runs.build rfl (by kernel_rfl)) ?_;refine aD ?_;have hmb:MsgV w3 CL aH aH aH aH:=⟨Sl.nil _ _,Sl.nil _ _,Sl.nil _ _,Sl.nil _ _⟩;refine dS (v:=.agg (aM CL aH aH aH aH).toArray) hz3 (bY hmb) fun wc pc => ?_;have xc:=cH x03 pc;refine_lift aX ?_;refine xB (cs:=aM CL aH aH aH aH) pc.this ⟨_,rfl,xc,aH,aH,aH,aH,by rw [hR],?_⟩;rw [hR];exact ⟨Own.nil _ _ _ _,Own.nil _ _ _ _,Own.nil _ _ _ _,Own.nil _ _ _ _⟩
theorem ZD {hs:List HldR} (h:CR hs=true):∀ x ∈ hs,∀ s ∈ x.l,∀ d ∈ s.data,d.length≤4611686018427387904:=by
 simp only [CR,Bool.and_eq_true,decide_eq_true_eq,List.all_eq_true] at h;intro x hx s hs d hd;have:=(CD (h.2 x hx).1.2).2.2.2 s hs d hd;omega
theorem WS {last:Bool} {n f:Nat} {l:List Rec} {r:RdS} (h:(iN s last n f i l r).2.2.e=0):r.e=0:=by
 cases f with
 | zero=>exact h
 | succ f =>
  unfold iN at h;split at h
  ·exact h
  ·rename_i c
   simpa using c
theorem FZ {last:Bool} {n:Nat}:∀ (f i:Nat) (l:List Rec) (r:RdS),(iN s last n f i l r).2.2.e=0→l.length=i→i≤200→(∀ x ∈ l,aU x=0) →
 (iN s last n f i l r).1.length≤200∧(∀ x ∈ (iN s last n f i l r).1,aU x=0)∧((iN s last n f i l r).2.1=0∨(512≤(iN s last n f i l r).2.1∧(iN s last n f i l r).2.1≤65535))
 | 0,i,l,r,_,hl,hi,hx=>⟨by show l.length≤200;omega,hx, .inl rfl⟩
 | f + 1,i,l,r,h,hl,hi,hx=>by
   unfold iN at h ⊢;split
   ·exact ⟨by dsimp only;omega,hx, .inl rfl⟩
   ·rename_i c;rw [if_neg c] at h;split
    ·rename_i c2;rw [if_pos c2] at h;refine ⟨by dsimp only;omega,hx, .inr ?_⟩;have h2:=(kJ bG h).2;simp only [Bool.and_eq_true,decide_eq_true_eq] at h2;have h3:=bQ s (((eT s r).2.number s 2).2) 2 aE;have h4:(iD s r).cls < 65536:=h3;dsimp only;omega
    ·rename_i c2;rw [if_neg c2] at h;have h2:=(kJ bG (WS h)).2;simp only [Bool.and_eq_true,decide_eq_true_eq] at h2;exact FZ f (i + 1) _ _ h (by simp [hl]) aE (fun x hm=>by
      rw [List.mem_append,List.mem_singleton] at hm;rcases hm with hm | rfl
      ·exact hx x hm
      ·exact h2.2)
theorem qM {r:RdS} {n:Nat} {last:Bool} (h:(dX s r n last).2.2.e=0) :
 (dX s r n last).1.length≤200∧(∀ x ∈ (dX s r n last).1,aU x=0)∧((dX s r n last).2.1=0∨(512≤(dX s r n last).2.1∧(dX s r n last).2.1≤65535)) :=
 FZ _ _ _ _ h rfl aE (fun _ hx=>by cases hx)
theorem OF:∀ (f:Nat) (l:List rC) (r:RdS),(DA s f l r).2.e=0→(∀ q ∈ l,qG q=true)→∀ q ∈ (DA s f l r).1,qG q=true
 | 0,_,_,_,hl=>hl
 | f + 1,l,r,h,hl=>by
   unfold DA at h ⊢;split
   ·exact hl
   ·rename_i c;rw [if_neg c] at h;have h2:=(kJ bG (UB _ _ _ h)).2;simp only [Bool.and_eq_true] at h2;exact OF f _ _ h (fun q hq=>by
     rw [List.mem_append,List.mem_singleton] at hq;rcases hq with hq | rfl
     ·exact hl q hq
     ·exact h2.2)
theorem MZ (s:List UInt8) (r:RdS):(r.number s 2).1 < 65536:=bQ s r 2 aE
theorem QN (h:(dD s).2=0):MsgOk (dD s).1∧(dD s).1.id=((fW s).1:Nat)∧(dD s).1.resp=bA (fP s).1 32768∧12≤s.length:=by
 have he:(TU s).e=0:=by
  unfold dD at h;split at h
  ·assumption
  ·exact h
 unfold dD;rw [if_pos he];have h1:=(kJ bG he).1;have h2:=kZ h1;have h3:=kZ h2;have h4:=kZ h3;have h5:=UB _ _ _ h4;have h6:=(kJ bG h5).1;have hq:=OF _ _ _ h4 (fun _ hx=>by cases hx);have hq10:=CN he;have hqm:=CM (s:=s) (lN s).1 [] (QA s);rw [List.length_nil,Nat.zero_add] at hqm;obtain ⟨x1,x2,x3⟩:=qM h1;obtain ⟨u1,u2,_⟩:=qM h2;obtain ⟨a1,a2,_⟩:=qM h3;have hid:=MZ s IC;have e4:=iV h6;have e3:=iV e4.1;have e2:=iV e3.1;have e1:=iV e2.1;have ew:=kJ bG e1.1;have ef:=iV ew.1;have ei:=iV ef.1;have w1:(OB s).at_=4:=by
  show ((fP s).2.want _ 2).at_=4;rw [NV];show ((fW s).2.number s 2).2.at_=4;rw [ef.2.2];show ((IC.number s 2).2.at_ + 2:Int)=4;rw [ei.2.2];rfl
 have w2:(lN s).2.at_=6:=by
  show ((OB s).number s 2).2.at_=6;rw [e1.2.2];show ((OB s).at_ + 2:Int)=6;omega
 have w3:(qK s).2.at_=8:=by
  show ((lN s).2.number s 2).2.at_=8;rw [e2.2.2];show ((lN s).2.at_ + 2:Int)=8;omega
 have w4:(sL s).2.at_=10:=by
  show ((qK s).2.number s 2).2.at_=10;rw [e3.2.2];show ((qK s).2.at_ + 2:Int)=10;omega
 refine ⟨⟨⟨?_,?_⟩,⟨?_,?_⟩,⟨?_,?_⟩,?_,?_,hq,a1,a2,u1,u2,x1,x2⟩,rfl,rfl,?_⟩
 ·exact Int.natCast_nonneg _
 ·have:(fW s).1 < 65536:=hid;show (((fW s).1:Nat):Int)≤65535;omega
 ·exact Int.natCast_nonneg _
 ·have:=Nat.and_le_right (n:=(fP s).1 / 2048) (m:=15);show (((fP s).1 / 2048 &&& 15:Nat):Int)≤15;omega
 ·exact Int.natCast_nonneg _
 ·have:=Nat.and_le_right (n:=(fP s).1) (m:=15);show (((fP s).1 &&& 15:Nat):Int)≤15;omega
 ·show (((HP s).2.1:Nat):Int)=0∨(512≤(((HP s).2.1:Nat):Int)∧(((HP s).2.1:Nat):Int)≤65535);have x3':(HP s).2.1=0∨(512≤(HP s).2.1∧(HP s).2.1≤65535):=x3;omega
 ·show (KO s).1.length≤10;have:(KO s).1.length≤(lN s).1:=hqm;omega
 ·have:=e4.2.1;rw [w4] at this;omega
theorem UK (m:MsgR) (q a u e:Value) (stream:Bool) (w:World) (hm:MsgV w m q a u e):Calls Tryz.prog 24 #[.agg (aM m q a u e).toArray, .bool stream] w (bC w (.int .i64 (iL m.size stream))):=by
 unfold iL;go_enter Tryz.func24,Tryz.ntmps24
 refine_lift mS fun _ _ => ?_;refine zV (vs:=aM m q a u e) fun w1 x1 s1 hb1 => ?_;refine aD ?_;have hpM:=aA (cs:=aM m q a u e) hb1;unfold aM at hpM;cases stream with
 | true =>
  refine_lift aX ?_;go_ret;exact ⟨rfl,x1⟩
 | false =>
  have hE:min (max m.size 512) 1232=if m.size < 512 then 512 else min m.size 1232:=by
   split <;> omega
  refine_lift cC fun _ _ => ?_;refine aS (v:=.int .i64 (max m.size 512)) (Runs.maxI rfl rfl) ?_;refine aD ?_;refine_lift aX ?_;have hE2:(if false=true then 65535 else if m.size < 512 then 512 else min m.size 1232)=min (max m.size 512) 1232:=by rw [if_neg bG,hE]
  rw [hE2];generalize min (max m.size 512) 1232=y at *;go_ret;exact ⟨rfl,x1⟩
theorem OG (m:MsgR) (q a u e:Value) (w:World) (hm:MsgV w m q a u e) (hq:m.qs.length≤100000) (ha:m.an.length≤100000) (hu:m.au.length≤100000) (he:m.ex.length≤100000):Calls Tryz.prog 56 #[.agg (aM m q a u e).toArray] w (oQ w (UA w m)):=by
 have lq:=dC m.qs;have la:=aN m.an;have lu:=aN m.au;have le:=aN m.ex;go_enter Tryz.func56,Tryz.ntmps56
 refine_lift mS fun _ _ => ?_;refine zV (vs:=aM m q a u e) fun w1 x1 s1 hb1 => ?_;refine aD ?_;refine fO (z:=fB) fun w2 x2 s2 h2 => ?_;refine aD ?_;have hpM:=aA (cs:=aM m q a u e) (x2.at hb1);unfold aM at hpM;refine_lift cC fun _ _ => ?_;refine fO (z:=fB) fun w3 x3 s3 h3 => ?_;refine aD ?_;have x03:=x1.trans (x2.trans x3);have hm3:=hm.ext x03;refine dS (v:=.agg (aM m q a u e).toArray) h3 (bY hm3) fun w4 p4 => ?_;have z1:=x1.size;have z2:=x2.size;have x04:=cH x03 p4;have x24:=cH x3 p4;have hB4:w4.heap[w2.heap.size]? = some (.cells (aM m q a u e).toArray 48 (0,0)):=p4.this;have hz4:=x24.at h2;have hpM4:=hpM.ext x24;have hne:w1.heap.size≠w2.heap.size:=aE;have hbw:w.heap.size≤w2.heap.size:=aE;have hnA:w.heap.size≠w2.heap.size:=aE;have hM4:=x24.at (x2.at hb1);have hbw1:w.heap.size≤w1.heap.size:=aE;clear hpM p4 h3 x3 s1 s2 s3;generalize w2.heap.size=B at *;generalize w1.heap.size=C at *;refine_lift cC fun _ _ => ?_;have hs4:=hm.qs.ext x04;refine aZ (e:=45) (k:=2) rfl (Own.nil w.heap.size 2 45 w4) rfl hs4 (uQ) x04.size (by simp;omega) ?_;intro v5 w5 oq5 m5 _;refine aD ?_;have hB5:=m5.at hB4 (by rintro ⟨⟩);have hz5:=m5.at hz4 (by rintro ⟨⟩);have hM5:=m5.at hM4 (by rintro ⟨⟩);have x45:Ext w4 w5:=(Own.nil w4.heap.size 2 45 w4).mvx m5 (Ext.refl _) (Nat.le_refl _);have x05:=x04.trans x45;rw [List.nil_append] at oq5;clear hpM4 hs4;refine_lift aX ?_;refine eS 8 v5 hB5 oq5.sl.one fun w6 p6 => ?_;have hB6:w6.heap[B]? = some (.cells (aM m v5 a u e).toArray 48 (0,0)):=p6.this;have x06:=cH x05 p6;have hM6:=p6.mv.at hM5 (by intro e9;exact hnA (Option.some.inj e9));have hz6:=p6.mv.at hz5 (by intro e9;exact hne (Option.some.inj e9));have oq6:=cM oq5 p6 hB5;have hpM6:=aA (cs:=aM m q a u e) hM6;unfold aM at hpM6;refine_lift cC fun _ _ => ?_;have hs6:=hm.an.ext x06;refine aZ (e:=67) (k:=4) rfl (Own.nil w.heap.size 4 67 w6) rfl hs6 (dP) x06.size (by simp;omega) ?_;intro v7 w7 oa7 m7 _;refine aD ?_;have hB7:=m7.at hB6 (by rintro ⟨⟩);have hz7:=m7.at hz6 (by rintro ⟨⟩);have hM7:=m7.at hM6 (by rintro ⟨⟩);have x67:Ext w6 w7:=(Own.nil w6.heap.size 4 67 w6).mvx m7 (Ext.refl _) (Nat.le_refl _);have x07:=x06.trans x67;rw [List.nil_append] at oa7;have oq7:=oq6.ext x67;clear hpM6 hs6;refine_lift aX ?_;refine eS 9 v7 hB7 oa7.sl.one fun w8 p8 => ?_;have hB8:w8.heap[B]? = some (.cells (aM m v5 v7 u e).toArray 48 (0,0)):=p8.this;have x08:=cH x07 p8;have hM8:=p8.mv.at hM7 (by intro e9;exact hnA (Option.some.inj e9));have hz8:=p8.mv.at hz7 (by intro e9;exact hne (Option.some.inj e9));have oq8:=cM oq7 p8 hB7;have oa8:=cM oa7 p8 hB7;have hpM8:=aA (cs:=aM m q a u e) hM8;unfold aM at hpM8;refine_lift cC fun _ _ => ?_;have hs8:=hm.au.ext x08;refine aZ (e:=67) (k:=4) rfl (Own.nil w.heap.size 4 67 w8) rfl hs8 (dP) x08.size (by simp;omega) ?_;intro v9 w9 ou9 m9 _;refine aD ?_;have hB9:=m9.at hB8 (by rintro ⟨⟩);have hz9:=m9.at hz8 (by rintro ⟨⟩);have hM9:=m9.at hM8 (by rintro ⟨⟩);have x89:Ext w8 w9:=(Own.nil w8.heap.size 4 67 w8).mvx m9 (Ext.refl _) (Nat.le_refl _);have x09:=x08.trans x89;rw [List.nil_append] at ou9;have oq9:=oq8.ext x89;have oa9:=oa8.ext x89;clear hpM8 hs8;refine_lift aX ?_;refine eS 10 v9 hB9 ou9.sl.one fun w10 p10 => ?_;have hB10:w10.heap[B]? = some (.cells (aM m v5 v7 v9 e).toArray 48 (0,0)):=p10.this;have x010:=cH x09 p10;have hM10:=p10.mv.at hM9 (by intro e9;exact hnA (Option.some.inj e9));have hz10:=p10.mv.at hz9 (by intro e9;exact hne (Option.some.inj e9));have oq10:=cM oq9 p10 hB9;have oa10:=cM oa9 p10 hB9;have ou10:=cM ou9 p10 hB9;have hpM10:=aA (cs:=aM m q a u e) hM10;unfold aM at hpM10;refine_lift cC fun _ _ => ?_;have hs10:=hm.ex.ext x010;refine aZ (e:=67) (k:=4) rfl (Own.nil w.heap.size 4 67 w10) rfl hs10 (dP) x010.size (by simp;omega) ?_;intro v11 w11 oe11 m11 _;refine aD ?_;have hB11:=m11.at hB10 (by rintro ⟨⟩);have hz11:=m11.at hz10 (by rintro ⟨⟩);have hM11:=m11.at hM10 (by rintro ⟨⟩);have x1011:Ext w10 w11:=(Own.nil w10.heap.size 4 67 w10).mvx m11 (Ext.refl _) (Nat.le_refl _);have x011:=x010.trans x1011;rw [List.nil_append] at oe11;have oq11:=oq10.ext x1011;have oa11:=oa10.ext x1011;have ou11:=ou10.ext x1011;clear hpM10 hs10;refine_lift aX ?_;refine eS 11 v11 hB11 oe11.sl.one fun w12 p12 => ?_;have hB12:w12.heap[B]? = some (.cells (aM m v5 v7 v9 v11).toArray 48 (0,0)):=p12.this;have x012:=cH x011 p12;have hM12:=p12.mv.at hM11 (by intro e9;exact hnA (Option.some.inj e9));have hz12:=p12.mv.at hz11 (by intro e9;exact hne (Option.some.inj e9));have oq12:=cM oq11 p12 hB11;have oa12:=cM oa11 p12 hB11;have ou12:=cM ou11 p12 hB11;have oe12:=cM oe11 p12 hB11;have hpM12:=aA (cs:=aM m q a u e) hM12;unfold aM at hpM12;refine_lift cC fun _ _ => ?_;have hW:MsgW w.heap.size w12 m v5 v7 v9 v11:=⟨oq12,oa12,ou12,oe12⟩;have hpB:=aA (cs:=aM m v5 v7 v9 v11) hB12;unfold aM at hpB;clear hpM12;refine_lift aX ?_;refine dS (v:=.agg (aM m v5 v7 v9 v11).toArray) hz12 (bY hW.msg) fun wz pz => ?_;have xz:=cH x012 pz;have hWz:=hW.box hz12 pz.mv;refine_lift aX ?_
 (try simp only [Exit.inBlock,Exit.then,Exit.jump])
 refine xB (cs:=aM m v5 v7 v9 v11) pz.this ?_;exact ⟨_,rfl,xz,_,_,_,_,rfl,hWz⟩
def Bd (r:Rec):Prop:=r.data.length≤4611686018427387904
theorem FromK.bd {l:List RSet} (hz:ZoneOk o l) {r:Rec} (h:FromK l r):Bd r:=by
 obtain ⟨t,ht,_,hd⟩:=h;exact gN hz t ht _ hd
theorem OH {l:List RSet} (hz:ZoneOk o l):Bd (eG o l):=by
 show (jV o l).length≤_;unfold jV;cases hf:aY l o 6 with
 | none=>simp [bW]
 | some s =>
  show (s.data.getD 0 []).length≤_;cases hd:s.data with
  | nil=>simp
  | cons d ds=>exact gN hz s (kW hf).1 d (by rw [hd];exact .head _)
theorem WT {l:List RSet} (hz:ZoneOk o l) (n:List UInt8) (k c:Int):∀ r ∈ (bX o l n k c).auth,Bd r:=by
 unfold bX;intro r hr;split at hr
 ·cases hr
 ·split at hr
  ·exact (FromK.opt r hr).bd hz
  ·split at hr
   ·rw [List.mem_singleton] at hr;rw [hr];exact OH hz
   ·split at hr
    ·split at hr <;> cases hr
    ·split at hr
     ·rw [List.mem_singleton] at hr;rw [hr];exact OH hz
     ·cases hr
theorem UL {l:List RSet} (hz:ZoneOk o l) (k:Int):∀ (f:Nat) (c:Int) (n:List UInt8),∀ r ∈ (cX o l k f c n).auth,Bd r
 | 0,c,n=>by simp [cX]
 | f + 1,c,n=>by
   rw [cX];split
   ·exact UL hz k f (c + 1) (bX o l n k c).next
   ·exact WT hz n k c
theorem LC {l:List RSet} (hz:ZoneOk o l):∀ (rs:List Rec) (b:List (List UInt8) × List Rec),(∀ q ∈ b.2,Bd q)→∀ q ∈ (rs.foldl (gX l) b).2,Bd q
 | [],b,h=>h
 | r :: rs,b,h=>by
   rw [List.foldl_cons];refine LC hz rs _ ?_;unfold gX;split
   ·exact h
   ·intro q hq;simp only [List.mem_append] at hq;rcases hq with (hq | hq) | hq
    ·exact h q hq
    ·exact (FromK.opt q hq).bd hz
    ·exact (FromK.opt q hq).bd hz
theorem UM (hs:List HldR) (m:MsgR):∀ r,r ∈ (cT hs m).an∨r ∈ (cT hs m).au∨r ∈ (cT hs m).ex→Bd r:=by
 have hb:∀ c,∀ r,r ∈ (bareR m c).an∨r ∈ (bareR m c).au∨r ∈ (bareR m c).ex→Bd r:=by
  intro c r hr;rcases hr with hr | hr | hr <;> cases hr
 unfold cT;split
 ·intro r hr;rcases hr with hr | hr | hr <;> cases hr
 ·split
  ·exact hb _
  ·split
   ·exact hb _
   ·split
    ·exact hb _
    ·split
     ·exact hb _
     ·split
      ·exact hb _
      ·unfold OD;split
       ·exact hb _
       ·rename_i c;have c2:nW hs[‹Nat›]!.o hs[‹Nat›]!.l m.qs.head!.1=0:=by
         simp only [not_or] at c;exact Decidable.not_not.1 c.2.1
        have hz:ZoneOk hs[‹Nat›]!.o hs[‹Nat›]!.l:=by
         refine kI ?_;unfold nW at c2;split at c2
         ·exact absurd c2 ‹_›
         ·exact Decidable.not_not.1 ‹_›
        intro r hr;unfold iO rB at hr;rw [if_neg (by rw [c2];simp)] at hr;rcases hr with hr | hr | hr
        ·exact ((yI hz.chk _ _ _ _).1 r hr).bd hz
        ·exact UL hz _ _ _ _ r hr
        ·exact LC hz _ _ bP r hr
end Go.Proofs.X
