/- Laws and walks that the proof of the statement is made of (part 14). -/
import Derived.Test.YtjabkigdeoopiaaGreatRows
import Derived.Test.YtjabkigdeoopiaaGreatP13
set_option linter.unusedSimpArgs false
set_option linter.unusedVariables false
set_option maxRecDepth 100000
set_option maxHeartbeats 20000000
namespace Go.Proofs.X
open Go.RowKit
variable {cs:Array Value} {held:Bool} {qt:Int} {ps rs:List (List UInt8 × Nat)} {ls:List (List UInt8)} {css css0 es:List (List Value)} {d l m n o qn s t x y z:List UInt8} {B a b base c e fuel i j k p q:Nat} {fz:Nat × Nat} {row:Option Nat} {r u v:Value} {w w' w0 w1 w2:World}
theorem HL {l:List gN}:∀ f ∈ bU l,∀ u ∈ f,u.oneCell'=true:=by
 intro f hf u hu;simp only [bU,List.mem_map] at hf;obtain ⟨x,_,rfl⟩:=hf;simp only [List.mem_cons,List.not_mem_nil,or_false] at hu;rcases hu with rfl | rfl <;> rfl
theorem StayS.len {q:gE} {id bud wt k:Int} {S:NodeR} {l:List gN} (h:StayS q id bud wt k S l) (hb:bud≤20):l.length≤200:=by
 rcases h with ⟨x,y,h⟩ | h
 ·have:=h.len;have:=h.sent;omega
 ·exact h.len
theorem UE (qn:List UInt8) (qt id bud wt roots:Int) (w:World):Calls Tryz.prog 6 #[.agg #[aE qn, .int .i64 qt, .int .i64 id, .int .i64 bud, .int .i64 wt, .int .i64 roots]] w (bG w (.bool true)):=by
 go_enter Tryz.func6,Tryz.ntmps6
 refine_lift lQ fun _ _ => ?_;refine jS (vs:=[aE qn, .int .i64 qt, .int .i64 id, .int .i64 bud, .int .i64 wt, .int .i64 roots]) fun w1 x1 s1 b1 => ?_;refine aB ?_;have hpb:=aA (cs:=[aE qn, .int .i64 qt, .int .i64 id, .int .i64 bud, .int .i64 wt, .int .i64 roots]) b1;refine_lift SI ?_;refine_lift bK fun _ _ => ?_;refine aV 15 (Ext w1) zDk ?_;intro w2 x2 _;refine ⟨x2,?_⟩;refine bH 0 ?_;refine BG (i:=1) (v:=.agg #[aE qn, .int .i64 qt]) rfl rfl (fun w' hF=>by
  have hq:Pts w' (aP (.pointer (some ⟨w.heap.size,0,none⟩)) 0) [aE qn, .int .i64 qt]:=((hpb.ext hF).part 0).front 2;clear hpb;exact DF) ?_
 refine aB ?_;refine FP (i:=2) (v:=aP (.pointer (some ⟨w.heap.size,0,none⟩)) 2) rfl rfl (fun w'=>by apply Runs.fieldLitK (k:=1);rfl;decide +kernel) ?_;refine aB ?_;refine bH 3 ?_;refine FP (i:=4) (v:=aP (.pointer (some ⟨w.heap.size,0,none⟩)) 3) rfl rfl (fun w'=>by apply Runs.fieldLitK (k:=1);rfl;decide +kernel) ?_;refine aB ?_;refine bH 5 ?_;refine FP (i:=6) (v:=aP (.pointer (some ⟨w.heap.size,0,none⟩)) 4) rfl rfl (fun w'=>by apply Runs.fieldLitK (k:=1);rfl;decide +kernel) ?_;refine aB ?_;refine bH 7 ?_;refine FP (i:=8) (v:=aP (.pointer (some ⟨w.heap.size,0,none⟩)) 5) rfl rfl (fun w'=>by apply Runs.fieldLitK (k:=1);rfl;decide +kernel) ?_;refine aB ?_;refine bH 9 ?_;refine eF 10 ?_;refine eX (z:=[aE [], .int .i64 0]) fun w3 x3 s3 b3 => ?_;refine aB ?_;have x13:=x2.trans x3;refine aD ⟨aZ x13,?_⟩;refine eF 11 ?_;refine fG (v:=.agg #[aE qn, .int .i64 qt]) b3 (by simp [Value.cells,aE,Value.oneCell']) fun w4 p4 => ?_;have x34:=eC x3 p4;have x14:=x2.trans x34;refine aD ⟨aZ x14,?_⟩;refine eH 12 ?_;refine eH 13 ?_;refine eH 14 ?_;refine eF 15 ?_
 ((with_reducible refine cB ?_);(first | (refine jO ?_;refine fX ?_) | (refine nC ?_;refine pI ?_;(with_reducible refine cB ?_);refine jO ?_;refine fX ?_)))
 refine aD ⟨aQ rfl,?_⟩;refine nX ?_;have b4:=p4.this;have x04:=x1.trans x14;have hpq:=aA (cs:=[aE qn, .int .i64 qt]) b4;clear hpb;by_cases hG:(qn.length:Int)≤300∧1≤bud∧bud≤20∧1≤wt∧wt≤10∧1≤roots∧roots≤5
 rotate_left
 ·(repeat' first | ((with_reducible refine eN ?_);go_step) | ((with_reducible refine cB ?_);first | refine iF ?_ | (refine fA ?_ ?_ <;> intro hc)) | fail)
  all_goals first
   | (exact absurd aC hG)
   | (refine bX (dW w4) fun w5 x5 => ?_
      refine_lift aL ?_;go_ret;exact ⟨rfl,x04.trans x5⟩)
 ·obtain ⟨g1,g2,g3,g4,g5,g6,g7⟩:=hG;obtain ⟨n,rfl⟩:∃ n:Nat,roots=n:=⟨roots.toNat,aC⟩
  (repeat' first | ((with_reducible refine eN ?_);go_step) | ((with_reducible refine cB ?_);first | refine iF ?_ | (refine fA ?_ ?_ <;> intro hc)) | fail)
  rotate_left
  all_goals try
   (refine bX (dW w4) fun w5 x5 => ?_
    refine_lift aL ?_;go_ret;exact ⟨rfl,x04.trans x5⟩)
  have hmul:1≤bud * wt∧bud * wt≤200:=by
   have h1:1 * 1≤bud * wt:=Int.mul_le_mul g2 g4 aC aC;have h2:bud * wt≤20 * 10:=Int.mul_le_mul g3 g5 aC aC;omega
  refine aG (v:=.agg #[.slice none 0 0, .int .i64 bud, .int .i64 9, .int .i64 100, .int .i64 wt]) (Runs.build (vals:=[(1, .int .i64 bud),(2, .int .i64 9),(3, .int .i64 100),(4, .int .i64 wt)]) rfl (by kernel_rfl)) ?_;refine aB ?_;refine eX (z:=[.slice none 0 0, .int .i64 0, .int .i64 0, .int .i64 0, .int .i64 0]) fun w5 x5 s5 b5 => ?_;refine aB ?_;refine fG (v:=.agg #[.slice none 0 0, .int .i64 bud, .int .i64 9, .int .i64 100, .int .i64 wt]) b5 (by simp [Value.cells,Value.oneCell']) fun w6 p6 => ?_;have x46:=eC x5 p6;have b6:=p6.this;have q6:=x46.at b4;have x06:=x04.trans x46;have l4:w2.heap.size < w4.heap.size:=(Array.getElem?_eq_some_iff.1 b4).1;have z04:=x04.size;have z46:=x46.size;have z01:=x1.size;have z12:=x2.size;clear hpq;refine_lift bK fun _ _ => ?_;go_loopw [9] (fun iv wr=>∃ (k:Nat) (rv:Value),k≤n∧iv=.int .i64 k∧Ext w wr∧wr.heap[w4.heap.size]? = some (.cells #[rv, .int .i64 bud, .int .i64 9, .int .i64 100, .int .i64 wt] 33 (0,0))∧wr.heap[w2.heap.size]? = some (.cells #[aE qn, .int .i64 qt] 28 (0,0))∧Own w.heap.size 1 3 wr rv (aY (cH k))) (fun iv _=>n - (intOf iv).toNat)
  case atStart=>exact ⟨0,_,Nat.zero_le _,rfl,x06,b6,q6,Own.nil _ _ _ _⟩
  case round =>
   rename_i iv wr;obtain ⟨k,rv,hk,rfl,hx,hb,hq,ho⟩:=hrel;have hpc:=aA (cs:=[rv, .int .i64 bud, .int .i64 9, .int .i64 100, .int .i64 wt]) hb;by_cases hlt:k < n
   ·refine_lift jH ?_;intro _ _ _ _;refine qP (e:=3) (k:=1) (bytes:=8) (xs:=[.int .i64 (10 + (k:Int))]) (by simp [Value.cells]) fun v7 w7 x7 _ sl7 _ => ?_;refine aB ?_;have z7:=(hx.trans x7).size;refine dA (e:=3) (k:=1) rfl (ho.ext x7) rfl sl7 (by simp [Value.cells,Value.oneCell']) z7 (by simp [aY,cH];omega) ?_;intro v8 w8 o8 m8 _;refine aB ?_;have b8:=m8.at (x7.at hb) (fun e=>(ho.ext x7).neBlock (x7.at hb) aH e.symm);have q8:=m8.at (x7.at hq) (fun e=>(ho.ext x7).neBlock (x7.at hq) aH e.symm);have hx8:=(ho.ext x7).mvx m8 (hx.trans x7) (Nat.le_refl _);refine_lift aL ?_;refine fZ 0 v8 b8 o8.one fun w9 p9 => ?_;refine_lift aL ?_;refine ⟨⟨k + 1,v8,aC,by go_num,eC hx8 p9,p9.this,(p9.other _ aC).trans q8,?_⟩,by simp [intOf];omega⟩;have e1:aY (cH (k + 1))=aY (cH k) ++ [[.int .i64 (10 + (k:Int))]]:=by rw [FC];simp [aY]
    rw [e1];exact iM o8 p9 b8
   ·have hkn:k=n:=aC;subst hkn;obtain ⟨ra,rl,rc,hrv⟩:∃ a n c,rv=.slice a n c:=by
     obtain ⟨a,n,e,_⟩:=ho.sl;exact ⟨_,_,_,e⟩
    subst hrv;have hrl:=yM k;have sr:=ho.sl;refine_lift mS fun _ _ _ => ?_;refine pZ (AZ (.slice ra rl rc) (cH k) bud 9 100 wt wr sr aC aC aH aH aC (yO aC)) ?_;rintro _ w7 x7 ⟨M,rfl,hov,h7⟩;refine aB ?_;have h7:NodeI wr w7 M (NodeR.new (cH k) bud 9 100 wt):=h7.idle hov rfl;have q7:=x7.at hq;have hpq7:=aA (cs:=[aE qn, .int .i64 qt]) q7;clear hpc;refine_lift bK fun _ _ => ?_;refine qP (e:=28) (k:=2) (bytes:=24) (xs:=[.agg #[aE qn, .int .i64 qt]]) (by simp [Value.cells]) fun v8 w8 x8 _ sl8 _ => ?_;refine aB ?_;obtain ⟨ad8,cap8,rfl⟩:∃ a n,v8=.slice a 1 n:=by
     obtain ⟨a,n,e,_⟩:=sl8;exact ⟨a,n,e⟩
    refine aG (v:=.agg (aX { zeroM with id:=id,qs:=[(qn,qt)] } (.slice ad8 1 cap8) cI cI cI).toArray) (Runs.build (vals:=[(0, .int .i64 id),(8, .slice ad8 1 cap8)]) rfl (by kernel_rfl)) ?_;refine aB ?_;refine eX (z:=jL) fun w9 x9 s9 b9 => ?_;refine aB ?_;have hm8:MsgV w8 { zeroM with id:=id,qs:=[(qn,qt)] } (.slice ad8 1 cap8) cI cI cI:=⟨sl8,Sl.nil _ _,Sl.nil _ _,Sl.nil _ _⟩;refine fG (v:=.agg (aX { zeroM with id:=id,qs:=[(qn,qt)] } (.slice ad8 1 cap8) cI cI cI).toArray) b9 (gP (hm8.ext x9)) fun w10 p10 => ?_;have x810:=eC x9 p10;have x710:=x8.trans x810;have hm10:=hm8.ext x810;have hpm:=aA (cs:=aX { zeroM with id:=id,qs:=[(qn,qt)] } (.slice ad8 1 cap8) cI cI cI) p10.this;unfold aX at hpm;dsimp only [zeroM] at hpm;have cE:=fun w' (hx:Ext w10 w')=>kN (hm10.ext hx);unfold aX at cE;dsimp only [zeroM] at cE;clear hpq7;refine_lift bK fun _ _ => ?_;refine bX (cE _ (Ext.refl _)) fun w11 x11 => ?_;have x711:=x710.trans x11;have x011:=(hx.trans x7).trans x711;refine_lift LQ (fun _ _ _ => ?_) (fun _ _ _ _ _ => ?_)
    ·refine bX (dW w11) fun w12 x12 => ?_;refine_lift aL ?_;go_ret;exact ⟨rfl,x011.trans x12⟩
    ·have hE:(aT { zeroM with id:=id,qs:=[(qn,qt)] }).2=0:=by
      have hz:=‹(!decide ((aT { zeroM with id:=id,qs:=[(qn,qt)] }).2=0))=false›
      simpa using hz
     obtain ⟨e1,e2,e3,e4⟩:=pW hE;have ok:=iY e1;have hid:0≤id∧id≤65535:=ok.id;have hqk:mD (qn,qt)=true:=ok.qs _ bE;have hln:(aT { zeroM with id:=id,qs:=[(qn,qt)] }).1.length≤1000000:=by
      rw [e2];exact Nat.le_trans e3 aC
     have h11:=h7.grow x711;have q11:=x711.at q7;have hA:=pR h11 7 0 _ hln aH aH e4 rfl (qn,qt) rfl rfl (RA hqk (by dsimp only;omega) aC aC aC);have hst:StayS (qn,qt) id bud wt 0 _ _:=HK hqk (n:=k) aC hid aC g4;unfold lD at hA;dsimp only [zeroM] at hA hln e4 hE;clear hpm;refine_lift aL ?_;refine fY hA ?_;rintro _ w12 ⟨r12,M12,rfl,n12,h12,o12,k12,_,z12⟩;refine ⟨_,rfl,?_⟩;refine aB ?_;have l11:w2.heap.size < w11.heap.size:=(Array.getElem?_eq_some_iff.1 q11).1;have q12:=k12 _ _ _ _ l11 aH q11;have zL:wr.heap.size≤w11.heap.size:=h11.w.ext.size;refine_lift bK fun _ _ => ?_;go_loopw [16,17] (fun av iv w2'=>∃ (j:Nat) (M':NodeM) (S':NodeR) (l:List gN),(j:Int)≤bud * wt + 1∧iv=.int .i64 j∧M'.nb=M.nb∧NodeI wr w2' M' S'∧Own w11.heap.size 2 50 w2' av (bU l)∧StayS (qn,qt) id bud wt j S' l∧w2'.heap[w2.heap.size]? = some (.cells #[aE qn, .int .i64 qt] 28 (0,0))∧w11.heap.size≤w2'.heap.size) (fun _ iv _=>(bud * wt + 1).toNat - (intOf iv).toNat)
     case atStart=>exact ⟨0,M12,_,_,aC,rfl,n12,h12,o12,hst,q12,z12⟩
     case round =>
      obtain ⟨j,M',S',l,hj,rfl,hnb,hN,hO,hS,hq2,z2'⟩:=hrel;by_cases hlt:(j:Int)≤bud * wt
      ·have hT:=RE hN hS hid hqk ⟨aC,aC⟩ ⟨g4,g5⟩ g3;rw [hnb] at hT;have hll:=hS.len g3;refine_lift jH ?_;intro _ _ _ _;refine fY hT ?_;rintro _ w13 ⟨r13,M13,S13,o,rfl,n13,h13,o13,k13,z13,st13,ol⟩;refine ⟨_,rfl,?_⟩;refine aB ?_;have hO13:=hO.ko k13 aH;have q13:=k13 _ _ _ _ (Array.getElem?_eq_some_iff.1 hq2).1 aH hq2;refine dA (e:=50) (k:=2) rfl hO13 rfl o13.sl HL aC (by simp [bU];omega) ?_;intro v14 w14 o14 m14 _;refine aB ?_;have q14:=m14.at q13 (fun e=>hO13.neBlock q13 aH e.symm);have z14:=m14.size;refine_lift aL ?_;refine ⟨⟨j + 1,M13,S13,l ++ o,aC,by go_num,n13,h13.row hO13 m14 zL,?_,?_,q14,aC⟩,by simp [intOf];omega⟩
       ·rw [show bU (l ++ o)=bU l ++ bU o by simp [bU]];exact o14
       ·rw [show ((j + 1:Nat):Int)=(j:Int) + 1 by omega];exact st13
      ·rcases hS with ⟨x',y',hW⟩ | hT
       ·exact (hW.no aC aC).elim
       ·refine_lift mS fun _ _ _ => ?_;obtain ⟨l1,b,code,rfl,hfar,hcode,hdec,hbl⟩:=hT.told;have hlen:(bU (l1 ++ [((7:Int),b)])).length=l1.length + 1:=by simp [bU]
        have hnt:=hT.nt;have hsn:=hT.sent;have hl1:l1.length≤200:=by
         have:=hT.len;rw [List.length_append] at this;omega
        generalize hwE:wr=wE at *;go_loopw [15,18] (fun tv iv w3'=>∃ j:Nat,j≤l1.length + 1∧iv=.int .i64 j∧tv=.int .i64 (if j≤l1.length then 0 else 1)∧Ext wE w3') (fun _ iv _=>l1.length + 1 - (intOf iv).toNat)
        case atStart=>exact ⟨0,Nat.zero_le _,rfl,bE,Ext.refl _⟩
        case round =>
         obtain ⟨i,hi,rfl,rfl,hx3⟩:=hrel;have sl3:=(hO.ext hx3).sl;by_cases hi1:i < l1.length
         ·have hel:=sl3.elem (show (bU (l1 ++ [((7:Int),b)]))[i]? = some [.int .i64 l1[i].1,aE l1[i].2] by simp [bU,List.getElem?_append_left,hi1]);have hne:=hfar _ (List.getElem_mem hi1);rw [if_pos aC]
          (repeat' first | ((with_reducible refine eN ?_);go_step) | ((with_reducible refine cB ?_);first | refine iF ?_ | (refine fA ?_ ?_ <;> intro hc)) | fail)
          ·exact ⟨⟨i + 1,aC,by go_num,by rw [if_pos aC],hx3⟩,by simp [intOf];omega⟩
          ·have hh:False:=hne (by simpa using ‹(!decide (l1[i].fst=7))=false›);exact hh.elim
         ·by_cases hi2:i=l1.length
          ·subst hi2;have hel:=sl3.elem (show (bU (l1 ++ [((7:Int),b)]))[l1.length]? = some [.int .i64 7,aE b] by simp [bU]);rw [if_pos (Nat.le_refl _)];have cD:=mJ (w:=wr) b aC;unfold pN at cD;rw [hdec] at cD;refine_lift rR ?_;intro _ _ _ _ _ _;refine fY cD ?_;rintro _ w15 ⟨qv,av,uv,ev,rfl,⟨q1,q2,q3,q4⟩,x15⟩;refine ⟨_,rfl,?_⟩;refine aB ?_;refine_lift aL ?_;refine eX (z:=jL) fun w16 x16 s16 b16 => ?_;refine aB ?_;have hm15:MsgV w15 (eP (mR (qn,qt) id) qt code [] []) qv av uv ev:=⟨q1.sl,q2.sl,q3.sl,q4.sl⟩;refine fG (v:=.agg (aX (eP (mR (qn,qt) id) qt code [] []) qv av uv ev).toArray) b16 (gP (hm15.ext x16)) fun w17 p17 => ?_;have x1517:=eC x16 p17;have hx17:=x15.trans x1517;have hpm:=aA (cs:=aX (eP (mR (qn,qt) id) qt code [] []) qv av uv ev) p17.this;unfold aX at hpm;dsimp only [eP,mR,zeroM] at hpm;have slq:Sl 2 w17 qv [[aE qn, .int .i64 qt]]:=q1.sl.ext x1517;have hqe:Pts w17 (eG qv (0 * 2)) [aE qn, .int .i64 qt]:=slq.elem (i:=0) rfl;have hpq:=aA (cs:=[aE qn, .int .i64 qt]) ((hx3.trans hx17).at hq2);obtain ⟨aq,cq,rfl⟩:∃ a n,qv=.slice a 1 n:=by
            obtain ⟨a,n,e,_⟩:=q1.sl;exact ⟨a,n,e⟩
           clear hel;refine_lift jH fun _ _ _ _ => ?_;refine eB zDk zDk ?_;refine_lift vF ?_;rw [show (!decide (((([[aE qn, .int .i64 qt]]:List (List Value)).length:Nat):Int)=1))=false from rfl];refine_lift vF ?_;refine fH (fun w' _=>Runs.neqQst (r:=(qn,qt)) (q:=(qn,qt)) rfl rfl) ?_;rw [decide_eq_true (rfl:((qn,qt):gE)=(qn,qt))];refine aB ?_;refine_lift vF ?_;rw [decide_eq_false hcode];intro w18 x18;refine_lift aL ?_;exact ⟨⟨l1.length + 1,Nat.le_refl _,by go_num,by rw [if_neg aC];rfl,hx3.trans (hx17.trans x18)⟩,by simp [intOf]⟩
          ·have hi3:i=l1.length + 1:=aC;subst hi3;rw [if_neg aC];have hNx:=hN.grow hx3;have cS:=fun w' (hx:Ext wr w')=>CO (hNx.grow hx).w;have cP:=fun w' (hx:Ext wr w')=>pS (hNx.grow hx).w;rw [hnb] at cS cP;rw [hnt] at cP;simp only [Option.isSome_none,Bool.false_eq_true,if_false] at cP;refine_lift mS fun _ _ _ => ?_;refine bX (cP _ (Ext.refl _)) fun w18 x18 => ?_;refine_lift aL ?_;refine bX (cS _ x18) fun w19 x19 => ?_;refine_lift iU (fun hc => ?_) (fun hc => ?_);refine bX (dW w19) fun w20 x20 => ?_;refine_lift aL ?_;go_ret;exact ⟨rfl,hx.trans (hNx.w.ext.trans (x18.trans (x19.trans x20)))⟩
           all_goals first
            | (exact absurd hsn (by assumption))
            | simp at hc
open Go.ChangeShapes Go.WideShapes Go.ChangeAt
theorem UC {H:Type} {enc:TypeId × Value→H} {spare:Nat→Bool} {c:Array Value} {x:DataW H × List MemPlace} (h:DataW.trod enc Tryz.prog w base spare held fuel 56 (Value.agg c).cells.toList=some x) :
 ∃ (qn:List UInt8) (qt id bud wt roots:Int),c=#[aE qn, .int .i64 qt, .int .i64 id, .int .i64 bud, .int .i64 wt, .int .i64 roots]:=by
 have e:(Value.agg c).cells.toList=c.toList:=rfl;rw [e] at h;obtain ⟨xs,n',_,_,hl,hxl,hf⟩:=DataW.trod_struct Tryz.underlying56 h;have c2:Tryz.prog.cellsOf 26=1:=by kernel_rfl
 have c3:Tryz.prog.cellsOf 3=1:=by kernel_rfl
 have c7:Tryz.prog.cellsOf 28=2:=by kernel_rfl
 have c8:Tryz.prog.cellsOf 56=6:=by kernel_rfl
 rw [c8] at hl;obtain ⟨cl⟩:=c
 match cl,hl,xs,hxl with
 | [a0,a1,b1,b2,b3,b4],_,[y0,y1,y2,y3,y4],_ =>
  have g0:=hf 0 _ rfl;have g1:=hf 1 _ rfl;have g2:=hf 2 _ rfl;have g3:=hf 3 _ rfl;have g4:=hf 4 _ rfl;simp [c3,c7] at g0 g1 g2 g3 g4;obtain ⟨n1,rfl,_⟩:=eV Tryz.underlying3 g1;obtain ⟨n2,rfl,_⟩:=eV Tryz.underlying3 g2;obtain ⟨n3,rfl,_⟩:=eV Tryz.underlying3 g3;obtain ⟨n4,rfl,_⟩:=eV Tryz.underlying3 g4;obtain ⟨xs',n'',_,_,hl',hxl',hf'⟩:=DataW.trod_struct Tryz.underlying28 g0
  match xs',hxl' with
  | [z0,z1],_ =>
   have k0:=hf' 0 _ rfl;have k1:=hf' 1 _ rfl;simp [c2,c3] at k0 k1;obtain ⟨s0,rfl,_⟩:=oM Tryz.underlying26 k0;obtain ⟨m1,rfl,_⟩:=eV Tryz.underlying3 k1;exact ⟨s0,m1,n1,n2,n3,n4,rfl⟩
theorem WC (v:Value) (l:List Int) (w:World) (hv:Sl 1 w v (aY l)):Calls Tryz.prog 7 #[v] w (bG w (.bool true)):=by
 have hle:=hv.le;have hlen:(aY l).length=l.length:=List.length_map ..;go_enter Tryz.func7,Tryz.ntmps7
 refine_lift LQ (fun _ _ _ => ?_) (fun _ _ _ _ _ => ?_)
 ·refine bX (dW w) fun w1 x1 => ?_;refine_lift aL ?_;go_ret;exact ⟨rfl,x1⟩
 ·refine qP (e:=3) (k:=1) (bytes:=8) (xs:=[.int .i64 3]) (by simp [Value.cells]) fun v1 w1 x1 _ sl1 _ => ?_;refine aB ?_;obtain ⟨ad1,cap1,rfl⟩:∃ a n,v1=.slice a 1 n:=by
   obtain ⟨a,n,e,_⟩:=sl1;exact ⟨a,n,e⟩
  refine aG (v:=.agg #[.slice ad1 1 cap1, .int .i64 5, .int .i64 9, .int .i64 100, .int .i64 4]) (Runs.build (vals:=[(0, .slice ad1 1 cap1),(1, .int .i64 5),(2, .int .i64 9),(3, .int .i64 100),(4, .int .i64 4)]) rfl (by kernel_rfl)) ?_;refine aB ?_;refine_lift aL ?_;refine pZ (AZ (.slice ad1 1 cap1) [3] 5 9 100 4 w1 sl1 aH aH aH aH aH aH) ?_;rintro _ w2 x2 ⟨M,rfl,hov,h2⟩;refine aB ?_;have h2:NodeI w1 w2 M lS0:=h2.idle hov rfl;have hv2:=hv.ext (x1.trans x2);clear sl1;refine_lift bK fun _ _ => ?_;go_loopw [5] (fun iv wr=>∃ (k:Nat) (M':NodeM),k≤l.length∧iv=.int .i64 k∧M'.nb=M.nb∧NodeI w1 wr M' lS0) (fun iv _=>l.length - (intOf iv).toNat)
  case atStart=>exact ⟨0,M,Nat.zero_le _,rfl,rfl,h2⟩
  case round =>
   obtain ⟨k,M',hk,rfl,hnb,hI⟩:=hrel;have hvr:=hv.ext (x1.trans hI.w.ext);by_cases ck:k < l.length
   ·have hel:=hvr.elem (show (aY l)[k]? = some [.int .i64 l[k]] by simp [aY,ck]);refine_lift rR ?_;intro _ _ _ _ _ _;by_cases hb:0≤l[k]∧l[k]≤1099511627776
    ·have hT:=IV hI l[k] hb rfl;rw [hnb] at hT;unfold lD at hT;refine fY hT ?_;rintro _ w5 ⟨r5,M5,rfl,n5,h5,o5,_,_,z5⟩;refine ⟨_,rfl,?_⟩;refine aB ?_;have sl5:Sl 2 w5 r5 []:=o5.sl;clear hel hvr hv2;refine_lift lS fun _ => ?_;exact ⟨⟨k + 1,M5,aC,by go_num,n5.trans hnb,h5⟩,by simp [intOf];omega⟩
    ·refine bX (RB l[k] wr hb) fun w5 x5 => ?_;have sl5:Sl 2 w5 (.slice none 0 0) []:=Sl.nil _ _;clear hel hvr hv2;refine_lift lS fun _ => ?_;exact ⟨⟨k + 1,M',aC,by go_num,hnb,hI.grow x5⟩,by simp [intOf];omega⟩
   ·have cS:∀ w',Ext wr w'→Calls Tryz.prog 17 #[.pointer (some ⟨M.nb,0,none⟩)] w' (bG w' (.int .i64 0)):=fun w' hx=>by
     have:=CO (hI.grow hx).w;rw [hnb] at this;exact this
    have cP:∀ w',Ext wr w'→Calls Tryz.prog 18 #[.pointer (some ⟨M.nb,0,none⟩)] w' (bG w' (.int .i64 0)):=fun w' hx=>by
     have:=pS (hI.grow hx).w;rw [hnb] at this;exact this
    refine_lift mS fun _ _ _ => ?_;refine bX (cS _ (Ext.refl _)) fun w5 x5 => ?_;refine_lift aL ?_;refine bX (cP _ x5) fun w6 x6 => ?_;refine_lift aL ?_;refine bX (dW w6) fun w7 x7 => ?_;refine_lift aL ?_;go_ret;exact ⟨rfl,x1.trans ((hI.w.ext.trans x5).trans (x6.trans x7))⟩
theorem UF {H:Type} {enc:TypeId × Value→H} {spare:Nat→Bool} {x:DataW H × List MemPlace} (h:DataW.trod enc Tryz.prog w base spare held fuel 31 [v]=some x):∃ l:List Int,Sl 1 w v (aY l):=by
 obtain ⟨es,hs,he⟩:=sZ Tryz.underlying31 (show Tryz.prog.cellsOf 3=1 by kernel_rfl) aC h;obtain ⟨l,rfl⟩:∃ l:List Int,es=l.map fun n=>[.int .i64 n]:=by
  refine vO fun c hc => ?_;obtain ⟨n,y,hy⟩:=he c hc;have hl:c.length=1:=by
   obtain ⟨_,_,_,_,_,h4,_,_⟩:=hs;exact h4 c hc
  match c,hl with
  | [a],_ =>
   obtain ⟨n0,rfl,_⟩:=eV Tryz.underlying3 hy;exact ⟨n0,rfl⟩
 exact ⟨l,hs⟩
end Go.Proofs.X
