/- Laws and walks that the proof of the statement is made of (part 7). -/
import Derived.Test.YtdblpgbielpngaaGreatRows
import Derived.Test.YtdblpgbielpngaaGreatP6
set_option linter.unusedSimpArgs false
set_option linter.unusedVariables false
set_option maxRecDepth 100000
set_option maxHeartbeats 20000000
namespace Go.Proofs.X
open Go.RowKit
variable {cs:Array Value} {held:Bool} {qt:Int} {ps rs:List (List UInt8 × Nat)} {ls:List (List UInt8)} {css css0 es:List (List Value)} {d l m n o qn s t x y z:List UInt8} {B a b base c e fuel i j k p q:Nat} {fz:Nat × Nat} {row:Option Nat} {r u v:Value} {w w' w0 w1 w2:World}
section
variable {P:Program} {a:Act} {w:World} {d:Option Nat} {ty:TypeId} {ps:String} {af:Array Edge} {g:Option (Nat × Bool)}
theorem Runs.dropSU {t:TypeId} {x lo:Operand} {m:Nat} (hx:a.eval x=aI l) (h1:a.eval lo=.int .u8 (m:Nat)) (hm:m≤l.length) (ht:lW P t=true) :
 Runs P (Oper.mk d (.slice t x (some lo) none none) ty ps af g) a w (aI (l.drop m)):=by
 constructor;simp [execOp,hx,h1,aI,Instr.sliceAt,Instr.slice,run_underlying (gC ht),Instr.sliceBounds,Instr.sliceBound,asIntOf,gG,-ByteArray.size_data,hm,pP]
end
theorem KA (nm:List UInt8) (w:World):Calls Tryz.prog 78 #[aI nm] w (oQ w fun v w'=>Own w.heap.size 1 9 w' v (aK ((aP nm).getD []))):=by
 go_enter Tryz.func78,Tryz.ntmps78
 refine_lift DH ?_;intro _ _ _;refine gE (Au nm _) fun v w1 x1 hv => ?_;cases hl:aP nm with
 | none =>
  rw [hl] at hv;subst hv;refine_lift bR ?_;go_ret;exact ⟨_,rfl,x1,by rw [hl];exact Own.nil _ _ _ _⟩
 | some ls =>
  rw [hl] at hv;obtain ⟨s,rfl,hs⟩:=hv;refine_lift bR ?_;go_ret;exact ⟨_,rfl,x1,by rw [hl];exact hs⟩
theorem TA {nm:List UInt8} {t:List (List UInt8)} (w:World) (h:aP nm=some (x :: t)):Calls Tryz.prog 196 #[aI nm] w (bC w (.tuple #[aI (enc t), .int .i64 0])):=by
 obtain ⟨h1,h2,h3⟩:=dO h;have hx63:x.length≤63:=by simp [jD] at h1;omega
 have e:nm=UInt8.ofNat x.length :: (x ++ enc t):=by rw [← h2];simp [enc]
 have hlen:0 < nm.length:=by rw [e];simp
 have h0:nm.getD 0 0=UInt8.ofNat x.length:=by rw [e];rfl
 have hne:nm≠[]:=by intro e0;rw [e0] at hlen;cases hlen
 have hn0:(nm.getD 0 0).toNat=x.length:=by rw [h0];simp;omega
 have hdr:nm.drop (x.length + 1)=enc t:=by rw [e];simp
 have hl:x.length + 1≤nm.length:=by rw [e];simp
 have hsome:(aP nm).isSome=true:=by rw [h];rfl
 go_enter Tryz.func196,Tryz.ntmps196
 refine_lift rS fun _ _ _ _ => ?_;refine cY (YA nm _) fun w1 x1 => ?_;rw [if_pos hsome];refine_lift DH fun _ _ _ => ?_;refine aS (Runs.dropSU (l:=nm) (m:=x.length + 1) rfl ?_ hl aR) ?_
 ·show Value.int .u8 (IntKind.wrap .u8 (((nm.getD 0 0).toNat:Nat) + 1))=_;rw [hn0]
  congr 1
  simp only [IntKind.wrap,IntKind.bits,IntKind.signed];simp;omega
 ·refine aD ?_;rw [hdr];refine_lift bR ?_;go_ret2;exact ⟨rfl,x1⟩
def oM (r:Rec):Value:=.agg #[aI r.name, .int .i64 r.kind, .int .i64 r.ttl,aI r.data]
theorem pH {l:List RSet} (h:ZoneOk o l):∀ s ∈ l,s.data.length≤1000000:=fun s hs=>by
 have:=nO (h.may hs);omega
theorem gN {l:List RSet} (h:ZoneOk o l):∀ s ∈ l,∀ d ∈ s.data,d.length≤4611686018427387904:=fun s hs d hd=>by
 obtain ⟨i,hi,rfl⟩:=List.mem_iff_getElem.1 hd;have:=sB (ME (h.may hs) hi);simp only at this;omega
theorem wI {l:List RSet} (h:ZoneOk o l):l.length≤200:=by
 have:=h.chk;unfold dB at this;split at this
 ·cases this
 ·omega
theorem TB (o:List UInt8) (v:Value) (l:List RSet) (w:World) (hv:SetsAt w v l) (hz:ZoneOk o l):Calls Tryz.prog 197 #[.agg #[aI o,v]] w (bC w (.tuple #[oM (eG o l), .int .i64 0])):=by
 have hb:=pH hz;have hd:=gN hz;have hzr:=nL hz;obtain ⟨s,hf,hs,hn,hk,hdat,hpar,hlen⟩:=hz.soaSet;have hden:eG o l=⟨s.name,s.kind,min s.ttl (eK o l).minimum,jV o l⟩:=by rw [eG,hf,hn,hk];rfl
 go_enter Tryz.func197,Tryz.ntmps197
 refine_lift mS fun _ _ => ?_;refine kN (vs:=[aI o,v]) fun p w1 x1 hp => ?_;refine aD ?_;refine fO (z:=PM) fun w2 x2 s2 h2 => ?_;refine aD ?_;have hx2:=x1.trans x2;have hp2:=hp.ext x2;have hv2:=hv.ext hx2;refine_lift eF fun _ _ => ?_;refine cY (ZX o v l _ hv2 hb hd) fun w3 x3 => ?_;have h3:=x3.at h2;have hp3:=hp2.ext x3;have hv3:=hv2.ext x3;rw [hzr];refine_lift bR ?_;refine fO (z:=bD) fun w4 x4 s4 h4 => ?_;refine aD ?_;refine dS (v:=.agg (eK o l).cells.toArray) h4 (oZ _) fun w5 p5 => ?_;have x5:=cH x4 p5;have h5:=x5.at h3;have hs5:=aA (cs:=(eK o l).cells) p5.this;have hp5:=hp3.ext x5;have hv5:=hv3.ext x5;have hx5:=hx2.trans (x3.trans x5);clear p5 h4 x4;refine_lift eF fun _ _ => ?_;refine gE (ZL v l o 6 _ hv5 (fun s hs=>by have:=hb s hs;omega)) fun r6 w6 x6 hr6 => ?_;rw [hf] at hr6;obtain ⟨y,rfl,oy⟩:=hr6;have h6:=x6.at h5;have hs6:=hs5.ext x6;refine_lift bR ?_;refine fO (z:=iP) fun w7 x7 s7 h7 => ?_;refine aD ?_;refine dS (v:=.agg #[aI s.name, .int .i64 s.kind, .int .i64 s.ttl,y]) h7 (fI rfl rfl rfl oy.one) fun w8 p8 => ?_;have x8:=cH x7 p8;have b8:w8.heap[w6.heap.size]? = some (.cells [aI s.name, .int .i64 s.kind, .int .i64 s.ttl,y].toArray 117 (0,0)):=p8.this;have hp8:=aA b8;have h8:=x8.at h6;have hs8:=hs6.ext x8;have hy8:=oy.sl.ext x8;have hx8:=hx5.trans (x6.trans x8);clear p8 h7 x7;refine_lift eF fun _ _ => ?_;refine eS 2 _ b8 rfl fun w9 p9 => ?_;have b9:w9.heap[w6.heap.size]? = some (.cells [aI s.name, .int .i64 s.kind, .int .i64 (min s.ttl (eK o l).minimum),y].toArray 117 (0,0)):=p9.this;have z6:w.heap.size≤w6.heap.size:=(hx5.trans x6).size;have x9:=cH hx8 p9;have zlt:w1.heap.size < w6.heap.size:=by
  have a1:=(Array.getElem?_eq_some_iff.1 h6).1;exact a1
 have h9:w9.heap[w1.heap.size]? = some (.cells PM.toArray 67 (0,0)):=(p9.other _ aE).trans h8;have hy9:=(cM (oy.ext x8) p9 b8).sl;have hp9:=aA b9;clear p9 b8 hp8 h8 hy8;refine_lift eF fun _ _ => ?_;refine nG (e:=117) (k:=4) (bytes:=56) (xs:=[.agg #[aI s.name, .int .i64 s.kind, .int .i64 (min s.ttl (eK o l).minimum),y]]) (by simp [Value.cells]) fun v10 w10 x10 _ sl10 _ => ?_;refine aD ?_;have hs10:SetsAt w10 v10 [⟨s.name,s.kind,min s.ttl (eK o l).minimum,s.data⟩]:=(SetsC.one (s:=⟨s.name,s.kind,min s.ttl (eK o l).minimum,s.data⟩) (hy9.ext x10)).sets sl10;refine_lift bR ?_;have hrec:aO [⟨s.name,s.kind,min s.ttl (eK o l).minimum,s.data⟩]=[eG o l]:=by rw [dN,hden,bV,hdat];rfl
 refine gE (ZT v10 _ _ hs10 (by rw [hrec];simp)) fun r11 w11 x11 o11 => ?_;rw [hrec] at o11;refine aD ?_;have sl11:=o11.sl;have el11:=sl11.elem (i:=0) (e:=[aI (eG o l).name, .int .i64 (eG o l).kind, .int .i64 (eG o l).ttl,aI (eG o l).data]) rfl;have hl11:(aJ [eG o l]).length=1:=rfl;have h11:=(x10.trans x11).at h9;have x911:=x9.trans (x10.trans x11);refine_lift bR ?_;refine dS (v:=oM (eG o l)) h11 (fI rfl rfl rfl rfl) fun w12 p12 => ?_;have x12:=cH x911 p12;refine_lift bR ?_;refine nH (cs:=[aI (eG o l).name, .int .i64 (eG o l).kind, .int .i64 (eG o l).ttl,aI (eG o l).data]) p12.this ⟨rfl,x12⟩
theorem TC (k:Int) (d:List UInt8):(fold (aQ k d).1).length≤254:=by
 have h0:(fold []).length≤254:=vS [] rfl;unfold aQ;split
 ·exact h0
 ·split
  ·exact h0
  ·split
   ·exact h0
   ·rename_i n hn;unfold fX at hn;split at hn
    ·rename_i hh;cases hn
     exact vS _ hh.2
    ·cases hn
theorem qF {l:List RSet} {rs:List Rec} (h:k < rs.length):fK l (rs.take (k + 1))=gX l (fK l (rs.take k)) rs[k]:=by
 rw [List.take_succ_eq_append_getElem h,fK,List.foldl_append];rfl
theorem gO {l:List RSet} (hb:∀ s ∈ l,s.data.length≤20) (n:List UInt8) (k:Int):(fJ (aY l n k)).length≤20:=by
 cases hf:aY l n k with
 | none=>simp [fJ]
 | some s=>simp only [fJ,bV,List.length_map];exact hb s (kW hf).1
theorem xV {l:List RSet} (hb:∀ s ∈ l,s.data.length≤20) (rs:List Rec):∀ k,k≤rs.length→(fK l (rs.take k)).2.length≤40 * k
 | 0,_=>by simp [fK]
 | k + 1,h=>by
   rw [qF h];have ih:=xV hb rs k aE;unfold gX;split
   ·omega
   ·have a1:=gO hb (fold (aQ rs[k].kind rs[k].data).1) 1;have a2:=gO hb (fold (aQ rs[k].kind rs[k].data).1) 28;simp only [List.length_append];omega
def zA (ns:List (List UInt8)):List (Value × Value):=ns.map fun n=>(aI n, .bool true)
theorem TD {ns:List (List UInt8)} (h:(zA ns)[i]? = some (aI n,v)):n ∈ ns∧v=.bool true:=by
 rw [zA,List.getElem?_map] at h;cases hi:ns[i]? with
 | none=>rw [hi] at h;cases h
 | some m =>
  rw [hi] at h;simp only [Option.map_some,Option.some.injEq,Prod.mk.injEq,aI,Value.string.injEq,ByteArray.mk.injEq] at h;have:m=n:=by simpa using h.1
  exact ⟨this ▸ List.mem_of_getElem? hi,h.2.symm⟩
theorem VQ {ns:List (List UInt8)} (h:∀ (i:Nat) (e:Value × Value),(zA ns)[i]? = some e→e.1≠aI n):n ∉ ns:=by
 intro hm;obtain ⟨i,hi,rfl⟩:=List.mem_iff_getElem.1 hm;exact h i (aI ns[i], .bool true) (by simp [zA,hi]) rfl
theorem XK:WideMaps.KeyLaw Tryz.prog 32:=WideMaps.string_law Tryz.underlying32
theorem VR (n:List UInt8) (hn:n.length≤1000000):∃ l,keyOf Tryz.prog 32 (aI n)=some l :=
 ⟨_,WideMaps.keyOf_string_mk Tryz.underlying32 (by rw [gG];unfold maxLen;omega)⟩
def wJ (l:List RSet) (n:List UInt8) (j:Nat):List Rec:=((([1,28]:List Int).take j).map fun k=>fJ (aY l n k)).flatten
theorem TE (l:List RSet) (n:List UInt8):wJ l n 2=fJ (aY l n 1) ++ fJ (aY l n 28):=by simp [wJ]
theorem NQ (o:List UInt8) (v u:Value) (l:List RSet) (rs:List Rec) (w:World) (hv:SetsAt w v l) (hu:Sl 4 w u (aJ rs)) (hz:ZoneOk o l) (hr:rs.length≤10000) (hd:∀ r ∈ rs,r.data.length≤9223372036854775807) :
 Calls Tryz.prog 81 #[.agg #[aI o,v],u] w (oQ w fun r w'=>Own w.heap.size 4 67 w' r (aJ (xU l rs))):=by
 have hb20:∀ s ∈ l,s.data.length≤20:=fun s hs=>(nO (hz.may hs)).2;have hb:=pH hz;have hle:=aN rs;go_enter Tryz.func81,Tryz.ntmps81
 refine_lift DF ?_;intro _ _ _;refine kN (vs:=[aI o,v]) fun p w1 x1 hp => ?_;refine aD ?_;refine_lift eF fun _ _ => ?_;refine rN (kt:=32) rfl ?_;intro w2 x2 s2 hm2;refine aD ?_;refine_lift eF fun _ _ => ?_;go_loopw [5,8,9,10,12,13,14,18] (fun out _ _ _ _ _ _ i wr=>∃ k:Nat,k≤rs.length∧i=.int .i64 k∧Ext w1 wr∧MapAt Tryz.prog 32 wr w1.heap.size (zA (fK l (rs.take k)).1)∧Own w1.heap.size 4 67 wr out (aJ (fK l (rs.take k)).2)) (fun _ _ _ _ _ _ _ i _=>rs.length - (intOf i).toNat)
 case atStart=>exact ⟨0,Nat.zero_le _,rfl,x2,hm2,Own.nil _ _ _ _⟩
 case round =>
  obtain ⟨k,hk,rfl,hx,hm,ho⟩:=hrel;have hur:=(hu.ext x1).ext hx;by_cases hlt:k < rs.length
  ·have h4:=hur.elem (iH hlt);refine_lift CY ?_;intro _ _ _ _ _ _;refine fO (z:=PM) fun w3 x3 s3 h3 => ?_;refine aD ?_;refine dS (v:=.agg #[aI rs[k].name, .int .i64 rs[k].kind, .int .i64 rs[k].ttl,aI rs[k].data]) h3 (fI rfl rfl rfl rfl) fun w4 p4 => ?_;have x4:=cH x3 p4;have h4':=aA (cs:=[aI rs[k].name, .int .i64 rs[k].kind, .int .i64 rs[k].ttl,aI rs[k].data]) p4.this;have hx4:=hx.trans x4;have hm4:=hm.at (fun o ho=>x4.at ho);have ho4:=ho.ext x4;clear p4 h3 x3;refine_lift eF fun _ _ => ?_;refine cY (Av rs[k].kind rs[k].data _ (hd _ (List.getElem_mem hlt))) fun w5 x5 => ?_;have h5:=h4'.ext x5;refine_lift eF fun _ _ => ?_;refine cY (RR (aQ rs[k].kind rs[k].data).1 _) fun w6 x6 => ?_;have h6:=h5.ext x6;have x46:=x5.trans x6;have hx6:=hx4.trans x46;have hm6:=hm4.at (fun o ho=>x46.at ho);have ho6:=ho4.ext x46;have hst:=qF (l:=l) hlt;have hlen:=TC rs[k].kind rs[k].data;have hol:=xV hb20 rs k hk;generalize hnn:fold (aQ rs[k].kind rs[k].data).1=n at *;by_cases hg:(aQ rs[k].kind rs[k].data).2=0∧qV rs[k].kind=true
   ·(repeat' first | ((with_reducible refine cQ ?_);go_step) | ((with_reducible refine bM ?_);first | refine fN ?_ | (refine cV ?_ ?_ <;> intro hc)) | fail)
    all_goals first
     | (exfalso;clear hx hm ho hur h4 h4' h5 h6 hx4 hm4 ho4 hx6 hm6 ho6 hv hu hp hm2 hb hb20 hd hz hst;simp_all [qV];done)
     | skip
    all_goals
     obtain ⟨lx,hlx⟩:=VR n aE;have hzv:∀ w,(zeroValue 4).run Tryz.prog w=.ok (.bool false) w:=fun w=>by kernel_rfl
     obtain ⟨bv,bb,hrl,hcase⟩:=jZ XK (aR:rM Tryz.prog 202 32 4=true) hzv hm6 hlx false;simp only [Bool.false_eq_true,if_false] at hrl;refine bZ rfl (Runs.lookup rfl rfl hrl) ?_;refine aD ?_;rcases hcase with ⟨i,hie,rfl⟩ | ⟨hno,rfl,rfl⟩
     ·obtain ⟨hin,rfl⟩:=TD hie;have hst':fK l (rs.take (k + 1))=fK l (rs.take k):=by rw [hst,gX,hnn,if_pos (.inr (.inr hin))]
      refine_lift bR ?_;exact ⟨⟨k + 1,aE,by go_num,hx6,by rw [hst'];exact hm6,by rw [hst'];exact ho6⟩,by simp [intOf];omega⟩
     ·have hni:=VQ hno;have hst':fK l (rs.take (k + 1))=((fK l (rs.take k)).1 ++ [n],(fK l (rs.take k)).2 ++ wJ l n 2):=by
       rw [hst,gX,hnn,if_neg (by rintro (h | h | h);exact h hg.1;rw [hg.2] at h;cases h;exact hni h),TE,List.append_assoc]
      refine_lift eF fun _ _ => ?_;obtain ⟨w7,o7,hr7,p7,hm7⟩:=nD XK (aR:rM Tryz.prog 202 32 4=true) hm6 hlx (v:=.bool true) hno;refine oI rfl rfl rfl rfl hr7 ?_;have hx7:=cH hx6 p7;obtain ⟨es,ck,hme,_⟩:=hm6.out;have ho7:=ho6.mv p7.mv (.inr (ho6.neMap hme));have hm7':MapAt Tryz.prog 32 w7 w1.heap.size (zA ((fK l (rs.take k)).1 ++ [n])):=by simpa [zA] using hm7
      refine_lift eF fun _ _ => ?_;refine nG (e:=3) (k:=1) (bytes:=8) (xs:=[.int .i64 1, .int .i64 28]) (by simp [Value.cells]) fun v8 w8 x8 _ sl8 o8 => ?_;refine aD ?_;have o8':Own w1.heap.size 1 3 w8 v8 [[.int .i64 1],[.int .i64 28]]:=(show Own _ 1 3 w8 v8 [[.int .i64 1],[.int .i64 28]] from o8).weaken hx7.size;have hx8:=hx7.trans x8;have hm8:=hm7'.at (fun o ho=>x8.at ho);have ho8:=ho7.ext x8;have sl8':=o8'.sl;refine_lift bR ?_;clear sl8 sl8' hm7 hme o8 hm6 ho6 hx6 hm4 ho4 hm ho h4 h4' h5 h6 hrl hno;go_loopw [5,12,13,14,58] (fun out _ _ _ i wr=>∃ j:Nat,j≤2∧i=.int .i64 j∧Ext w1 wr∧MapAt Tryz.prog 32 wr w1.heap.size (zA ((fK l (rs.take k)).1 ++ [n]))∧Own w1.heap.size 4 67 wr out (aJ ((fK l (rs.take k)).2 ++ wJ l n j))∧Own w1.heap.size 1 3 wr v8 [[.int .i64 1],[.int .i64 28]]) (fun _ _ _ _ i _=>2 - (intOf i).toNat)
      case atStart=>exact ⟨0,aE,rfl,hx8,hm8,by simpa [wJ] using ho8,o8'⟩
      case round =>
       obtain ⟨j,hj,rfl,hxr,hmr,hor,h8r⟩:=hrel;have s8r:=h8r.sl;by_cases hj2:j < 2
       ·obtain ⟨K,hK,hfam⟩:∃ K:Int,([[.int .i64 1],[.int .i64 28]]:List (List Value))[j]? = some [.int .i64 K]∧wJ l n (j + 1)=wJ l n j ++ fJ (aY l n K):=by
         rcases (show j=0∨j=1 by omega) with rfl | rfl
         ·exact ⟨1,rfl,by simp [wJ]⟩
         ·exact ⟨28,rfl,by simp [wJ]⟩
        have hel:=s8r.elem hK;have hpr:=hp.ext hxr;have hvr:=(hv.ext x1).ext hxr;have hfl:=gO hb20 n 1;have hfl2:(wJ l n j).length≤40:=by
         rcases (show j=0∨j=1 by omega) with rfl | rfl
         ·simp [wJ]
         ·simp [wJ];omega
        have hfl3:=gO hb20 n K
        (repeat' first | ((with_reducible refine cQ ?_);go_step) | ((with_reducible refine bM ?_);first | refine fN ?_ | (refine cV ?_ ?_ <;> intro hc)) | fail)
        rotate_left 1
        ·exfalso
         have hq:(([[.int .i64 1],[.int .i64 28]]:List (List Value)).length:Int)≤j:=by assumption
         simp at hq;omega
        refine gE (ZL v l n K _ hvr (fun s hs=>by have:=hb s hs;omega)) fun r9 w9 x9 hr9 => ?_;obtain ⟨y9,rfl,hy9⟩:=nN hr9;clear hr9;refine_lift bR ?_;refine fO (z:=iP) fun w10 x10 s10 h10 => ?_;refine aD ?_;refine dS (v:=.agg #[aI ((aY l n K).getD bW).name, .int .i64 ((aY l n K).getD bW).kind, .int .i64 ((aY l n K).getD bW).ttl,y9]) h10 (fI rfl rfl rfl hy9.one) fun w11 p11 => ?_;have x11:=cH x10 p11;have h11:=aA (cs:=[aI ((aY l n K).getD bW).name, .int .i64 ((aY l n K).getD bW).kind, .int .i64 ((aY l n K).getD bW).ttl,y9]) p11.this;have y11:=hy9.ext x11;have xr11:=x9.trans x11;have hx11:=hxr.trans xr11;have hm11:=hmr.at (fun o ho=>xr11.at ho);have ho11:=hor.ext xr11;have h8_11:=h8r.ext xr11;clear p11 h10 x10;cases hfs:(aY l n K).isSome with
        | false =>
         have e0:fJ (aY l n K)=[]:=by
          cases hff:aY l n K with
          | none=>rfl
          | some s=>rw [hff] at hfs;cases hfs
         refine_lift lY fun _ => ?_;exact ⟨⟨j + 1,aE,by go_num,hx11,hm11,by rw [hfam,e0,List.append_nil];exact ho11,h8_11⟩,by simp [intOf];omega⟩
        | true =>
         refine_lift lY fun _ => ?_;refine nG (e:=117) (k:=4) (bytes:=56) (xs:=[.agg #[aI ((aY l n K).getD bW).name, .int .i64 ((aY l n K).getD bW).kind, .int .i64 ((aY l n K).getD bW).ttl,y9]]) (by simp [Value.cells]) fun v12 w12 x12 _ sl12 _ => ?_;refine aD ?_;have hs12:SetsAt w12 v12 [(aY l n K).getD bW]:=(SetsC.one (s:=(aY l n K).getD bW) (y11.ext x12)).sets sl12;refine_lift bR ?_;refine gE (ZT v12 _ _ hs12 (by rw [← eZ];omega)) fun r13 w13 x13 o13 => ?_;rw [← eZ] at o13;refine aD ?_;have x1113:=x12.trans x13;have ho13:=ho11.ext x1113;have hx13:=hx11.trans x1113;refine aZ (e:=67) (k:=4) rfl ho13 rfl o13.sl dP hx13.size (by rw [aN,aN,List.length_append];omega) ?_;intro v14 w14 o14 m14 _;refine aD ?_;have hx14:=ho13.mvx m14 hx13 (Nat.le_refl _);have hm13:=hm11.at (fun o ho=>x1113.at ho);obtain ⟨es',ck',hme',_⟩:=hm13.out;have hm14:=hm13.at (w':=w14) (fun o ho=>m14.at ho (fun e=>ho13.neMap hme' e.symm));have h8_13:=h8_11.ext x1113;have h8_14:=h8_13.mv m14 (h8_13.ne ho13 bG);have hrc:aJ ((fK l (rs.take k)).2 ++ wJ l n j) ++ aJ (fJ (aY l n K))=aJ ((fK l (rs.take k)).2 ++ wJ l n (j + 1)):=by
          rw [hfam];simp [aJ]
         rw [hrc] at o14;refine_lift bR ?_;exact ⟨⟨j + 1,aE,by go_num,hx14,hm14,o14,h8_14⟩,by simp [intOf];omega⟩
       ·have:j=2:=aE;subst this;refine_lift lY fun _ => ?_;exact ⟨⟨k + 1,aE,by go_num,hxr,by rw [hst'];exact hmr,by rw [hst'];exact hor⟩,by simp [intOf];omega⟩
   ·have hst':fK l (rs.take (k + 1))=fK l (rs.take k):=by
     rw [hst,gX];rw [if_pos];by_cases h0:(aQ rs[k].kind rs[k].data).2=0
     ·exact .inr (.inl (by simpa [h0] using hg))
     ·exact .inl h0
    (repeat' first | ((with_reducible refine cQ ?_);go_step) | ((with_reducible refine bM ?_);first | refine fN ?_ | (refine cV ?_ ?_ <;> intro hc)) | fail)
    all_goals first
     | (exfalso;clear hx hm ho hur h4 h4' h5 h6 hx4 hm4 ho4 hx6 hm6 ho6 hv hu hp hm2 hb hb20 hd hz hst hst';simp_all [qV];done)
     | exact ⟨⟨k + 1,aE,by go_num,hx6,by rw [hst'];exact hm6,by rw [hst'];exact ho6⟩,by simp [intOf];omega⟩
  ·have:k=rs.length:=aE;subst this;rw [List.take_length] at ho;refine_lift lY fun _ => ?_;go_ret;exact ⟨_,rfl,x1.trans hx,ho.weaken x1.size⟩
theorem VS (s:RSet) (u:Value) (w:World):Calls Tryz.prog 142 #[.agg #[aI s.name, .int .i64 s.kind, .int .i64 s.ttl,u]] w (bC w (.bool (fH s))):=by
 go_enter Tryz.func142,Tryz.ntmps142
 refine_lift mS fun _ _ => ?_;refine kN (vs:=[aI s.name, .int .i64 s.kind, .int .i64 s.ttl,u]) fun ps w1 x1 hs => ?_;refine aD ?_;refine_lift bR ?_;go_ret;exact ⟨rfl,x1⟩
theorem VT (pk:Value) (k:Int) (s:RSet) (u:Value) (w:World) (hk:Pts w pk [.int .i64 k]):Calls Tryz.prog 144 #[.agg #[aI s.name, .int .i64 s.kind, .int .i64 s.ttl,u],pk] w (bC w (.bool (!bN k s))):=by
 go_enter Tryz.func144,Tryz.ntmps144
 refine_lift mS fun _ _ => ?_;refine kN (vs:=[aI s.name, .int .i64 s.kind, .int .i64 s.ttl,u]) fun ps w1 x1 hs => ?_;refine aD ?_;refine_lift DG (fun hc => ?_) (fun hc => ?_)
 all_goals
  go_ret;refine ⟨?_,x1⟩;simp_all [bN]
theorem Pts.take {p:Value} {vs:List Value} (h:Pts w p vs) (n:Nat):Pts w p (vs.take n):=by
 obtain ⟨b,o,e,hc⟩:=h;refine ⟨b,o,e,fun j x hx=>hc j x ?_⟩;rw [List.getElem?_take] at hx;split at hx
 ·exact hx
 ·cases hx
def sH (o:List UInt8) (v:Value) (k:Int) (a u e:Value):List Value:=[aI o,v, .int .i64 k,a,u,e]
theorem mN {a e:Value} {k:Int} (h:w.heap[b]? = some (.cells (sH o v k a u e).toArray 148 (0,0))) :
 Pts w (.pointer (some ⟨b,0,none⟩)) (sH o v k a u e)∧Pts w (dZ (.pointer (some ⟨b,0,none⟩)) 0) [aI o,v]∧Pts w (dZ (.pointer (some ⟨b,0,none⟩)) 2) [.int .i64 k,a,u,e]:=by
 have hp:=aA h;exact ⟨hp,(hp.part 0).take 2,hp.part 2⟩
section
variable {P:Program} {w:World} {ts:List Value} {df:List Deferred} {d:Option Nat} {ty:TypeId} {ps:String} {af:Array Edge} {g:Option (Nat × Bool)}
theorem Runs.fieldA {s:TypeId} {m n off:Nat} {ad:Addr} (hx:ts.getD m undef=.pointer (some ad)) (hf:nX P s n off=true) :
 Runs P (Oper.mk d (.fieldAddr s (.tmp m) n) ty ps af g) (Act.mk ts.toArray df) w (dZ (.pointer (some ad)) off):=by
 obtain ⟨fs,f,i,ht,hf,ho,hie,hz⟩:=mF hf;have hx':(Act.mk ts.toArray df).eval (.tmp m)=.pointer (some ad):=by rw [iB];exact hx
 constructor;simp [execOp,hx',Instr.fieldAt,Instr.sureAddr,run_underlying ht,hf,fieldPlace,sizeOf,typeInfo,hie,hz,dZ,ho]
end
theorem KB (b:Nat) (o:List UInt8) (v:Value) (l:List RSet) (k0 kind:Int) (a:Value) (w0 w:World) (hx:Ext w0 w) (hv:SetsAt w0 v l) (hz:ZoneOk o l) (hbk:w0.heap.size≤b)
 (hb:w.heap[b]? = some (.cells (sH o v k0 a (.slice none 0 0) (.slice none 0 0)).toArray 148 (0,0))) (ha:a.oneCell'=true) :
 Calls Tryz.prog 141 #[.pointer (some ⟨b,0,none⟩), .int .i64 kind] w fun e w'=>e=.returned (.tuple #[])∧Ext w0 w'∧Mv (some b) w w'∧∃ u,w'.heap[b]? = some (.cells (sH o v kind a u (.slice none 0 0)).toArray 148 (0,0))∧Own w.heap.size 4 67 w' u (aJ [eG o l]):=by
 obtain ⟨hp,hp0,hp2⟩:=mN hb;have hvw:=hv.ext hx;have hblt:=(Array.getElem?_eq_some_iff.1 hb).1;go_enter Tryz.func141,Tryz.ntmps141
 refine_lift DH ?_;intro _ _ _;refine cY (TB o v l _ hvw hz) fun w1 x1 => ?_;refine_lift bR ?_;refine fO (z:=PM) fun w2 x2 s2 h2 => ?_;refine aD ?_;refine dS (v:=oM (eG o l)) h2 (fI rfl rfl rfl rfl) fun w3 p3 => ?_;have x3:=cH x2 p3;have h3:=aA (cs:=[aI (eG o l).name, .int .i64 (eG o l).kind, .int .i64 (eG o l).ttl,aI (eG o l).data]) p3.this;have x13:=x1.trans x3;have hb3:=x13.at hb;have h3b:w3.heap[w1.heap.size]? = some (.cells [aI (eG o l).name, .int .i64 (eG o l).kind, .int .i64 (eG o l).ttl,aI (eG o l).data].toArray 67 (0,0)):=p3.this;clear p3 h2 x2;have hzb:b≠w1.heap.size:=by have:=x1.size;omega
 refine_lift bR ?_;refine bE 12 (fun w'=>Pts w' (.pointer (some ⟨w1.heap.size,0,none⟩)) [aI (eG o l).name, .int .i64 (eG o l).kind, .int .i64 (eG o l).ttl,aI (eG o l).data]) aR ?_;intro w4 x4 _;refine ⟨h3.ext x4,?_⟩;refine LF 0 ?_;refine LF 1 ?_;refine LF 2 ?_;refine uG (i:=3) (v:=oM (eG o l)) rfl rfl (fun w' hF=>by exact rn) ?_;refine aD ?_;refine XV 5 ?_;refine IX (i:=6) rfl rfl (fun _=>Runs.fieldA (off:=2) rfl aR) ?_;refine aD ?_;refine IX (i:=7) rfl rfl (fun _=>Runs.fieldA (off:=0) rfl aR) ?_;refine aD ?_;have h4:=x4.at h3b;have hb4:=x4.at hb3;have x04:=x13.trans x4;refine UV (i:=4) (j:=8) aR rfl rfl rfl ?_ ?_
 ·refine nG (e:=67) (k:=4) (bytes:=48) (xs:=[oM (eG o l)]) (by simp [Value.cells,oM]) fun u5 w5 x5 _ sl5 o5 => ?_;refine aD ?_;have h5:=x5.at h4;have hb5:=x5.at hb4;refine aG ⟨bJ (aA h5),?_⟩;refine fR 8 ?_;refine eS 2 _ hb5 rfl fun w6 p6 => ?_;have h6:=p6.at h5 (fun e=>hzb e.symm);have hb6:w6.heap[b]? = some (.cells (sH o v kind a (.slice none 0 0) (.slice none 0 0)).toArray 148 (0,0)):=p6.this;have o6:=(show Own _ 4 67 w5 u5 (aJ [eG o l]) from o5).mv p6.mv (.inr (o5.neBlock hb5 bG));have m6:Mv (some b) w w6:=((x04.trans x5).mv _).trans p6.mv;have zz:=x04.size;refine aG ⟨bJ (aA h6),?_⟩;refine XV 9 ?_;refine IX (i:=10) rfl rfl (fun _=>Runs.fieldA (off:=2) rfl aR) ?_;refine aD ?_;refine IX (i:=11) rfl rfl (fun _=>Runs.fieldA (off:=2) rfl aR) ?_;refine aD ?_;refine fR 12 ?_;refine eS 4 _ hb6 o6.sl.one fun w7 p7 => ?_;refine aG ⟨bF rfl,?_⟩;refine qR ?_;refine_lift bR ?_;have m7:Mv (some b) w w7:=m6.trans p7.mv;refine bodyPost_end (results_none rfl _ _ _) rfl ?_;exact ⟨rfl,hx.move m7 (by rintro k ⟨⟩;exact hbk),m7,_,p7.this,(cM o6 p7 hb6).weaken zz⟩
 ·refine eS 2 _ hb4 rfl fun w5 p5 => ?_;have h5:=p5.at h4 (fun e=>hzb e.symm);have hb5:w5.heap[b]? = some (.cells (sH o v kind a (.slice none 0 0) (.slice none 0 0)).toArray 148 (0,0)):=p5.this;refine aG ⟨bJ (aA h5),?_⟩;refine fR 4 ?_;refine nG (e:=67) (k:=4) (bytes:=48) (xs:=[oM (eG o l)]) (by simp [Value.cells,oM]) fun u6 w6 x6 _ sl6 o6' => ?_;refine aD ?_;have h6:=x6.at h5;have hb6:=x6.at hb5;have o6:=(show Own _ 4 67 w6 u6 (aJ [eG o l]) from o6');have m6:Mv (some b) w w6:=((x04.mv _).trans p5.mv).trans (x6.mv _);have zz:w.heap.size≤w5.heap.size:=Nat.le_trans x04.size (Nat.le_of_eq p5.size.symm);refine aG ⟨bJ (aA h6),?_⟩;refine XV 9 ?_;refine IX (i:=10) rfl rfl (fun _=>Runs.fieldA (off:=2) rfl aR) ?_;refine aD ?_;refine IX (i:=11) rfl rfl (fun _=>Runs.fieldA (off:=2) rfl aR) ?_;refine aD ?_;refine fR 12 ?_;refine eS 4 _ hb6 o6.sl.one fun w7 p7 => ?_;refine aG ⟨bF rfl,?_⟩;refine qR ?_;refine_lift bR ?_;have m7:Mv (some b) w w7:=m6.trans p7.mv;refine bodyPost_end (results_none rfl _ _ _) rfl ?_;exact ⟨rfl,hx.move m7 (by rintro k ⟨⟩;exact hbk),m7,_,p7.this,(cM o6 p7 hb6).weaken zz⟩
theorem FI {l:List RSet} (h:ZoneOk o l):qE l []=true:=by
 obtain ⟨s,hs,h1,_⟩:=h.soaSet;have hm:=h.small h1;refine List.any_eq_true.2 ⟨s,h1,?_⟩;have ht:=oA (n:=s.name);rw [hm.2] at ht;obtain ⟨a,ha⟩:=Option.isSome_iff_exists.1 ht;have hr:dI []=some []:=rfl;rw [mV ha hr];simp
theorem BZ {l:List RSet} (h:qE l (enc ls)=true):kX l ls=ls:=by
 cases ls with
 | nil=>rfl
 | cons x t=>rw [kX,if_pos h]
theorem KC {l:List RSet} {t:List (List UInt8)} (h:qE l (enc (x :: t))=false):kX l (x :: t)=kX l t:=by
 rw [kX,if_neg (by simp [h])]
theorem sI {l:List (List UInt8)}:∀ f ∈ aK l,∀ u ∈ f,u.oneCell'=true:=by
 intro f hf u hu;obtain ⟨r,_,rfl⟩:=List.mem_map.1 hf;simp only [List.mem_cons,List.not_mem_nil,or_false] at hu;subst hu;rfl
theorem KD (x:List UInt8) (t:List (List UInt8)):(enc t).length < (enc (x :: t)).length:=by simp [enc];omega
theorem YM (o:List UInt8) (v:Value) (l:List RSet) (n:List UInt8) (w0 w:World) (hx0:Ext w0 w) (hv0:SetsAt w0 v l) (hz:ZoneOk o l) (hn:(aP n).isSome=true) :
 Calls Tryz.prog 140 #[.agg #[aI o,v],aI n] w (oQ w fun r w'=>∃ u css,r=.tuple #[u, .bool (sF l n)]∧Own w.heap.size 4 117 w' u css∧SetsC w0 css (aW l n)):=by
 have hv:=hv0.ext hx0;have hl:=wI hz;have hex:∀ (m:List UInt8) (w':World),SetsAt w' v l→Calls Tryz.prog 194 #[.agg #[aI o,v],aI m] w' (bC w' (.bool (qE l m))):=fun m w' h=>SZ o v l m w' h;obtain ⟨ls0,hls0⟩:=Option.isSome_iff_exists.1 hn;obtain ⟨f1,f2,f3⟩:=dO hls0;go_enter Tryz.func140,Tryz.ntmps140
 refine_lift DF ?_;intro _ _ _;refine kN (vs:=[aI o,v]) fun p w1 x1 hp => ?_;refine aD ?_;have hv1:=hv.ext x1;refine_lift rS fun _ _ _ _ => ?_;refine cY (hex n _ hv1) fun w2 x2 => ?_;have hx2:=x1.trans x2;have hp2:=hp.ext x2;have hv2:=hv.ext hx2;cases hi:qE l n with
 | true =>
  refine_lift eF fun _ _ => ?_;refine gE (Ag o v l n n w0 _ (hx0.trans hx2) hv0 aE) fun u w3 x3 ho => ?_;obtain ⟨css,ho,hc⟩:=ho;refine_lift bR ?_;go_ret2;exact ⟨_,rfl,hx2.trans x3,u,css,by rw [sF,hi];rfl,ho.weaken hx2.size,by rw [aW,if_pos hi];exact hc⟩
 | false =>
  refine_lift eF fun _ _ => ?_;go_loopw [6] (fun a wr=>∃ ls:List (List UInt8),a=aI (enc ls)∧Ext w2 wr∧ls.all jD=true∧(enc ls).length≤254∧kX l ls=kX l ls0) (fun a _=>tT a)
  case atStart=>exact ⟨ls0,by rw [f2],Ext.refl _,f1,by rw [f2];exact f3,rfl⟩
  case round =>
   obtain ⟨ls,rfl,hx,g1,g2,g3⟩:=hrel;have hvr:=hv2.ext hx;have hpr:=hp2.ext hx;refine_lift ZQ ?_;intro _ _ _ _ _;refine cY (hex (enc ls) _ hvr) fun w4 x4 => ?_;have hx4:=hx.trans x4;cases hi4:qE l (enc ls) with
   | false =>
    cases ls with
    | nil=>rw [show enc []=[] from rfl,FI hz] at hi4;cases hi4
    | cons x t =>
     refine_lift bR ?_;refine cY (TA _ (jU g1 g2)) fun w5 x5 => ?_;refine_lift bR ?_;have ht:=KD x t;exact ⟨⟨t,rfl,hx4.trans x5,by simp at g1;simp;exact g1.2,aE,by rw [← g3,KC hi4]⟩,by simp [mZ];omega⟩
   | true =>
    have hab:kX l ls=ls:=BZ hi4;rw [hab] at g3;have hp4:=hpr.ext x4;refine_lift eF fun _ _ => ?_;refine nG (e:=9) (k:=1) (bytes:=16) (xs:=[aI [42]]) (by simp [aI,Value.cells]) fun v5 w5 x5 _ sl5 o5 => ?_;refine aD ?_;refine_lift bR ?_;refine gE (KA (enc ls) _) fun v6 w6 x6 o6 => ?_;rw [jU g1 g2] at o6;refine aD ?_;have o5':=(show Own _ 1 9 w5 v5 (aK [[42]]) from o5).ext x6;have hlen:ls.length≤254:=by have:=gM ls;omega
    refine aZ (e:=9) (k:=1) rfl o5' rfl o6.sl sI (Nat.le_trans x5.size x6.size) (by simp [aK];omega) ?_;intro v7 w7 o7 m7 _;refine aD ?_;have x7:=o5'.mvx m7 (x5.trans x6) (Nat.le_refl _);have hst:qU l n=(kO ([42] :: ls)).getD []:=by rw [qU,hls0,Option.getD_some,← g3]
    have hv7:=(hvr.ext x4).ext x7;have hp7:=hp4.ext x7;have hx7:=hx2.trans (hx4.trans x7);refine_lift bR ?_;obtain ⟨e8,c8⟩:∃ e:Int,Calls Tryz.prog 67 #[v7] w7 (bC w7 (.tuple #[aI (qU l n), .int .i64 e])):=by
     have h:=Cg v7 ([42] :: ls) w7 o7.sl (by simp;omega);rw [hst];cases hj:kO ([42] :: ls) with
     | none=>rw [hj] at h;exact ⟨1,h⟩
     | some m=>rw [hj] at h;exact ⟨0,h⟩
    refine cY c8 fun w8 x8 => ?_;have hv8:=hv7.ext x8;have hp8:=hp7.ext x8;have hx8:=hx7.trans x8;refine_lift eF fun _ _ => ?_;refine gE (Ag o v l (qU l n) n w0 _ (hx0.trans hx8) hv0 aE) fun u w9 x9 ho => ?_;obtain ⟨css,ho,hc⟩:=ho;have su:=ho.sl;have hcl:=hc.len;refine_lift bR ?_;go_ret2;refine ⟨_,rfl,hx8.trans x9,u,css,?_,ho.weaken hx8.size,by rw [aW,if_neg (by simp [hi])];exact hc⟩;rw [sF,hi,Bool.false_or,← hcl]
    congr 4
    simp
end Go.Proofs.X
namespace Go.Proofs.X
open Go.RowKit
theorem PP {α:Type} (p:α→Bool) (l:List α):(∃ (k:Nat) (hk:k < l.length),rA p l=k∧p l[k]=true∧(l.take k).filter (fun s => !p s)=l.take k)∨(rA p l=-1∧l.filter (fun s => !p s)=l):=by
 unfold rA;cases h:l.findIdx? p with
 | none =>
  rw [List.findIdx?_eq_none_iff] at h;refine .inr ⟨rfl,?_⟩;rw [List.filter_eq_self];intro a ha;simp [h a ha]
 | some k =>
  rw [List.findIdx?_eq_some_iff_getElem] at h;obtain ⟨hk,h1,h2⟩:=h;refine .inl ⟨k,hk,rfl,h1,?_⟩;rw [List.filter_eq_self];intro a ha;obtain ⟨j,hj,rfl⟩:=List.mem_iff_getElem.1 ha;have hj':j < k:=by simp at hj;omega
  have:=h2 j hj';simp only [List.getElem_take]
  simpa using this
theorem SetsC.row {w:World} {css:List (List Value)} {l:List RSet} (h:SetsC w css l) {i:Nat} (hi:i < l.length):∃ x,css[i]? = some [aI l[i].name, .int .i64 l[i].kind, .int .i64 l[i].ttl,x]∧Sl 1 w x (aK l[i].data):=h.at' i _ (List.getElem?_eq_getElem hi)
theorem GY {B:Nat} (v:Value) (l:List RSet) (css:List (List Value)) (f:FuncId) (caps:Array Value) (p:RSet→Bool) (w0 w:World) (hx0:Ext w0 w) (hB:w0.heap.size≤B) (ho:Own B 4 117 w v css) (hc:SetsC w0 css l) (he:Enters Tryz.prog f) (hf:SetFn w0 f caps l p) :
 Calls Tryz.prog 143 #[v, .func (.func f) #[] caps] w fun e w'=>∃ v' css',e=.returned v'∧Own B 4 117 w' v' css'∧SetsC w0 css' (l.filter fun s => !p s)∧Ext w0 w':=by
 have hcl:=hc.len;have hsv:SetsAt w v l:=(hc.ext hx0).sets ho.sl;have hidx:=oD v l f caps p w hsv he (hf.ext hx0);go_enter Tryz.func143,Tryz.ntmps143
 refine_lift DH ?_;intro _ _ _;refine cY hidx fun w1 x1 => ?_;have ho1:=ho.ext x1;have hx1:=hx0.trans x1;rcases PP p l with ⟨k,hk,hi,hp,hfil⟩ | ⟨hi,hfil⟩
 ·rw [hi];rcases ho.form with ⟨rfl,hn⟩ | ⟨g,cap,rfl,hg,hb,hcap,hcm⟩
  ·rw [hn] at hcl;simp at hcl;omega
  ·refine_lift DH fun _ _ _ => ?_;go_loopw [5,6,7] (fun i j _ wr=>∃ (m n:Nat) (cs:List (List Value)),i=.int .i64 m∧j=.int .i64 n∧m < n∧n≤l.length∧cs.length=css.length∧Ext w0 wr∧Own B 4 117 wr (.slice (some ⟨g,0,none⟩) css.length cap) cs∧SetsC w0 (cs.take m) ((l.take n).filter fun s => !p s)∧cs.drop n=css.drop n) (fun _ j _ _=>l.length - (intOf j).toNat)
   case atStart =>
    refine ⟨k,k + 1,css,rfl,by go_num,aE,aE,rfl,hx1,ho1,?_,rfl⟩;rw [List.take_succ_eq_append_getElem hk,List.filter_append,hfil];simp only [hp,Bool.not_true,List.filter_cons,Bool.false_eq_true,if_false,List.filter_nil,List.append_nil];exact hc.take k
   case round =>
    obtain ⟨m,n,cs,rfl,rfl,hmn,hnl,hlen,hx,hor,hkept,hrest⟩:=hrel;have hsl:=hor.sl;by_cases hlt:n < l.length
    ·obtain ⟨x,hcx,hdx⟩:=hc.row hlt;have hcs:cs[n]? = some [aI l[n].name, .int .i64 l[n].kind, .int .i64 l[n].ttl,x]:=by
      have:=congrArg (·[0]?) hrest;simp only [List.getElem?_drop,Nat.add_zero] at this;rw [this,hcx]
     have hel:=hsl.elem hcs;refine_lift CY ?_;intro _ _ _ _ _ _;refine fO (z:=iP) fun w2 x2 s2 h2 => ?_;refine aD ?_;refine dS (v:=.agg #[aI l[n].name, .int .i64 l[n].kind, .int .i64 l[n].ttl,x]) h2 (fI rfl rfl rfl hdx.one) fun w3 p3 => ?_;have x3:=cH x2 p3;have h3:=aA (cs:=[aI l[n].name, .int .i64 l[n].kind, .int .i64 l[n].ttl,x]) p3.this;have hx3:=hx.trans x3;clear p3 h2 x2;refine_lift eF fun _ _ => ?_;refine gT he rfl rfl rfl (hf _ (List.getElem_mem hlt) x _ hx3 (hdx.ext hx3)) ?_;rintro e w4 ⟨rfl,x4⟩;refine ⟨_,rfl,?_⟩;refine aD ?_;have hx4:=hx3.trans x4;have ho4:=hor.ext (x3.trans x4);have hs4:=ho4.sl;have h4:=h3.ext x4;have hst:(l.take (n + 1)).filter (fun s => !p s)=(l.take n).filter (fun s => !p s) ++ if p l[n]=true then [] else [l[n]]:=by
      rw [List.take_succ_eq_append_getElem hlt,List.filter_append];cases hq:p l[n] <;> simp [hq]
     clear hel hsl h3;cases hpn:p l[n] with
     | true =>
      rw [hpn,if_pos rfl,List.append_nil] at hst;refine_lift bR ?_;exact ⟨⟨m,n + 1,cs,rfl,by go_num,aE,aE,hlen,hx4,ho4,by rw [hst];exact hkept,by rw [← List.drop_drop,hrest,List.drop_drop]⟩,by simp [intOf];omega⟩
     | false =>
      rw [hpn,if_neg bP] at hst;refine_lift eF fun _ _ => ?_;refine AN (i:=m) (c:=.agg #[aI l[n].name, .int .i64 l[n].kind, .int .i64 l[n].ttl,x]) rfl rfl rfl ho4 aE (by simp [Value.cells]) (aR:gL Tryz.prog 117 4=true) (fI rfl rfl rfl hdx.one) ?_;intro w5 o5 m5;have x5:Ext w0 w5:=ho4.mvx m5 hx4 hB;refine_lift bR ?_;refine ⟨⟨m + 1,n + 1,_,by go_num,by go_num,aE,aE,by rw [List.length_set];exact hlen,x5,o5,?_,?_⟩,by simp [intOf];omega⟩
      ·rw [hst];have e:(cs.set m [aI l[n].name, .int .i64 l[n].kind, .int .i64 l[n].ttl,x]).take (m + 1)=cs.take m ++ [[aI l[n].name, .int .i64 l[n].kind, .int .i64 l[n].ttl,x]]:=by
        rw [List.take_succ_eq_append_getElem (by rw [List.length_set];omega),List.take_set_of_le (Nat.le_refl _)];simp
       exact e ▸ hkept.append (SetsC.one hdx)
      ·rw [List.drop_set_of_lt aE,← List.drop_drop,hrest,List.drop_drop]
    ·have:n=l.length:=aE;subst this;rw [List.take_length] at hkept;rw [← hlen] at hor;have hml:(cs.take m).length=m:=by rw [List.length_take];omega
     have hkl:=hkept.len;refine_lift DH fun _ _ _ => ?_;have e38:dG (.slice (some ⟨g,0,none⟩) css.length cap) 4 m cs.length=.slice (some ⟨g,m * 4,none⟩) (cs.length - m) (cap - m):=by
      unfold dG;simp only [if_neg (show ¬ cap=m by omega)];simp [eI]
     refine LO (m:=m) (z:=iP) hor e38 aE ?_;intro w9 o9 m9;have x9:Ext w0 w9:=hor.mvx m9 hx hB;refine_lift eF fun _ _ => ?_;refine aS (Runs.takeC (k:=4) (n:=m) (l:=css.length) (c:=cap) (ad:=some ⟨g,0,none⟩) rfl rfl aE aR) ?_;refine aD ?_;refine_lift bR ?_;go_ret;have e41:Value.slice (if cap=0 then some (⟨g,0,none⟩:Addr) else Option.map (fun x:Addr=>x.add (0 * 4)) (some (⟨g,0,none⟩:Addr))) (m - 0) (cap - 0)=.slice (some ⟨g,0,none⟩) m cap:=by
      simp [eI]
     exact ⟨_,_,rfl,by rw [e41];exact o9,hkept,x9⟩
 ·rw [hi];refine_lift bR ?_;go_ret;exact ⟨_,_,rfl,ho1,by rw [hfil];exact hc,hx1⟩
variable {cs:Array Value} {held:Bool} {qt:Int} {ps rs:List (List UInt8 × Nat)} {ls:List (List UInt8)} {css css0 es:List (List Value)} {d l m n o qn s t x y z:List UInt8} {B a b base c e fuel i j k p q:Nat} {fz:Nat × Nat} {row:Option Nat} {r u v:Value} {w w' w0 w1 w2:World}
theorem sJ (k:Int) (d:List UInt8):(aP (fold (aQ k d).1)).isSome=true:=by
 have h0:(aP (fold [])).isSome=true:=rfl;unfold aQ;split
 ·exact h0
 ·split
  ·exact h0
  ·split
   ·exact h0
   ·rename_i n hn;unfold fX at hn;split at hn
    ·rename_i hh;cases hn
     rw [sG];exact hh.2
    ·cases hn
theorem sY (l:List RSet) (n:List UInt8):(aW l n).length≤l.length:=by
 unfold aW;split <;> exact MI _ _ _
theorem sZ:∀ {L:List RSet},(∀ s ∈ L,s.data.length≤20)→(aO L).length≤20 * L.length
 | [],_=>by simp [aO]
 | s :: L,h=>by
   have e:aO (s :: L)=bV s ++ aO L:=by simp [aO]
   have ih:=sZ (L:=L) fun t ht=>h t (by simp [ht]);have:=h s bP;rw [e,List.length_append,bV,List.length_map,List.length_cons];omega
structure StepA (w0:World) (b:Nat) (o:List UInt8) (v:Value) (A:List Rec) (r:StepR) (w':World):Prop where
 ext:Ext w0 w'
 out:∃ a u,w'.heap[b]? = some (.cells (sH o v r.kind a u (.slice none 0 0)).toArray 148 (0,0))∧Own w0.heap.size 4 67 w' a (aJ (A ++ r.ans))∧Own w0.heap.size 4 67 w' u (aJ r.auth)∧(r.more=true→u=.slice none 0 0)
theorem StepA.of {A:List Rec} {r:StepR} {a:Value} {cs:List Value} (hx:Ext w0 w1) (hm:Mv row w1 w') (hrow:row=some b) (hbk:w0.heap.size≤b)
 (hb1:w1.heap[b]? = some (.cells cs.toArray 148 (0,0))) (hb:w'.heap[b]? = some (.cells (sH o v r.kind a u (.slice none 0 0)).toArray 148 (0,0))) (ha:Own w0.heap.size 4 67 w1 a (aJ (A ++ r.ans))) (hu:Own w0.heap.size 4 67 w1 u (aJ r.auth)) (hn:r.more=true→u=.slice none 0 0:=by (intro h;cases h)):StepA w0 b o v A r w':=by
 subst hrow;exact ⟨hx.move hm (by rintro k ⟨⟩;exact hbk),a,u,hb,ha.mv hm (.inr (ha.neBlock hb1 bG)),hu.mv hm (.inr (hu.neBlock hb1 bG)),hn⟩
theorem YN (b:Nat) (o:List UInt8) (v:Value) (l:List RSet) (n:List UInt8) (k c:Int) (a:Value) (A:List Rec) (w0 w:World) (hx:Ext w0 w) (hv:SetsAt w0 v l) (hz:ZoneOk o l) (hbk:w0.heap.size≤b)
 (hb:w.heap[b]? = some (.cells (sH o v 0 a (.slice none 0 0) (.slice none 0 0)).toArray 148 (0,0))) (ha:Own w0.heap.size 4 67 w a (aJ A)) (hn:(aP n).isSome=true) (hA:A.length≤100000) :
 Calls Tryz.prog 80 #[.pointer (some ⟨b,0,none⟩),aI n, .int .i64 k, .int .i64 c] w fun e w'=>e=.returned (.tuple #[aI (bX o l n k c).next, .bool (bX o l n k c).more])∧StepA w0 b o v A (bX o l n k c) w':=by
 have hzb:=pH hz;have hzr:=nL hz;have hblt:=(Array.getElem?_eq_some_iff.1 hb).1;go_enter Tryz.func80,Tryz.ntmps80
 refine_lift DF ?_;intro _ _ _;refine kN (vs:=[.int .i64 k]) fun pk w1 x1 hk => ?_;refine aD ?_;have hx1:=hx.trans x1;have hb1:=x1.at hb;obtain ⟨hp,hp0,hp2⟩:=mN hb1;have ha1:=ha.ext x1;have hv1:=hv.ext hx1;refine_lift rS fun _ _ _ _ => ?_;refine cY (vY n o _) fun w2 x2 => ?_;have hb2:=x2.at hb1;have hx2:=hx1.trans x2;have ha2:=ha1.ext x2;cases hu:bO n o with
 | false =>
  refine_lift RL (fun _ => ?_) (fun _ _ _ => ?_)
  ·refine aS (Runs.fieldA (off:=2) rfl aR) ?_;refine aD ?_;refine_lift bR ?_;refine eS 2 _ hb2 rfl fun w3 p3 => ?_;refine_lift bR ?_;go_ret2;have hr:bX o l n k c=⟨4,[],[],[],false⟩:=by rw [bX,if_pos hu,if_pos ‹c=0›]
   rw [hr];exact ⟨rfl,StepA.of hx2 p3.mv rfl hbk hb2 p3.this (by rw [List.append_nil];exact ha2) (Own.nil _ _ _ _)⟩
  ·have hr:bX o l n k c=⟨0,[],[],[],false⟩:=by rw [bX,if_pos hu,if_neg ‹¬ c=0›]
   go_ret2;rw [hr];exact ⟨rfl,StepA.of hx2 (Mv.refl _ _) rfl hbk hb2 hb2 (by rw [List.append_nil];exact ha2) (Own.nil _ _ _ _)⟩
 | true =>
  have hu':¬ bO n o=false:=by simp [hu]
  refine_lift rS fun _ _ _ _ => ?_;have c39:∀ w',SetsAt w' v l→Calls Tryz.prog 138 #[.agg #[aI o,v],aI n] w' (bC w' (.tuple #[aI (eX o l n).1, .bool (eX o l n).2])):=fun w' h=>by
   have:=ZW o v l n w' h hzb;rw [if_pos hzr,xT hz.chk] at this;exact this
  have hv2:=hv1.ext x2;refine cY (c39 _ hv2) fun w3 x3 => ?_;have hb3:=x3.at hb2;have hx3:=hx2.trans x3;have ha3:=ha2.ext x3;have hv3:=hv2.ext x3;have hk3:=(hk.ext x2).ext x3;obtain ⟨qp,qp0,qp2⟩:=mN hb3;clear hp hp0 hp2;cases hc:(eX o l n).2 with
  | true =>
   refine_lift DH fun _ _ _ => ?_;refine gE (ZL v l (eX o l n).1 2 _ hv3 (fun s hs=>by have:=hzb s hs;omega)) fun r4 w4 x4 hr4 => ?_;obtain ⟨y4,rfl,hy4⟩:=nN hr4;clear hr4;refine_lift bR ?_;refine fO (z:=iP) fun w5 x5 s5 h5 => ?_;refine aD ?_;refine dS (v:=.agg #[aI ((aY l (eX o l n).1 2).getD bW).name, .int .i64 ((aY l (eX o l n).1 2).getD bW).kind, .int .i64 ((aY l (eX o l n).1 2).getD bW).ttl,y4]) h5 (fI rfl rfl rfl hy4.one) fun w6 p6 => ?_;have x6:=cH x5 p6;have h6:=aA (cs:=[aI ((aY l (eX o l n).1 2).getD bW).name, .int .i64 ((aY l (eX o l n).1 2).getD bW).kind, .int .i64 ((aY l (eX o l n).1 2).getD bW).ttl,y4]) p6.this;have x36:=x4.trans x6;have hx6:=hx3.trans x36;have hb6:=x36.at hb3;have ha6:=ha3.ext x36;have y6:=hy4.ext x6;clear p6 h5 x5;refine_lift eF fun _ _ => ?_;refine nG (e:=117) (k:=4) (bytes:=56) (xs:=[.agg #[aI ((aY l (eX o l n).1 2).getD bW).name, .int .i64 ((aY l (eX o l n).1 2).getD bW).kind, .int .i64 ((aY l (eX o l n).1 2).getD bW).ttl,y4]]) (by simp [Value.cells]) fun v8 w8 x8 _ sl8 _ => ?_;refine aD ?_;have hs8:SetsAt w8 v8 [(aY l (eX o l n).1 2).getD bW]:=(SetsC.one (s:=(aY l (eX o l n).1 2).getD bW) (y6.ext x8)).sets sl8;have hlen:(aO [(aY l (eX o l n).1 2).getD bW]).length≤1000000:=by
    rw [← eZ];have:=gO (fun s hs=>(nO (hz.may hs)).2) (eX o l n).1 2;omega
   refine_lift bR ?_;refine gE (ZT v8 _ _ hs8 hlen) fun r9 w9 x9 o9 => ?_;rw [← eZ] at o9;refine aD ?_;have x69:=x8.trans x9;have hx9:=hx6.trans x69;have hb9:=x69.at hb6;have ha9:=ha6.ext x69;have zz:w0.heap.size≤w8.heap.size:=(hx6.trans x8).size;refine_lift bR ?_;refine aS (Runs.fieldA (off:=2) rfl aR) ?_;refine aD ?_;refine_lift bR ?_;refine eS 2 _ hb9 rfl fun w10 p10 => ?_;have hb10:w10.heap[b]? = some (.cells (sH o v 3 a (.slice none 0 0) (.slice none 0 0)).toArray 148 (0,0)):=p10.this;obtain ⟨ap,ap0,ap2⟩:=mN hb10;refine_lift bR ?_;refine aS (Runs.fieldA (off:=2) rfl aR) ?_;refine aD ?_;refine_lift bR ?_;refine eS 4 _ hb10 o9.sl.one fun w11 p11 => ?_;refine_lift bR ?_;go_ret2;have hr:bX o l n k c=⟨3,[],fJ (aY l (eX o l n).1 2),[],false⟩:=by rw [bX,if_neg hu',if_pos hc]
   rw [hr];exact ⟨rfl,StepA.of hx9 (p10.mv.trans p11.mv) rfl hbk hb9 p11.this (by rw [List.append_nil];exact ha9) (o9.weaken zz)⟩
  | false =>
   have hc':¬ (eX o l n).2=true:=by simp [hc]
   refine_lift DH fun _ _ _ => ?_;refine gE (YM o v l n w0 _ hx3 hv hz hn) fun r4 w4 x4 hr4 => ?_;obtain ⟨u,css,rfl,ho,hcs⟩:=hr4;have hx4:=hx3.trans x4;have hb4:=x4.at hb3;have ha4:=ha3.ext x4;have hk4:=hk3.ext x4;have z34:=hx3.size;obtain ⟨sp,sp0,sp2⟩:=mN hb4;clear qp qp0 qp2;have hne:a.ownBlock≠some b:=ha4.neBlock hb4 bG;cases hsb:sF l n with
   | false =>
    refine_lift rS fun _ _ _ _ => ?_;refine wZ (KB b o v l 0 2 a w0 _ hx4 hv hz hbk hb4 ha4.sl.one) ?_;rintro e w5 ⟨rfl,x5,m5,u5,b5,o5⟩;refine ⟨_,rfl,?_⟩;refine aD ?_;refine_lift bR ?_;go_ret2;have hr:bX o l n k c=⟨2,[],[eG o l],[],false⟩:=by rw [bX,if_neg hu',if_neg hc',if_pos hsb]
    rw [hr];exact ⟨rfl,x5,a,u5,b5,by rw [List.append_nil];exact ha4.mv m5 (.inr hne),o5.weaken hx4.size,fun h=>by cases h⟩
   | true =>
    have hsb':¬ sF l n=false:=by simp [hsb]
    have hL:SetsAt w4 u (aW l n):=(hcs.ext hx4).sets ho.sl;have hf1:SetFn w4 142 #[] (aW l n) fH:=fun s _ x w' _ _=>VS s x w';have hcl:=hcs.len;have hl200:=wI hz;have hspl:=sY l n;refine_lift rS fun _ _ _ _ => ?_;refine cY (oD u (aW l n) 142 #[] fH _ hL (enters_of Tryz.func142 rfl rfl) hf1) fun w5 x5 => ?_;have hx5:=hx4.trans x5;have hb5:=x5.at hb4;have ha5:=ha4.ext x5;have ho5:=ho.ext x5;have hk5:=hk4.ext x5;by_cases hal:(aW l n).any fH=true∧k≠5∧k≠255
    ·rcases sV fH (aW l n) with ⟨i,hi,hidx,hpi,hfind⟩ | ⟨_,hno⟩
     ·rw [hidx];have hset:bB l n=(aW l n)[i]:=by rw [bB,hfind];rfl
      obtain ⟨h51,h52⟩:=hal.2;have hcut:((aW l n).take (i + 1)).drop i=[bB l n]:=by
       rw [hset,List.take_succ_eq_append_getElem hi,List.drop_append];simp [Nat.min_eq_left (Nat.le_of_lt hi)]
      obtain ⟨x,hcx,hdx⟩:=hcs.row hi;rw [← hset] at hcx hdx;have hmem:bB l n ∈ aW l n:=by rw [hset];exact List.getElem_mem hi
      obtain ⟨hrne,hd20,hd1⟩:=gI hz.chk hmem;have hsl5:=ho5.sl;have hdl:((bB l n).data.getD 0 []).length≤9223372036854775807:=by
       obtain ⟨t,ht,_,_,e3,_⟩:=kY hz.chk hmem;have:=gN hz t ht ((bB l n).data.getD 0 []) (by rw [e3,List.getD_eq_getElem?_getD,List.getElem?_eq_getElem (by rw [← e3];omega)];simp);omega
      have hd0:(aK (bB l n).data)[0]? = some [aI ((bB l n).data.getD 0 [])]:=kU _ _ _ (by rw [List.getD_eq_getElem?_getD,List.getElem?_eq_getElem aE];simp)
      (repeat' first | ((with_reducible refine cQ ?_);go_step) | ((with_reducible refine bM ?_);first | refine fN ?_ | (refine cV ?_ ?_ <;> intro hc)) | fail)
      ·have hr:bX o l n k c=⟨0,[],[],[],false⟩:=by rw [bX,if_neg hu',if_neg hc',if_neg hsb',if_pos hal,if_pos ‹c=8›]
       go_ret2;rw [hr];exact ⟨rfl,StepA.of hx5 (Mv.refl _ _) rfl hbk hb5 hb5 (by rw [List.append_nil];exact ha5) (Own.nil _ _ _ _)⟩
      ·have hc8:=‹¬ c=8›;refine bE 12 (Ext w5) aR ?_;intro w6 x6 _;refine ⟨x6,?_⟩;refine XV 0 ?_;refine LF 1 ?_;refine LF 2 ?_;refine IX (i:=3) rfl rfl (fun _=>Runs.fieldA (off:=2) rfl aR) ?_;refine aD ?_;refine LF 4 ?_;refine LF 5 ?_;refine LF 6 ?_;refine LF 7 ?_;refine LF 8 ?_;refine LF 9 ?_;refine uG (i:=10) (v:=dG u 4 i (i + 1)) rfl rfl (fun w' hF=>Runs.cut (k:=4) (m:=i) (n:=i + 1) (es:=css) rfl rfl (hsl5.ext hF) aE aE aR) ?_;refine aD ?_;refine fR 11 ?_;have hs6:SetsAt w6 (dG u 4 i (i + 1)) [bB l n]:=by
        have h1:=((hcs.ext (hx5.trans x6)).take (i + 1)).drop i;rw [hcut] at h1;exact h1.sets ((hsl5.ext x6).cut aE aE)
       refine gE (ZT _ _ _ hs6 (by rw [dN,bV,List.length_map];omega)) fun r7 w7 x7 o7 => ?_;rw [dN] at o7;refine aD ?_;have x57:=x6.trans x7;have hb7:=x57.at hb5;have ha7:=ha5.ext x57;refine aG ⟨bJ x57,?_⟩;refine fR 12 ?_;refine aZ (e:=67) (k:=4) rfl ha7 rfl o7.sl dP (hx5.trans x57).size (by rw [aN,aN,bV,List.length_map];omega) ?_;intro a8 w8 o8 m8 _;refine aD ?_;have hb8:=m8.at hb7 (fun e=>hne e.symm);have hx8:=ha7.mvx m8 (hx5.trans x57) (Nat.le_refl _);have ho7:=ho5.ext x57;have ho8:=ho7.mv m8 (ho7.ne ha7 bG);have hrc:aJ A ++ aJ (bV (bB l n))=aJ (A ++ bV (bB l n)):=by simp [aJ]
       rw [hrc] at o8;refine aG ⟨bF rfl,?_⟩;refine XV 13 ?_;refine IX (i:=14) rfl rfl (fun _=>Runs.fieldA (off:=2) rfl aR) ?_;refine aD ?_;refine IX (i:=15) rfl rfl (fun _=>Runs.fieldA (off:=1) rfl aR) ?_;refine aD ?_;refine fR 16 ?_;refine eS 3 _ hb8 o8.sl.one fun w9 p9 => ?_;refine aG ⟨bF rfl,?_⟩;refine qR ?_;have hb9:w9.heap[b]? = some (.cells (sH o v 0 a8 (.slice none 0 0) (.slice none 0 0)).toArray 148 (0,0)):=p9.this;have hx9:=cH hx8 p9;have ho9:=cM ho8 p9 hb8;have ha9:=cM o8 p9 hb8;have hs9:=ho9.sl;have el9:=hs9.elem hcx;have hd9:=hdx.ext hx9;have ed9:=hd9.elem hd0;have htl:=aV (bB l n).data;clear sp sp0 sp2 hsl5;refine_lift eF fun _ _ => ?_;refine cY (Av 5 ((bB l n).data.getD 0 []) _ hdl) fun w10 x10 => ?_;refine_lift eF fun _ _ => ?_;refine cY (RR (aQ 5 ((bB l n).data.getD 0 [])).1 _) fun w11 x11 => ?_;refine_lift bR ?_;go_ret2;have hr:bX o l n k c=⟨0,bV (bB l n),[],fold (aQ 5 ((bB l n).data.getD 0 [])).1,true⟩:=by rw [bX,if_neg hu',if_neg hc',if_neg hsb',if_pos hal,if_neg hc8]
       rw [hr];have x911:=x10.trans x11;exact ⟨rfl,hx9.trans x911,a8, .slice none 0 0,x911.at hb9,ha9.ext x911,Own.nil _ _ _ _,fun _=>rfl⟩
      all_goals
       exfalso
       first
        | (have hq:¬ (0:Int)≤(i:Int):=by assumption
           omega)
        | (have hq:(!decide (k=255))=false:=by assumption
           simp [h52] at hq)
        | (have hq:(!decide (k=5))=false:=by assumption
           simp [h51] at hq)
     ·rw [hno.1] at hal;cases hal.1
    ·have hf2:SetFn w1 144 #[pk] (aW l n) (fun s => !bN k s):=fun s _ x w' hx' _=>VT pk k s x w' (hk.ext hx');have x15:Ext w1 w5:=x2.trans (x3.trans (x4.trans x5));have zb:w1.heap.size≤w3.heap.size:=(x2.trans x3).size;have hb5':=hb5;have hkk:(aW l n).any fH=true→k=5∨k=255:=fun h=>by
      by_cases h5:k=5
      ·exact .inl h5
      ·by_cases h6:k=255
       ·exact .inr h6
       ·exact absurd ⟨h,h5,h6⟩ hal
     have hfe:(aW l n).filter (fun s => !!bN k s)=(aW l n).filter (bN k):=by simp only [Bool.not_not]
     have hMl:((aW l n).filter (bN k)).length≤200:=Nat.le_trans (List.length_filter_le _ _) aE;have hM20:=sZ (L:=(aW l n).filter (bN k)) fun s hs=>(gI hz.chk (List.mem_filter.1 hs).1).2.1;have hany:rA fH (aW l n)=-1∨∃ i:Nat,rA fH (aW l n)=i∧(k=5∨k=255):=by
      rcases sV fH (aW l n) with ⟨i,hi,hidx,hpi,hfind⟩ | ⟨hidx,hno⟩
      ·exact .inr ⟨i,hidx,hkk (List.any_eq_true.2 ⟨_,List.getElem_mem hi,hpi⟩)⟩
      ·exact .inl hidx
     obtain ⟨j,hj,hjk⟩:∃ j:Int,rA fH (aW l n)=j∧(0≤j→k=5∨k=255):=by
      rcases hany with h | ⟨i,h,h2⟩
      ·exact ⟨-1,h,aE⟩
      ·exact ⟨i,h,fun _=>h2⟩
     rw [hj];clear hany hj sp sp0 sp2
     (repeat' first | ((with_reducible refine cQ ?_);go_step) | ((with_reducible refine bM ?_);first | refine fN ?_ | (refine cV ?_ ?_ <;> intro hc)) | fail)
     all_goals first
      | (exfalso
         have q1:(!decide (k=5))=true:=by assumption
         have q2:(!decide (k=255))=true:=by assumption
         have q3:0≤j:=by assumption
         simp at q1 q2;rcases hjk q3 with h | h
         ·exact q1 h
         ·exact q2 h)
      | skip
     all_goals
      refine wZ (GY u (aW l n) css 144 #[pk] (fun s => !bN k s) w1 _ x15 zb ho5 (hcs.ext hx1) (enters_of Tryz.func144 rfl rfl) hf2) ?_;rintro e w6 ⟨v6,css6,rfl,o6,c6,x6⟩;refine ⟨_,rfl,?_⟩;refine aD ?_;rw [hfe] at c6;have hb6:=x6.at hb1;have ha6:=ha1.ext x6;have hx6:=hx1.trans x6;have hs6:=(c6.ext x6).sets o6.sl;have sl6:=o6.sl;have cl6:=c6.len;obtain ⟨rp,rp0,rp2⟩:=mN hb6;generalize hM:(aW l n).filter (bN k)=M at *;refine_lift eF fun _ _ => ?_;refine bE 8 (Ext w6) aR ?_;intro w7 x7 _;refine ⟨x7,?_⟩;refine XV 0 ?_;refine LF 1 ?_;refine LF 2 ?_;refine IX (i:=3) rfl rfl (fun _=>Runs.fieldA (off:=2) rfl aR) ?_;refine aD ?_;refine LF 4 ?_;refine LF 5 ?_;refine LF 6 ?_;refine fR 7 ?_;refine EF (ZT v6 M _ (hs6.ext x7) aE) fun r8 w8 x8 o8 => ?_;have x68:=x7.trans x8;have hb8:=x68.at hb6;have ha8:=ha6.ext x68;refine aG ⟨bJ x68,?_⟩;refine fR 8 ?_;refine aZ (e:=67) (k:=4) rfl ha8 rfl o8.sl dP (hx6.trans x68).size (by rw [aN,aN];omega) ?_;intro a9 w9 o9 m9 _;refine aD ?_;have hb9:=m9.at hb8 (fun e=>hne e.symm);have hx9:=ha8.mvx m9 (hx6.trans x68) (Nat.le_refl _);have o69:=(o6.ext x68).mv m9 ((o6.ext x68).ne ha8 bG);have hrc:aJ A ++ aJ (aO M)=aJ (A ++ aO M):=by simp [aJ]
      rw [hrc] at o9;refine aG ⟨bF rfl,?_⟩;refine XV 9 ?_;refine IX (i:=10) rfl rfl (fun _=>Runs.fieldA (off:=2) rfl aR) ?_;refine aD ?_;refine IX (i:=11) rfl rfl (fun _=>Runs.fieldA (off:=1) rfl aR) ?_;refine aD ?_;refine fR 12 ?_;refine eS 3 _ hb9 o9.sl.one fun w10 p10 => ?_;refine aG ⟨bF rfl,?_⟩;refine qR ?_;have hb10:w10.heap[b]? = some (.cells (sH o v 0 a9 (.slice none 0 0) (.slice none 0 0)).toArray 148 (0,0)):=p10.this;have hx10:=cH hx9 p10;have ha10:=cM o9 p10 hb9;have o610:=cM o69 p10 hb9;have sl10:=o610.sl;clear rp rp0 rp2 sl6;refine_lift RL (fun _ => ?_) (fun _ _ _ => ?_)
      ·have hl0:css6.length=0:=by have:=‹(css6.length:Int)=0›;omega
       have hM0:M=[]:=List.eq_nil_of_length_eq_zero aE;refine wZ (KB b o v l 0 1 a9 w0 _ hx10 hv hz hbk hb10 ha10.sl.one) ?_;rintro e w11 ⟨rfl,x11,m11,u11,b11,o11⟩;refine ⟨_,rfl,?_⟩;refine aD ?_;refine_lift bR ?_;go_ret2;have hr:bX o l n k c=⟨1,[],[eG o l],[],false⟩:=by rw [bX,if_neg hu',if_neg hc',if_neg hsb',if_neg hal,hM,if_pos hM0]
       rw [hr];rw [hM0,show aO []=[] from rfl] at ha10;exact ⟨rfl,x11,a9,u11,b11,ha10.mv m11 (.inr (ha10.neBlock hb10 bG)),o11.weaken hx10.size,fun h=>by cases h⟩
      ·have hl0:css6.length≠0:=by have:=‹¬ (css6.length:Int)=0›;omega
       have hM0:M≠[]:=by rintro rfl;exact hl0 cl6
       go_ret2;have hr:bX o l n k c=⟨0,aO M,[],[],false⟩:=by rw [bX,if_neg hu',if_neg hc',if_neg hsb',if_neg hal,hM,if_neg hM0]
       rw [hr];exact ⟨rfl,hx10,a9, .slice none 0 0,hb10,ha10,Own.nil _ _ _ _,fun h=>by cases h⟩
def FromL (l:List RSet) (r:Rec):Prop:=∃ t ∈ l,r.data ∈ t.data
theorem FromL.opt {l:List RSet} {k:Int}:∀ r ∈ fJ (aY l n k),FromL l r:=by
 intro r hr;cases hf:aY l n k with
 | none=>rw [hf] at hr;cases hr
 | some s =>
  rw [hf] at hr;obtain ⟨d,hd,rfl⟩:=List.mem_map.1 hr;exact ⟨s,(kW hf).1,hd⟩
theorem FromL.sets {l:List RSet} (h:dB l=0) {s:RSet} (hs:s ∈ aW l n):∀ r ∈ bV s,FromL l r:=by
 intro r hr;obtain ⟨d,hd,rfl⟩:=List.mem_map.1 hr;obtain ⟨t,ht,_,_,e,_⟩:=kY h hs;exact ⟨t,ht,by rw [← e];exact hd⟩
theorem FJ {l:List RSet} (h:dB l=0) (n:List UInt8) (k c:Int):(∀ r ∈ (bX o l n k c).ans,FromL l r)∧((bX o l n k c).kind=3→∀ r ∈ (bX o l n k c).auth,FromL l r):=by
 unfold bX;split
 ·exact ⟨bP,bP⟩
 ·split
  ·exact ⟨bP,fun _=>FromL.opt⟩
  ·split
   ·exact ⟨bP,bP⟩
   ·split
    ·rename_i h4;split
     ·exact ⟨bP,bP⟩
     ·exact ⟨FromL.sets h (pF h4.1).1,bP⟩
    ·split
     ·exact ⟨bP,bP⟩
     ·refine ⟨fun r hr => ?_,bP⟩;obtain ⟨s,hs,d,hd,rfl⟩:=oF hr;exact FromL.sets h (List.mem_filter.1 hs).1 _ (List.mem_map_of_mem hd)
theorem KE {l:List RSet} (h:dB l=0) (k:Int):∀ (f:Nat) (c:Int) (n:List UInt8),(∀ r ∈ (cX o l k f c n).ans,FromL l r)∧((cX o l k f c n).kind=3→∀ r ∈ (cX o l k f c n).auth,FromL l r)
 | 0,c,n=>by simp [cX]
 | f + 1,c,n=>by
   rw [cX];split
   ·obtain ⟨h1,h2⟩:=KE h k f (c + 1) (bX o l n k c).next;refine ⟨fun r hr => ?_,h2⟩;rcases List.mem_append.1 hr with hr | hr
    ·exact (FJ h n k c).1 r hr
    ·exact h1 r hr
   ·exact FJ h n k c
theorem FK {l:List RSet} (h:dB l=0) {k c:Int} (hm:(bX o l n k c).more=true) :
 (bX o l n k c).kind=0∧(bX o l n k c).auth=[]∧c≠8∧(aP (bX o l n k c).next).isSome=true∧(bX o l n k c).ans.length≤20:=by
 generalize hr:bX o l n k c=r at *;unfold bX at hr;split at hr
 ·subst hr;cases hm
 ·split at hr
  ·subst hr;cases hm
  ·split at hr
   ·subst hr;cases hm
   ·split at hr
    ·rename_i h4;split at hr
     ·subst hr;cases hm
     ·rename_i h5;subst hr;refine ⟨rfl,rfl,h5,sJ _ _,?_⟩;simp only [bV,List.length_map];exact (gI h (pF h4.1).1).2.1
    ·split at hr <;> (subst hr;cases hm)
theorem KF {l:List RSet} (h:dB l=0) (hl:l.length≤200) (n:List UInt8) (k c:Int):(bX o l n k c).ans.length≤4000∧(bX o l n k c).auth.length≤20:=by
 unfold bX;split
 ·simp
 ·split
  ·have:=gO (fun s hs=>(nO (FH h hs)).2) (eX o l n).1 2;exact ⟨bP,this⟩
  ·split
   ·simp
   ·split
    ·rename_i h4;split
     ·simp
     ·have:=(gI h (pF h4.1).1).2.1;simp only [bV,List.length_map];exact ⟨aE,bP⟩
    ·split
     ·simp
     ·have h1:=sZ (L:=(aW l n).filter (bN k)) fun s hs=>(gI h (List.mem_filter.1 hs).1).2.1;have h2:=List.length_filter_le (bN k) (aW l n);have h3:=sY l n;exact ⟨by simp only;omega,bP⟩
end Go.Proofs.X
namespace Go.Proofs.X
open Go.RowKit
def mO:List Value:=[.int .i64 0, .slice none 0 0, .slice none 0 0, .slice none 0 0]
def AnsO (B:Nat) (a:AnsR) (y:Value) (w:World):Prop :=
 ∃ u1 u2 u3,y=.agg #[.int .i64 a.kind,u1,u2,u3]∧Own B 4 67 w u1 (aJ a.ans)∧Own B 4 67 w u2 (aJ a.auth)∧Own B 4 67 w u3 (aJ a.extra)
def AnsA (a:AnsR) (y:Value) (w:World):Prop :=
 ∃ u1 u2 u3,y=.agg #[.int .i64 a.kind,u1,u2,u3]∧Sl 4 w u1 (aJ a.ans)∧Sl 4 w u2 (aJ a.auth)∧Sl 4 w u3 (aJ a.extra)
theorem AnsO.a {B:Nat} {a:AnsR} {y:Value} {w:World} (h:AnsO B a y w):AnsA a y w:=let ⟨u1,u2,u3,e,a,b,c⟩:=h;⟨u1,u2,u3,e,a.sl,b.sl,c.sl⟩
theorem AnsA.ext {a:AnsR} {y:Value} {w w':World} (h:AnsA a y w) (hx:Ext w w'):AnsA a y w':=let ⟨u1,u2,u3,e,a,b,c⟩:=h;⟨u1,u2,u3,e,a.ext hx,b.ext hx,c.ext hx⟩
theorem AnsO.zero (B:Nat) (w:World):AnsO B NP (.agg mO.toArray) w:=⟨_,_,_,rfl,Own.nil _ _ _ _,Own.nil _ _ _ _,Own.nil _ _ _ _⟩
theorem Ah (o:List UInt8) (v:Value) (l:List RSet) (q:List UInt8) (k:Int) (w:World) (hv:SetsAt w v l) (hb:∀ s ∈ l,s.data.length≤1000000) :
 Calls Tryz.prog 32 #[.agg #[aI o,v], .agg #[aI q, .int .i64 k]] w (oQ w fun r w'=>∃ y,r=.tuple #[y, .int .i64 (nW o l q)]∧AnsO w.heap.size (rB o l q k) y w'):=by
 go_enter Tryz.func32,Tryz.ntmps32
 refine_lift DF ?_;intro _ _ _;refine kN (vs:=[aI o,v]) fun p w1 x1 hp => ?_;refine aD ?_;refine kN (vs:=[aI q, .int .i64 k]) fun pq w2 x2 hq => ?_;refine aD ?_;refine fO (z:=mO) fun w3 x3 s3 h3 => ?_;refine aD ?_;have hx3:=x1.trans (x2.trans x3);have hp3:=hp.ext (x2.trans x3);have hq3:=hq.ext x3;have hv3:=hv.ext hx3;have z2:=(x1.trans x2).size;refine_lift bR ?_
 go_step3
 refine_lift rS fun _ _ _ _ => ?_;refine cY (zZ o v l _ hv3 hb) fun w4 x4 => ?_;have h4:=x4.at h3;have hx4:=hx3.trans x4;have hp4:=hp3.ext x4;have hq4:=hq3.ext x4;have hv4:=hv3.ext x4;have ret0:∀ e:Int,e≠0→nW o l q=e→rB o l q k=NP:=fun e he h=>by rw [rB,if_pos (by rw [h];exact he)]
 (repeat' first | ((with_reducible refine cQ ?_);go_step) | ((with_reducible refine bM ?_);first | refine fN ?_ | (refine cV ?_ ?_ <;> intro hc)) | fail)
 ·have q1:¬ cB o l=0:=by simpa using (by assumption:(!decide (cB o l=0))=true)
  have hE:nW o l q=cB o l:=by rw [nW,if_pos q1]
  refine bZ (v:=.agg mO.toArray) rfl (Runs.build0 (by kernel_rfl)) ?_;refine aD ?_;refine_lift bR ?_;refine dS (v:=.agg mO.toArray) h4 aR fun w5 p5 => ?_;refine_lift bR ?_;rw [Exit.noGoto_ret];refine nH (cs:=mO) p5.this ⟨_,rfl,hx4.move p5.mv (by rintro k ⟨⟩;exact z2),?_⟩;rw [ret0 _ q1 hE,hE];exact ⟨_,rfl,AnsO.zero _ _⟩
 ·have q1:cB o l=0:=by simpa using (by assumption:(!decide (cB o l=0))=false)
  refine cY (YA q _) fun w5 x5 => ?_;have h5:=x5.at h4;have hx5:=hx4.trans x5;have hp5:=hp4.ext x5;have hq5:=hq4.ext x5;have hv5:=hv4.ext x5;have hE:nW o l q=dW q:=by rw [nW,if_neg (by simp [q1])]
  have hCE:(if (aP q).isSome=true then (0:Int) else 1)=dW q:=rfl;rw [hCE]
  (repeat' first | ((with_reducible refine cQ ?_);go_step) | ((with_reducible refine bM ?_);first | refine fN ?_ | (refine cV ?_ ?_ <;> intro hc)) | fail)
  ·have q2:¬ dW q=0:=by simpa using (by assumption:(!decide (dW q=0))=true)
   refine bZ (v:=.agg mO.toArray) rfl (Runs.build0 (by kernel_rfl)) ?_;refine aD ?_;refine_lift bR ?_;refine dS (v:=.agg mO.toArray) h5 aR fun w6 p6 => ?_;refine_lift bR ?_;rw [Exit.noGoto_ret];refine nH (cs:=mO) p6.this ⟨_,rfl,hx5.move p6.mv (by rintro k ⟨⟩;exact z2),?_⟩;rw [ret0 _ q2 hE,hE];exact ⟨_,rfl,AnsO.zero _ _⟩
  ·have q2:dW q=0:=by simpa using (by assumption:(!decide (dW q=0))=false)
   have hz:=kI q1;have hl200:=wI hz;have hA:rB o l q k=⟨(cX o l k 9 0 (fold q)).kind,(cX o l k 9 0 (fold q)).ans,(cX o l k 9 0 (fold q)).auth,xU l (iT (cX o l k 9 0 (fold q)))⟩:=by rw [rB,if_neg (by rw [hE];simp [q2])]
   have hlq:(aP (fold q)).isSome=true:=by
    rw [sG];unfold dW at q2;split at q2
    ·assumption
    ·cases q2
   rw [q2] at hE;clear hCE ret0;obtain ⟨va,vn,vc,hvs⟩:∃ a n c,v=.slice a n c:=by obtain ⟨cv,h,_⟩:=hv.sl;exact h.slf
   refine bZ (v:=.agg (sH o v 0 (.slice none 0 0) (.slice none 0 0) (.slice none 0 0)).toArray) rfl (Runs.build (vals:=[(0, .agg #[aI o,v])]) rfl (by rw [hvs];kernel_rfl)) ?_;refine aD ?_;refine zV (vs:=sH o v 0 (.slice none 0 0) (.slice none 0 0) (.slice none 0 0)) fun w6 x6 s6 b6 => ?_;refine aD ?_;have h6:=x6.at h5;have hp6:=hp5.ext x6;have hq6:=hq5.ext x6;refine_lift eF fun _ _ => ?_;refine cY (RR q _) fun w7 x7 => ?_;have b7:=x7.at b6;have h7:=x7.at h6;have hx57:=x6.trans x7;refine_lift eF fun _ _ => ?_
   go_step3
   refine_lift eF fun _ _ => ?_;have hbk:w5.heap.size≤w5.heap.size:=Nat.le_refl _;go_loopw [9,10,11] (fun nv _ cv wr=>∃ (c:Nat) (n:List UInt8) (a:Value) (A:List Rec),nv=aI n∧cv=.int .i64 c∧c≤8∧Ext w5 wr∧wr.heap[w5.heap.size]? = some (.cells (sH o v 0 a (.slice none 0 0) (.slice none 0 0)).toArray 148 (0,0))∧Own w5.heap.size 4 67 wr a (aJ A)∧(aP n).isSome=true∧A.length≤20 * c ∧
    (cX o l k 9 0 (fold q)).kind=(cX o l k (9 - c) c n).kind∧(cX o l k 9 0 (fold q)).ans=A ++ (cX o l k (9 - c) c n).ans∧(cX o l k 9 0 (fold q)).auth=(cX o l k (9 - c) c n).auth) (fun _ _ c _=>9 - (intOf c).toNat)
   case atStart=>exact ⟨0,fold q, .slice none 0 0,[],rfl,rfl,aE,hx57,b7,Own.nil _ _ _ _,hlq,bP,rfl,rfl,rfl⟩
   case round =>
    obtain ⟨c,n,a,A,rfl,rfl,hc,hx,hbr,har,hln,hAl,e1,e2,e3⟩:=hrel;have hqr:=hq5.ext hx;refine_lift ZQ ?_;intro _ _ _ _ _;refine wZ (YN w5.heap.size o v l n k c a A w5 _ hx hv5 hz hbk hbr har hln aE) ?_;rintro e w8 ⟨rfl,hx8,a8,u8,b8,oa8,ou8,hn8⟩;refine ⟨_,rfl,?_⟩;refine aD ?_;have e9:9 - c=(8 - c) + 1:=aE;have hsl:=KF (o:=o) hz.chk hl200 n k c;have eu:cX o l k (9 - c) c n=if (bX o l n k c).more=true then
     ⟨(cX o l k (8 - c) (c + 1) (bX o l n k c).next).kind,(bX o l n k c).ans ++ (cX o l k (8 - c) (c + 1) (bX o l n k c).next).ans,(cX o l k (8 - c) (c + 1) (bX o l n k c).next).auth,[],false⟩
     else bX o l n k c:=by rw [e9,cX]
    rw [eu] at e1 e2 e3;clear eu e9;cases hm:(bX o l n k c).more with
    | true =>
     rw [if_pos hm] at e1 e2 e3;simp only at e1 e2 e3;obtain ⟨m1,m2,m3,m4,m5⟩:=FK hz.chk hm;have hu8:=hn8 hm;rw [m1,hu8] at b8;have hc8:c≠8:=fun e=>m3 (by rw [e];rfl);rw [← List.append_assoc] at e2;refine_lift bR ?_;refine ⟨⟨c + 1,_,a8,A ++ (bX o l n k c).ans,rfl,by go_num,aE,hx8,b8,oa8,m4,by rw [List.length_append];omega,?_,?_,?_⟩,by simp [intOf];omega⟩
     ·rw [e1,show 9 - (c + 1)=8 - c by omega];rfl
     ·rw [e2,show 9 - (c + 1)=8 - c by omega];rfl
     ·rw [e3,show 9 - (c + 1)=8 - c by omega];rfl
    | false =>
     rw [if_neg (by simp [hm])] at e1 e2 e3;have hfrom:=KE (o:=o) hz.chk k 9 0 (fold q);rw [← e2] at oa8;rw [← e3] at ou8;rw [← e1] at b8;have hal:(cX o l k 9 0 (fold q)).ans.length≤4200:=by rw [e2,List.length_append];omega
     have hul:(cX o l k 9 0 (fold q)).auth.length≤20:=by rw [e3];omega
     generalize cX o l k 9 0 (fold q)=R at *;clear e1 e2 e3 hsl;obtain ⟨sp,sp0,sp2⟩:=mN b8;have sa8:=oa8.sl;have h8:w8.heap[w2.heap.size]? = some (.cells mO.toArray 72 (0,0)):=by
      have a1:=(Array.getElem?_eq_some_iff.1 h5).1;exact hx8.at h5
     refine_lift eF fun _ _ => ?_;refine aS (Runs.fieldA (off:=2) rfl aR) ?_;refine aD ?_;refine_lift bR ?_;refine EF (wH a8 R.ans _ sa8 aE) fun v9 w9 x9 o9 => ?_;have su9:=(ou8.ext x9).sl;have hv8:=hv5.ext hx8;have hp8:=hp5.ext hx8;have zq:w2.heap.size≠w5.heap.size:=by
      have a1:=(Array.getElem?_eq_some_iff.1 h5).1;omega
     refine_lift rS fun _ _ _ _ => ?_;refine aS (Runs.fieldA (off:=2) rfl aR) ?_;refine aD ?_;refine_lift OU (fun _ _ _ => ?_) (fun _ => ?_)
     ·have h3k:=‹R.kind=3›;refine aS (Runs.fieldA (off:=2) rfl aR) ?_;refine aD ?_;refine_lift bR ?_;refine aZ (e:=67) (k:=4) rfl o9 rfl su9 dP x9.size (by rw [aN,aN];omega) ?_;intro v10 w10 o10 m10 _;refine aD ?_;have xt:Ext w8 w10:=o9.mvx m10 x9 (Nat.le_refl _);have hrc:aJ R.ans ++ aJ R.auth=aJ (iT R):=by rw [iT,if_pos h3k];simp [aJ]
      rw [hrc] at o10;have ot:=o10.sl;have hfr:∀ r ∈ iT R,FromL l r:=by
       intro r hr;rw [iT,if_pos h3k] at hr;rcases List.mem_append.1 hr with hr | hr
       ·exact hfrom.1 r hr
       ·exact hfrom.2 h3k r hr
      clear su9;refine_lift eF fun _ _ => ?_;have htl:(iT R).length≤10000:=by
       unfold iT;rw [List.length_append];split <;> first | omega | (simp;omega)
      have hdat:∀ r ∈ iT R,r.data.length≤9223372036854775807:=fun r hr=>by
       obtain ⟨t,ht,hd⟩:=hfr r hr;have:=gN hz t ht _ hd;omega
      refine EF (NQ o v _ l (iT R) _ (hv8.ext xt) ot hz htl hdat) fun r11 w11 x11 o11 => ?_;have zt:=xt.size;have xx:=xt.trans x11;have b11:=xx.at b8;have h11:=xx.at h8;refine_lift bR ?_;refine aS (Runs.fieldA (off:=2) rfl aR) ?_;refine aD ?_;refine_lift bR ?_;refine eS 5 _ b11 o11.sl.one fun w12 p12 => ?_;have b12:w12.heap[w5.heap.size]? = some (.cells (sH o v R.kind a8 u8 r11).toArray 148 (0,0)):=p12.this;have h12:=p12.at h11 zq;have oa12:=cM (oa8.ext xx) p12 b11;have ou12:=cM (ou8.ext xx) p12 b11;have or12:=cM o11 p12 b11;obtain ⟨tp,tp0,tp2⟩:=mN b12;clear sp sp0 sp2;refine_lift eF fun _ _ => ?_;refine aS (Runs.fieldA (off:=2) rfl aR) ?_;refine aD ?_;refine_lift bR ?_;refine dS (v:=.agg #[.int .i64 R.kind,a8,u8,r11]) h12 (fI rfl oa12.sl.one ou12.sl.one or12.sl.one) fun w13 p13 => ?_;refine_lift bR ?_;rw [Exit.noGoto_ret];have zw:w.heap.size≤w5.heap.size:=hx5.size;have x12:=cH (hx5.trans (hx8.trans xx)) p12;refine nH (cs:=[.int .i64 R.kind,a8,u8,r11]) p13.this ⟨_,rfl,x12.move p13.mv (by rintro k ⟨⟩;exact z2),?_⟩;rw [hA,hE];refine ⟨_,rfl,a8,u8,r11,rfl,(cM oa12 p13 h12).weaken zw,(cM ou12 p13 h12).weaken zw,(cM or12 p13 h12).weaken ?_⟩;have a1:=hx8.size;omega
     ·have h3k:=‹¬ R.kind=3›;have xt:=x9;have hrc:R.ans=iT R:=by rw [iT,if_neg h3k];simp
      have ot:=o9.sl;rw [hrc] at ot;have hfr:∀ r ∈ iT R,FromL l r:=by rw [← hrc];exact hfrom.1
      clear su9;have htl:(iT R).length≤10000:=by
       unfold iT;rw [List.length_append];split <;> first | omega | (simp;omega)
      have hdat:∀ r ∈ iT R,r.data.length≤9223372036854775807:=fun r hr=>by
       obtain ⟨t,ht,hd⟩:=hfr r hr;have:=gN hz t ht _ hd;omega
      refine EF (NQ o v _ l (iT R) _ (hv8.ext xt) ot hz htl hdat) fun r11 w11 x11 o11 => ?_;have zt:=xt.size;have xx:=xt.trans x11;have b11:=xx.at b8;have h11:=xx.at h8;refine_lift bR ?_;refine aS (Runs.fieldA (off:=2) rfl aR) ?_;refine aD ?_;refine_lift bR ?_;refine eS 5 _ b11 o11.sl.one fun w12 p12 => ?_;have b12:w12.heap[w5.heap.size]? = some (.cells (sH o v R.kind a8 u8 r11).toArray 148 (0,0)):=p12.this;have h12:=p12.at h11 zq;have oa12:=cM (oa8.ext xx) p12 b11;have ou12:=cM (ou8.ext xx) p12 b11;have or12:=cM o11 p12 b11;obtain ⟨tp,tp0,tp2⟩:=mN b12;clear sp sp0 sp2;refine_lift eF fun _ _ => ?_;refine aS (Runs.fieldA (off:=2) rfl aR) ?_;refine aD ?_;refine_lift bR ?_;refine dS (v:=.agg #[.int .i64 R.kind,a8,u8,r11]) h12 (fI rfl oa12.sl.one ou12.sl.one or12.sl.one) fun w13 p13 => ?_;refine_lift bR ?_;rw [Exit.noGoto_ret];have zw:w.heap.size≤w5.heap.size:=hx5.size;have x12:=cH (hx5.trans (hx8.trans xx)) p12;refine nH (cs:=[.int .i64 R.kind,a8,u8,r11]) p13.this ⟨_,rfl,x12.move p13.mv (by rintro k ⟨⟩;exact z2),?_⟩;rw [hA,hE];refine ⟨_,rfl,a8,u8,r11,rfl,(cM oa12 p13 h12).weaken zw,(cM ou12 p13 h12).weaken zw,(cM or12 p13 h12).weaken ?_⟩;have a1:=hx8.size;omega
variable {cs:Array Value} {held:Bool} {qt:Int} {ps rs:List (List UInt8 × Nat)} {ls:List (List UInt8)} {css css0 es:List (List Value)} {d l m n o qn s t x y z:List UInt8} {B a b base c e fuel i j k p q:Nat} {fz:Nat × Nat} {row:Option Nat} {r u v:Value} {w w' w0 w1 w2:World}
def AppU (B:Nat) (o:List UInt8) (l:List RSet) (d:DeltaR) (q:Value) (w:World):Prop:=∃ y,q=.tuple #[.agg #[aI (JY o l d),y], .int .i64 (uN o l d)]∧SetsO B w y (MH o l d)
theorem AppU.bad {l:List RSet} {d:DeltaR} {e:Int} (h:uN o l d=e) (he:e≠0):AppU B o l d (.tuple #[.agg pE.toArray, .int .i64 e]) w:=by
 refine ⟨.slice none 0 0,?_,?_⟩
 ·rw [JY,if_neg (by rw [h];exact he),h];rfl
 ·rw [MH,if_neg (by rw [h];exact he)];exact SetsO.nil _ _
def eH (r:Rec):Bool:=decide (r.kind=6)
def fL (d:List UInt8):SoaR:=match cW d with | some s=>s | none=>zR
def KG (r:Rec):Int:=(fL r.data).serial
def AA:List Rec→Nat
 | []=>0
 | r :: t=>if eH r then 0 else AA t + 1
theorem CA:∀ l:List Rec,AA l≤l.length
 | []=>Nat.le_refl _
 | r :: t=>by
   rw [AA];split
   ·omega
   ·have:=CA t;rw [List.length_cons];omega
def cN (l:List Rec):Nat:=1 + AA (l.drop 1)
theorem pI {l:List Rec} (h:l≠[]):1≤cN l∧cN l≤l.length:=by
 have:=CA (l.drop 1);cases l with
 | nil=>exact absurd rfl h
 | cons r t =>
  unfold cN;simp only [List.drop_succ_cons,List.drop_zero,List.length_cons] at *;omega
def GZ:Rec:=⟨[],0,0,[]⟩
def xX (l:List Rec):Rec:=l.headD GZ
def nP (gone come:List Rec):DeltaR:=⟨KG (xX gone),KG (xX come),gone,come⟩
structure ZE where
 e:Int
 o:List UInt8
 l:List RSet
def ZE.bad (e:Int):ZE:=⟨e,[],[]⟩
def VU:Nat→List UInt8→List RSet→List Rec→ZE
 | 0,o,l,_=>⟨0,o,l⟩
 | f + 1,o,l,rs =>
  if rs=[] then ⟨0,o,l⟩ else
  let gone:=rs.take (cN rs)
  let rest:=rs.drop (cN rs)
  if rest=[] then ZE.bad 2 else
  let come:=rest.take (cN rest)
  if uN o l (nP gone come)=0 then VU f (JY o l (nP gone come)) (MH o l (nP gone come)) (rest.drop (cN rest))
  else ZE.bad (if uN o l (nP gone come)=5 then 2 else uN o l (nP gone come))
def DL (o:List UInt8) (l:List RSet) (rs:List Rec):ZE:=VU rs.length o l rs
theorem CB (f:Nat) (o:List UInt8) (l:List RSet) {rs:List Rec} (h:rs≠[]):VU (f + 1) o l rs =
 if rs.drop (cN rs)=[] then ZE.bad 2 else
 if uN o l (nP (rs.take (cN rs)) ((rs.drop (cN rs)).take (cN (rs.drop (cN rs)))))=0 then
  VU f (JY o l (nP (rs.take (cN rs)) ((rs.drop (cN rs)).take (cN (rs.drop (cN rs)))))) (MH o l (nP (rs.take (cN rs)) ((rs.drop (cN rs)).take (cN (rs.drop (cN rs)))))) ((rs.drop (cN rs)).drop (cN (rs.drop (cN rs))))
 else ZE.bad (if uN o l (nP (rs.take (cN rs)) ((rs.drop (cN rs)).take (cN (rs.drop (cN rs)))))=5 then 2 else uN o l (nP (rs.take (cN rs)) ((rs.drop (cN rs)).take (cN (rs.drop (cN rs)))))):=by
 rw [VU,if_neg h]
theorem NR:∀ (f:Nat) (o:List UInt8) (l:List RSet),VU f o l []=⟨0,o,l⟩
 | 0,o,l=>rfl
 | f + 1,o,l=>by rw [VU,if_pos rfl]
theorem KH:∀ (n f g:Nat) (o:List UInt8) (l:List RSet) (rs:List Rec),rs.length≤n→rs.length≤f→rs.length≤g→VU f o l rs=VU g o l rs
 | n,f,g,o,l,[],_,_,_=>by rw [NR,NR]
 | 0,f,g,o,l,r :: t,h,_,_=>by simp at h
 | n + 1,0,g,o,l,r :: t,_,h,_=>by simp at h
 | n + 1,f + 1,0,o,l,r :: t,_,_,h=>by simp at h
 | n + 1,f + 1,g + 1,o,l,r :: t,hn,hf,hg=>by
   have h1:=pI (l:=r :: t) bP;rw [CB f o l bP,CB g o l bP];by_cases hr:(r :: t).drop (cN (r :: t))=[]
   ·rw [if_pos hr,if_pos hr]
   ·rw [if_neg hr,if_neg hr];have h2:=pI hr;have h3:(((r :: t).drop (cN (r :: t))).drop (cN ((r :: t).drop (cN (r :: t))))).length≤t.length:=by
     have e1:((r :: t).drop (cN (r :: t))).length=(r :: t).length - cN (r :: t):=List.length_drop ..;rw [List.length_drop,e1];simp only [List.length_cons] at h1 ⊢;omega
    simp only [List.length_cons] at hn hf hg;rw [KH n f g _ _ _ aE aE aE]
theorem TF (o:List UInt8) (l:List RSet):DL o l []=⟨0,o,l⟩:=rfl
theorem PQ (o:List UInt8) (l:List RSet) {rs:List Rec} (h:rs≠[]):DL o l rs =
 if rs.drop (cN rs)=[] then ZE.bad 2 else
 if uN o l (nP (rs.take (cN rs)) ((rs.drop (cN rs)).take (cN (rs.drop (cN rs)))))=0 then
  DL (JY o l (nP (rs.take (cN rs)) ((rs.drop (cN rs)).take (cN (rs.drop (cN rs)))))) (MH o l (nP (rs.take (cN rs)) ((rs.drop (cN rs)).take (cN (rs.drop (cN rs)))))) ((rs.drop (cN rs)).drop (cN (rs.drop (cN rs))))
 else ZE.bad (if uN o l (nP (rs.take (cN rs)) ((rs.drop (cN rs)).take (cN (rs.drop (cN rs)))))=5 then 2 else uN o l (nP (rs.take (cN rs)) ((rs.drop (cN rs)).take (cN (rs.drop (cN rs)))))):=by
 cases rs with
 | nil=>exact absurd rfl h
 | cons r t =>
  have h1:=pI (l:=r :: t) bP
  conv=>lhs;unfold DL
  rw [List.length_cons,CB _ _ _ h];by_cases hr:(r :: t).drop (cN (r :: t))=[]
  ·rw [if_pos hr,if_pos hr]
  ·rw [if_neg hr,if_neg hr];have h2:=pI hr;have h3:(((r :: t).drop (cN (r :: t))).drop (cN ((r :: t).drop (cN (r :: t))))).length≤t.length:=by
    have e1:((r :: t).drop (cN (r :: t))).length=(r :: t).length - cN (r :: t):=List.length_drop ..;rw [List.length_drop,e1];simp only [List.length_cons] at h1 ⊢;omega
   unfold DL;rw [KH _ _ _ _ _ _ (Nat.le_refl _) h3 (Nat.le_refl _)]
def zB (oo:List UInt8) (lo:List RSet) (og:List UInt8) (l:List Rec):ZE :=
 if eH (l.getD 1 GZ)=false then ⟨mD og l.dropLast,sD og l.dropLast,sE og l.dropLast⟩ else
 if lo=[] then ZE.bad 5 else DL oo lo (l.dropLast.drop 1)
def zC (oo:List UInt8) (lo:List RSet) (og:List UInt8) (l:List Rec):ZE :=
 if dW og≠0∨l.any (fun r => !decide (aU r=0))=true then ZE.bad 1 else
 if l=[] then ZE.bad 2 else
 if eH (xX l)=false∨fold (xX l).name≠fold og then ZE.bad 2 else
 if l.length=1 then ZE.bad 5 else
 if l.length=2∨l.getD (l.length - 1) GZ≠xX l then ZE.bad 3 else
 let q:=zB oo lo og l
 if q.e≠0 then ZE.bad q.e else
 if (eK q.o q.l).serial≠KG (xX l) then ZE.bad 2 else
 if lo≠[]∧uO (eK q.o q.l).serial (eK oo lo).serial=false then ZE.bad 7 else q
theorem FL {l:List Rec} (h:mD o l=0):ZoneOk (sD o l) (sE o l):=by
 have h0:=h;unfold mD at h;split at h
 ·rw [sD,if_pos h0,sE,if_pos h0];exact kI h
 ·rename_i q;exact absurd h q
theorem CC {l:List Rec} (h:mD o l=0):sD o l=fold o:=by rw [sD,if_pos h]
theorem TG {l:List RSet} {d:DeltaR} (h:uN o l d=0):ZoneOk (JY o l d) (MH o l d)∧JY o l d=o:=by
 have h0:=h;unfold uN at h;split at h
 ·rename_i q0;split at h
  ·cases hx:NN (aO l) d with
   | none=>rw [hx] at h;cases h
   | some m =>
    rw [hx] at h;simp only at h;unfold Ae at h;split at h
    ·rename_i q1;have hz:=FL q1;rw [JY,if_pos h0,MH,if_pos h0,hx];simp only [Option.getD_some];refine ⟨hz,?_⟩;rw [CC q1];exact (kI q0).fold
    ·rename_i q1;exact absurd h q1
  ·cases h
 ·rename_i q;exact absurd h q
theorem KI:∀ (n:Nat) (rs:List Rec),rs.length≤n→∀ (o:List UInt8) (l:List RSet),(DL o l rs).e=0→rs≠[]→ZoneOk (DL o l rs).o (DL o l rs).l∧(DL o l rs).o=o
 | 0,rs,hn,o,l,h,hne=>by
   have:rs=[]:=List.eq_nil_of_length_eq_zero aE;exact absurd this hne
 | n + 1,rs,hn,o,l,h,hne=>by
   have h1:=pI hne;rw [PQ o l hne] at h ⊢;split at h
   ·cases h
   ·rename_i hr;have h2:=pI hr;rw [if_neg hr];split at h
    ·rename_i ha;rw [if_pos ha];obtain ⟨z1,z2⟩:=TG ha;by_cases hq:(rs.drop (cN rs)).drop (cN (rs.drop (cN rs)))=[]
     ·rw [hq,TF];exact ⟨z1,z2⟩
     ·obtain ⟨a,b⟩:=KI n _ (by simp only [List.length_drop] at *;omega) _ _ h hq;exact ⟨a,b.trans z2⟩
    ·rename_i ha;split at h
     ·cases h
     ·exact absurd h ha
theorem VW {oo:List UInt8} {lo:List RSet} {og:List UInt8} {l:List Rec} (h:(zC oo lo og l).e=0) :
 ZoneOk (zC oo lo og l).o (zC oo lo og l).l∧((lo=[]∨oo=fold og)→(zC oo lo og l).o=fold og)∧(lo≠[]→uO (eK (zC oo lo og l).o (zC oo lo og l).l).serial (eK oo lo).serial=true):=by
 unfold zC at h ⊢;split at h
 ·cases h
 ·rename_i c1;rw [if_neg c1];split at h
  ·cases h
  ·rename_i c2;rw [if_neg c2];split at h
   ·cases h
   ·rename_i c3;rw [if_neg c3];split at h
    ·cases h
    ·rename_i c4;rw [if_neg c4];split at h
     ·cases h
     ·rename_i c5;rw [if_neg c5];simp only at h ⊢;split at h
      ·rename_i c6;exact absurd h c6
      ·rename_i c6;rw [if_neg c6];split at h
       ·cases h
       ·rename_i c7;rw [if_neg c7];split at h
        ·cases h
        ·rename_i c8;rw [if_neg c8];have hz:ZoneOk (zB oo lo og l).o (zB oo lo og l).l∧((lo=[]∨oo=fold og)→(zB oo lo og l).o=fold og):=by
          have h6:(zB oo lo og l).e=0:=by simpa using c6
          unfold zB at h6 ⊢;split at h6
          ·rename_i d1;rw [if_pos d1];exact ⟨FL h6,fun _=>CC h6⟩
          ·rename_i d1;rw [if_neg d1];split at h6
           ·cases h6
           ·rename_i d2;rw [if_neg d2];have hl:2 < l.length:=by
             have n0:l.length≠0:=fun e=>c2 (List.eq_nil_of_length_eq_zero e);have n2:l.length≠2:=fun e=>c5 (.inl e);omega
            obtain ⟨a,b⟩:=KI _ _ (Nat.le_refl _) oo lo h6 (by
             intro e;have:=congrArg List.length e;simp at this;omega)
            exact ⟨a,fun hh=>by rcases hh with hh | hh;exact absurd hh d2;exact b.trans hh⟩
         refine ⟨hz.1,hz.2,fun hne => ?_⟩;cases hb:uO (eK (zB oo lo og l).o (zB oo lo og l).l).serial (eK oo lo).serial with
         | true=>rfl
         | false=>exact absurd ⟨hne,hb⟩ c8
end Go.Proofs.X
namespace Go.Proofs.X
open Go.RowKit
structure SecR where
 og:List UInt8
 retry:Int
 z:Option (List UInt8 × List RSet)
 next:Int
 til:Int
 take:Bool
def SecR.soa (s:SecR):SoaR:=match s.z with | none=>⟨[],[],0,s.retry,s.retry,0,0⟩ | some z=>eK z.1 z.2
def SecR.o (s:SecR):List UInt8:=match s.z with | none=>[] | some z=>z.1
def SecR.l (s:SecR):List RSet:=match s.z with | none=>[] | some z=>z.2
def MJ (n:Int):Bool:=decide (0≤n) && decide (n≤1099511627776)
def SecR.news (s:SecR) (n:Int):Bool:=s.z.isNone || uO n s.soa.serial
def SecR.failed (s:SecR) (now:Int):SecR:=if MJ now=true then { s with take:=false,next:=now + s.soa.retry } else s
def SecR.fresh (s:SecR) (now:Int):SecR:={ s with take:=false,next:=now + s.soa.refresh,til:=now + s.soa.expire }
def SecR.inst (s:SecR) (l:List Rec):ZE:=zC s.o s.l s.og l
def SecR.withZ (s:SecR) (q:ZE):SecR:={ s with z:=some (q.o,q.l) }
def SecR.got (s:SecR) (l:List Rec) (now:Int):SecR :=
 if MJ now=false then s else
 if (s.inst l).e=5∧s.z.isSome=true then s.fresh now else
 if (s.inst l).e≠0 then s.failed now else (s.withZ (s.inst l)).fresh now
def SecR.up (s:SecR) (now:Int):Bool:=MJ now && (s.z.isSome && decide (now < s.til))
def Ai (og:List UInt8) (retry:Int):Int:=if dW og≠0∨retry < 1∨2147483647 < retry then 1 else 0
def MK (og:List UInt8) (retry:Int):SecR:=⟨og,retry,none,0,0,false⟩
structure SecOk (s:SecR):Prop where
 og:dW s.og=0
 retry:1≤s.retry∧s.retry≤2147483647
 zone:∀ o l,s.z=some (o,l)→ZoneOk o l∧o=fold s.og
theorem VX {o:List UInt8} {l:List RSet} (h:ZoneOk o l):(eK o l).ok=true:=by
 obtain ⟨s,_,_,_,_,_,hp,_⟩:=h.soaSet;rw [eK,if_pos (nL h)];exact SV hp
theorem PR {o:List UInt8} {l:List RSet} (h:ZoneOk o l):0≤(eK o l).serial∧(eK o l).serial≤4294967295∧0≤(eK o l).refresh∧(eK o l).refresh≤2147483647∧0≤(eK o l).retry∧(eK o l).retry≤2147483647∧0≤(eK o l).expire∧(eK o l).expire≤2147483647:=by
 have:=VX h;simp only [SoaR.ok,iS,Bool.and_eq_true,decide_eq_true_eq] at this;omega
theorem ZoneOk.ne {o:List UInt8} {l:List RSet} (h:ZoneOk o l):l≠[]:=by
 rintro rfl;have:=h.soa;simp [aY] at this
theorem SecOk.soa {s:SecR} (h:SecOk s):0≤s.soa.refresh∧s.soa.refresh≤2147483647∧0≤s.soa.retry∧s.soa.retry≤2147483647∧0≤s.soa.expire∧s.soa.expire≤2147483647:=by
 have hr:=h.retry;unfold SecR.soa;split
 ·simp only;omega
 ·rename_i z hz;have:=PR (h.zone z.1 z.2 hz).1;omega
theorem SecOk.old {s:SecR} (h:SecOk s):(s.l=[]↔s.z=none)∧(s.l=[]∨s.o=fold s.og):=by
 unfold SecR.l SecR.o;split
 ·rename_i hz;simp [hz]
 ·rename_i z hz;have:=h.zone z.1 z.2 hz;refine ⟨⟨fun e=>absurd e this.1.ne,fun e=>by rw [hz] at e;cases e⟩, .inr this.2⟩
theorem SecOk.of {s t:SecR} (h:SecOk s) (h1:t.og=s.og) (h2:t.retry=s.retry) (h3:t.z=s.z):SecOk t:=⟨by rw [h1];exact h.og,by rw [h2];exact h.retry,by rw [h1,h3];exact h.zone⟩
theorem SecOk.new {og:List UInt8} {retry:Int} (h:Ai og retry=0):SecOk (MK og retry):=by
 unfold Ai at h;split at h
 ·cases h
 ·rename_i c;refine ⟨?_,?_,?_⟩
  ·unfold MK;simp only;exact Decidable.byContradiction fun e=>c (.inl e)
  ·unfold MK;simp only;omega
  ·intro o l e;cases e
theorem SecOk.failed {s:SecR} (h:SecOk s) (now:Int):SecOk (s.failed now):=by
 unfold SecR.failed;split <;> first | exact h | exact h.of rfl rfl rfl
theorem SecOk.fresh {s:SecR} (h:SecOk s) (now:Int):SecOk (s.fresh now):=h.of rfl rfl rfl
theorem SecOk.inst {s:SecR} (h:SecOk s) {l:List Rec} (he:(s.inst l).e=0):ZoneOk (s.inst l).o (s.inst l).l∧(s.inst l).o=fold s.og∧(∀ o l',s.z=some (o,l')→uO (eK (s.inst l).o (s.inst l).l).serial (eK o l').serial=true):=by
 obtain ⟨a,b,c⟩:=VW (oo:=s.o) (lo:=s.l) (og:=s.og) he;obtain ⟨h1,h2⟩:=h.old;refine ⟨a,b h2,fun o l' hz => ?_⟩;have:=c (fun e=>by rw [h1.1 e] at hz;cases hz);unfold SecR.o SecR.l at this;rw [hz] at this;unfold SecR.inst SecR.o SecR.l;rw [hz];exact this
theorem SecOk.got {s:SecR} (h:SecOk s) (l:List Rec) (now:Int):SecOk (s.got l now):=by
 unfold SecR.got;split
 ·exact h
 ·split
  ·exact h.fresh now
  ·split
   ·exact h.failed now
   ·rename_i c;obtain ⟨a,b,_⟩:=h.inst (l:=l) (by simpa using c);refine SecOk.fresh (s:=s.withZ (s.inst l)) ⟨h.og,h.retry,?_⟩ now;intro o l' e;simp only [SecR.withZ,Option.some.injEq,Prod.mk.injEq] at e;obtain ⟨rfl,rfl⟩:=e;exact ⟨a,b⟩
open Go.ChangeShapes Go.WideShapes Go.ChangeAt
variable {cs:Array Value} {held:Bool} {qt:Int} {ps rs:List (List UInt8 × Nat)} {ls:List (List UInt8)} {css css0 es:List (List Value)} {d l m n o qn s t x y z:List UInt8} {B a b base c e fuel i j k p q:Nat} {fz:Nat × Nat} {row:Option Nat} {r u v:Value} {w w' w0 w1 w2:World}
theorem ML {H:Type} {enc:TypeId × Value→H} {spare:Nat→Bool} {x:DataW H × List MemPlace} (h:DataW.trod enc Tryz.prog w base spare held fuel 115 [v]=some x):∃ l:List (List UInt8),Sl 1 w v (aK l):=by
 obtain ⟨es,hs,he⟩:=xH Tryz.underlying115 (show Tryz.prog.cellsOf 9=1 by kernel_rfl) aE h;obtain ⟨l,rfl⟩:∃ l:List (List UInt8),es=l.map fun s=>[aI s]:=by
  refine zT fun c hc => ?_;obtain ⟨n,y,hy⟩:=he c hc;have hl:c.length=1:=by
   obtain ⟨_,_,_,_,_,h4,_,_⟩:=hs;exact h4 c hc
  match c,hl with
  | [a],_ =>
   obtain ⟨s,rfl,_⟩:=vJ Tryz.underlying9 hy;exact ⟨s,rfl⟩
 exact ⟨l,hs⟩
theorem PS {H:Type} {enc:TypeId × Value→H} {spare:Nat→Bool} {x:DataW H × List MemPlace} (h:DataW.trod enc Tryz.prog w base spare held fuel 33 [v]=some x):∃ l:List RSet,SetsAt w v l:=by
 obtain ⟨es,hs,he⟩:=xH Tryz.underlying33 (show Tryz.prog.cellsOf 117=4 by kernel_rfl) aE h;obtain ⟨l,rfl⟩:∃ l:List {p:RSet × Value // Sl 1 w p.2 (aK p.1.data)},es=l.map fun p=>[aI p.1.1.name, .int .i64 p.1.1.kind, .int .i64 p.1.1.ttl,p.1.2]:=by
  refine zT fun c hc => ?_;obtain ⟨n,y,hy⟩:=he c hc;obtain ⟨xs,n',_,_,hl,hxl,hf⟩:=DataW.trod_struct Tryz.underlying117 hy;have c30:Tryz.prog.cellsOf 32=1:=by kernel_rfl
  have c3:Tryz.prog.cellsOf 3=1:=by kernel_rfl
  have c35:Tryz.prog.cellsOf 115=1:=by kernel_rfl
  have c37:Tryz.prog.cellsOf 117=4:=by kernel_rfl
  rw [c37] at hl
  match c,hl,xs,hxl with
  | [a,b,d,e],_,[y0,y1,y2,y3],_ =>
   have g0:=hf 0 _ rfl;have g1:=hf 1 _ rfl;have g2:=hf 2 _ rfl;have g3:=hf 3 _ rfl;simp [c30,c3,c35] at g0 g1 g2 g3;obtain ⟨s0,rfl,_⟩:=vJ Tryz.underlying32 g0;obtain ⟨n1,rfl,_⟩:=IN Tryz.underlying3 g1;obtain ⟨n2,rfl,_⟩:=IN Tryz.underlying3 g2;obtain ⟨ts,hts⟩:=ML g3;exact ⟨⟨(⟨s0,n1,n2,ts⟩,e),hts⟩,rfl⟩
 refine ⟨l.map fun p=>p.1.1,_,hs,bP,?_⟩;intro i s hi;rw [List.getElem?_map] at hi;obtain ⟨p,hp,rfl⟩:=Option.map_eq_some_iff.1 hi;exact ⟨p.1.2,by rw [List.getElem?_map,hp];rfl,p.2⟩
theorem PT {H:Type} {enc:TypeId × Value→H} {spare:Nat→Bool} {c:Array Value} {x:DataW H × List MemPlace} (h:DataW.trod enc Tryz.prog w base spare held fuel 35 (Value.agg c).cells.toList=some x):∃ (o:List UInt8) (l:List RSet) (u:Value),c=#[aI o,u]∧SetsAt w u l:=by
 have e:(Value.agg c).cells.toList=c.toList:=rfl;rw [e] at h;obtain ⟨xs,n',_,_,hl,hxl,hf⟩:=DataW.trod_struct Tryz.underlying35 h;have c30:Tryz.prog.cellsOf 32=1:=by kernel_rfl
 have c25:Tryz.prog.cellsOf 33=1:=by kernel_rfl
 have c43:Tryz.prog.cellsOf 35=2:=by kernel_rfl
 rw [c43] at hl;obtain ⟨cl⟩:=c
 match cl,hl,xs,hxl with
 | [a,b],_,[y0,y1],_ =>
  have g0:=hf 0 _ rfl;have g1:=hf 1 _ rfl;simp [c30,c25] at g0 g1;obtain ⟨s0,rfl,_⟩:=vJ Tryz.underlying32 g0;obtain ⟨l,hls⟩:=PS g1;exact ⟨s0,l,b,rfl,hls⟩
abbrev rC:=List UInt8 × Int
structure MsgR where
 id:Int
 resp:Bool
 op:Int
 auth:Bool
 trunc:Bool
 want:Bool
 avail:Bool
 rcode:Int
 qs:List rC
 an:List Rec
 au:List Rec
 ex:List Rec
 size:Int
 deriving DecidableEq,Inhabited
def cR (l:List rC):List (List Value):=l.map fun q=>[aI q.1, .int .i64 q.2]
theorem dC (l:List rC):(cR l).length=l.length:=by simp [cR]
def aM (m:MsgR) (q a u e:Value):List Value:=[.int .i64 m.id, .bool m.resp, .int .i64 m.op, .bool m.auth, .bool m.trunc, .bool m.want, .bool m.avail, .int .i64 m.rcode,q,a,u,e, .int .i64 m.size]
structure MsgV (w:World) (m:MsgR) (q a u e:Value):Prop where
 qs:Sl 2 w q (cR m.qs)
 an:Sl 4 w a (aJ m.an)
 au:Sl 4 w u (aJ m.au)
 ex:Sl 4 w e (aJ m.ex)
theorem MsgV.ext {m:MsgR} {q a e:Value} (h:MsgV w m q a u e) (hx:Ext w w'):MsgV w' m q a u e:=⟨h.qs.ext hx,h.an.ext hx,h.au.ext hx,h.ex.ext hx⟩
theorem MsgV.one {m:MsgR} {q a e:Value} (h:MsgV w m q a u e):∀ x ∈ aM m q a u e,x.oneCell'=true:=by
 intro x hx;simp only [aM,List.mem_cons,List.not_mem_nil,or_false] at hx;rcases hx with rfl | rfl | rfl | rfl | rfl | rfl | rfl | rfl | rfl | rfl | rfl | rfl | rfl
 all_goals first | rfl | exact h.qs.one | exact h.an.one | exact h.au.one | exact h.ex.one
def zeroM:MsgR:=⟨0,false,0,false,false,false,false,0,[],[],[],[],0⟩
theorem MsgV.zero (w:World):MsgV w zeroM (.slice none 0 0) (.slice none 0 0) (.slice none 0 0) (.slice none 0 0):=⟨Sl.nil _ _,Sl.nil _ _,Sl.nil _ _,Sl.nil _ _⟩
def qG (q:rC):Bool:=decide (dW q.1=0) && (decide (1≤q.2) && decide (q.2≤65535)) && !decide (q.2=41)
def fV (l:List Rec):Bool:=decide (l.length≤200) && !(l.any fun r => !decide (aU r=0))
def gP (n least most:Int):Bool:=decide (least≤n) && decide (n≤most)
def cS (m:MsgR):Int :=
 if gP m.id 0 65535 && gP m.op 0 15 && gP m.rcode 0 15 && (decide (m.size=0) || gP m.size 512 65535) && (decide (m.qs.length≤10) && m.qs.all qG) && (fV m.an && fV m.au && fV m.ex) then 0 else 1
theorem own:ownKnob Tryz.prog.godebug=none:=by kernel_rfl
theorem HC:laidOutB Tryz.prog=true:=by kernel_rfl
def YO:List UInt8:=[2,110,115,1,97,0,1,109,0,0,0,0,5,0,0,0,10,0,0,0,3,0,0,0,100,0,0,0,4]
def KJ:List Rec:=[⟨[1,97],6,9,YO⟩,⟨[1,97],2,9,[2,110,115,1,97,0]⟩,⟨[2,110,115,1,97],1,9,[49,49,49,49]⟩]
def VY:List RSet:=[⟨[1,97],2,9,[[2,110,115,1,97,0]]⟩,⟨[1,97],6,9,[YO]⟩,⟨[2,110,115,1,97],1,9,[[49,49,49,49]]⟩]
theorem Aj:∀ s ∈ VY,s.data.length≤1000000:=aR
theorem Ak:∀ r ∈ KJ,r.data.length≤4611686018427387904:=aR
theorem TH (w:World):Calls Tryz.prog 11 #[] w (oQ w fun r w'=>Sl 4 w' r (aJ KJ)):=by
 go_enter Tryz.func11,Tryz.ntmps11
 refine_lift DF ?_;intro _ _ _;refine_lift eF fun _ _ => ?_;refine bZ (v:=.agg #[aI [1,97], .int .i64 6, .int .i64 9,aI YO]) rfl (Runs.build rfl (by kernel_rfl)) ?_;refine aD ?_;refine bZ (v:=.agg #[aI [1,97], .int .i64 2, .int .i64 9,aI [2,110,115,1,97,0]]) rfl (Runs.build rfl (by kernel_rfl)) ?_;refine aD ?_;refine bZ (v:=.agg #[aI [2,110,115,1,97], .int .i64 1, .int .i64 9,aI [49,49,49,49]]) rfl (Runs.build rfl (by kernel_rfl)) ?_;refine aD ?_;refine oV (e:=67) (k:=4) (bytes:=48) (xs:=KJ.map fun r=>.agg r.cells.toArray) rfl rfl rfl (by intro x hx;obtain ⟨r,_,rfl⟩:=List.mem_map.1 hx;rfl) aR aR ?_;intro v1 w1 x1 s1 sl1 _;have sl1':Sl 4 w1 v1 (aJ KJ):=by simpa [aJ,Value.cells,List.map_map,Function.comp_def] using sl1
 refine aD ?_;refine_lift bR ?_;go_ret;exact ⟨_,rfl,x1,sl1'⟩
section
variable {P:Program} {w:World} {ts:List Value} {df:List Deferred} {d:Option Nat} {ty:TypeId} {ps:String} {af:Array Edge} {g:Option (Nat × Bool)}
def TI (P:Program) (t:TypeId):Bool:=match P.underlying t with | some .bool=>true | _=>false
end
theorem CD {l:List RSet} (h:vR l=true):l.length≤25∧(∀ s ∈ l,s.data.length≤12)∧(∀ s ∈ l,s.name.length≤300)∧∀ s ∈ l,∀ d ∈ s.data,d.length≤300:=by
 simp only [vR,Bool.and_eq_true,decide_eq_true_eq,List.all_eq_true,tO] at h;exact ⟨h.1,fun s hs=>(h.2 s hs).1.1,fun s hs=>(h.2 s hs).1.2,fun s hs d hd=>(h.2 s hs).2 d hd⟩
section
variable {P:Program} {ops:Array Oper} {Q:Exit→Act→World→Prop} {w:World} {rest:List Oper} {ts:List Value} {df:List Deferred} {ty:TypeId} {ps:String} {af:Array Edge} {g:Option (Nat × Bool)}
theorem Own.slf (h:Own B k e w v es):v=.slice none 0 0∧es=[]∨∃ g cap,v=.slice (some ⟨g,0,none⟩) es.length cap:=by
 rcases h.row.2 with ⟨h0,h1⟩ | ⟨g',cap',cur,fz,hv,_⟩
 ·exact .inl ⟨h0,List.eq_nil_of_length_eq_zero h1⟩
 ·exact .inr ⟨g',cap',hv⟩
end
def NS (d:List UInt8):Int:=if (cW d).isSome then 0 else 2
theorem KK (d:List UInt8) (w:World) (hl:d.length≤4611686018427387904):Calls Tryz.prog 84 #[aI d] w (bC w (.tuple #[.agg (fL d).cells.toArray, .int .i64 (NS d)])):=by
 have h:=Bg d w hl;unfold fL NS;cases hp:cW d <;> (rw [hp] at h;exact h)
theorem HD (d:List UInt8) (w:World) (hl:d.length≤4611686018427387904):Calls Tryz.prog 153 #[aI d] w (bC w (.tuple #[.agg (fL d).cells.toArray, .int .i64 (NS d)])):=by
 have h:=rZ d w hl;unfold fL NS;cases hp:cW d <;> (rw [hp] at h;exact h)
def wK {α:Type} (os:List α) (q:Nat) (x:α):List α:=os.take q ++ x :: os.drop q
section
variable {α:Type} {os:List α} {q:Nat} {x:α}
end
def TJ (l:List Rec):List Rec:=l.filter eH ++ l.filter fun r => !eH r
theorem PU {os:List Rec} {x:Rec} (h:∀ r ∈ os,eH r=false) (hx:eH x=true):TJ (wK os q x)=wK os 0 x:=by
 have h1:∀ r ∈ os.take q,eH r=false:=fun r hr=>h r (List.mem_of_mem_take hr);have h2:∀ r ∈ os.drop q,eH r=false:=fun r hr=>h r (List.mem_of_mem_drop hr);have e1:(os.take q).filter eH=[]:=List.filter_eq_nil_iff.2 (by simpa using h1);have e2:(os.drop q).filter eH=[]:=List.filter_eq_nil_iff.2 (by simpa using h2);have e3:(os.take q).filter (fun r => !eH r)=os.take q:=List.filter_eq_self.2 (by simpa using h1);have e4:(os.drop q).filter (fun r => !eH r)=os.drop q:=List.filter_eq_self.2 (by simpa using h2);unfold TJ wK;simp only [List.filter_append,List.filter_cons,hx,e1,e2,e3,e4,if_true,Bool.not_true,Bool.false_eq_true,if_false];simp
theorem NT:∀ (l:List Rec),(l.filter eH).length≤1→(∀ r ∈ l,eH r=false)∨∃ os q x,q≤os.length∧l=wK os q x∧eH x=true∧∀ r ∈ os,eH r=false
 | [],_=>.inl bP
 | r :: t,h=>by
   by_cases hr:eH r=true
   ·refine .inr ⟨t,0,r,Nat.zero_le _,by simp [wK],hr,fun s hs => ?_⟩;rw [List.filter_cons,if_pos hr,List.length_cons] at h;have h0:t.filter eH=[]:=List.eq_nil_of_length_eq_zero aE;have:=List.filter_eq_nil_iff.1 h0 s hs
    simpa using this
   ·rw [List.filter_cons,if_neg hr] at h;have hrf:eH r=false:=by simpa using hr
    rcases NT t h with h1 | ⟨os,q,x,h1,h2,h3,h4⟩
    ·exact .inl (by simpa [hrf] using h1)
    ·refine .inr ⟨r :: os,q + 1,x,by simp;omega,by rw [h2];simp [wK],h3,?_⟩;intro s hs;rcases List.mem_cons.1 hs with rfl | hs
     ·exact hrf
     ·exact h4 s hs
def Ax (x:Option Rec) (os:List Rec):Nat:=os.length + (match x with | some _=>1 | none=>0)
structure Sx (x:Option Rec) (os:List Rec) (q:Nat):Prop where
 non:∀ r ∈ os,eH r=false
 is:∀ r,x=some r→eH r=true∧q≤os.length
 no:x=none→os.length≤q
theorem Sx.to {x:Option Rec} {os:List Rec} {q':Nat} (h:Sx x os q) (hq:q < Ax x os) (hq':q' < Ax x os):Sx x os q':=by
 cases x with
 | none=>have:=h.no rfl;simp [Ax] at hq;omega
 | some r=>exact ⟨h.non,fun r' e=>⟨(h.is r' e).1,by simp [Ax] at hq';omega⟩,fun e=>by cases e⟩
end Go.Proofs.X
