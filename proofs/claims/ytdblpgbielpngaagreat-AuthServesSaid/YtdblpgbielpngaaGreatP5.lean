/- Laws and walks that the proof of the statement is made of (part 5). -/
import Derived.Test.YtdblpgbielpngaaGreatP4
set_option linter.unusedSimpArgs false
set_option linter.unusedVariables false
set_option maxRecDepth 100000
set_option maxHeartbeats 20000000
namespace Go.Proofs.X
open Go.RowKit
variable {cs:Array Value} {held:Bool} {qt:Int} {ps rs:List (List UInt8 × Nat)} {ls:List (List UInt8)} {css css0 es:List (List Value)} {d l m n o qn s t x y z:List UInt8} {B a b base c e fuel i j k p q:Nat} {fz:Nat × Nat} {row:Option Nat} {r u v:Value} {w w' w0 w1 w2:World}
theorem LZ (l:List UInt8) (a:UInt8):Lib.hasSuffix (l ++ [a]) [0]=decide (a=0):=by
 have h:Lib.hasSuffix (l ++ [a]) [0]=true↔a=0:=by
  unfold Lib.hasSuffix;rw [List.isSuffixOf_iff_suffix];constructor
  ·rintro ⟨t,ht⟩;have:=congrArg List.reverse ht;simp at this;exact this.1.symm
  ·rintro rfl;exact ⟨l,rfl⟩
 by_cases ha:a=0
 ·rw [h.2 ha,decide_eq_true ha]
 ·cases hh:Lib.hasSuffix (l ++ [a]) [0] with
  | true=>exact absurd (h.1 hh) ha
  | false=>rw [decide_eq_false ha]
theorem ES:fX []=none:=by simp [fX,Lib.hasSuffix]
theorem vX (l:List UInt8) (a:UInt8):fX (l ++ [a])=if a=0∧(aP l).isSome=true then some l else none:=by
 have hs:=LZ l a;by_cases ha:a=0
 ·subst ha;have ht:Lib.trimSuffix (l ++ [0]) [0]=l:=by simp [Lib.trimSuffix,hs]
  simp [fX,hs,ht]
 ·simp [fX,hs,ha]
theorem PD (h:fX s=some n):n=s.take (s.length - 1):=by
 rcases List.eq_nil_or_concat s with rfl | ⟨l,a,rfl⟩
 ·rw [ES] at h;cases h
 ·rw [List.concat_eq_append,vX] at h;split at h
  ·cases h;simp
  ·cases h
theorem xR (s:List UInt8) (w:World) (hl:s.length≤4611686018427387904):Calls Tryz.prog 163 #[aI s] w (bC w (.bool (fX s).isSome)):=by
 rcases List.eq_nil_or_concat s with rfl | ⟨l,a,rfl⟩
 ·rw [ES];go_enter Tryz.func163,Tryz.ntmps163
  refine_lift bR ?_;go_ret;exact ⟨rfl,Ext.refl _⟩
 ·rw [List.concat_eq_append] at *;have hlen:(l ++ [a]).length=l.length + 1:=bP;have hn:(((l ++ [a]).length:Int) - 1).toNat=l.length:=by rw [hlen];omega
  have e1:(l ++ [a]).getD (((l ++ [a]).length:Int) - 1).toNat 0=a:=by rw [hn];simp
  have e2:(l ++ [a]).take (((l ++ [a]).length:Int) - 1).toNat=l:=by rw [hn];simp
  have hh:(fX (l ++ [a])).isSome=(decide (a=0) && (aP l).isSome):=by
   rw [vX];by_cases h1:a=0 <;> cases h2:(aP l).isSome <;> simp [h1]
  generalize l ++ [a]=s at *;rw [hh];go_enter Tryz.func163,Tryz.ntmps163
  refine_lift IW (fun hc hc => ?_) (fun hc => ?_) (fun _ _ hc hc => ?_)
  ·have hz:=‹((s.getD ((s.length:Int) - 1).toNat 0).toNat:Int)=0›;rw [e1] at hz;have ha:a=0:=by apply UInt8.toNat_inj.1;simpa using hz
   rw [e2];refine cY (rU l _) fun w1 x1 => ?_;cases hls:(aP l).isSome with
   | true =>
    refine_lift bR ?_;go_ret;exact ⟨by simp [ha,hls],x1⟩
   | false =>
    refine_lift bR ?_;go_ret;exact ⟨by simp [ha,hls],x1⟩
  ·have hz:=‹¬((s.getD ((s.length:Int) - 1).toNat 0).toNat:Int)=0›;rw [e1] at hz;have ha:¬ a=0:=by rintro rfl;simp at hz
   go_ret;exact ⟨by simp [ha],Ext.refl _⟩
  ·omega
theorem JE (k:Int) (w:World):Calls Tryz.prog 162 #[.int .i64 k] w (bC w (.int .i64 (eL k))):=by
 go_enter Tryz.func162,Tryz.ntmps162
 (repeat' first | ((with_reducible refine cQ ?_);go_step) | ((with_reducible refine bM ?_);first | refine fN ?_ | (refine cV ?_ ?_ <;> intro hc)) | fail)
 all_goals
  go_ret;exact ⟨by unfold eL;simp_all,Ext.refl _⟩
theorem GM (nm:List UInt8) (w:World) (hl:nm.length≤9223372036854775806):Calls Tryz.prog 201 #[aI nm] w (bC w (if (aP nm).isSome=true then .tuple #[aI (nm ++ [0]), .int .i64 0] else .tuple #[aI [], .int .i64 1])):=by
 go_enter Tryz.func201,Tryz.ntmps201
 refine_lift rS fun _ _ _ _ => ?_;refine cY (rU nm _) fun w1 x1 => ?_;cases hls:(aP nm).isSome with
 | true =>
  simp only [↓reduceIte];refine_lift bR ?_;go_ret2;exact ⟨by rw [hls];rfl,x1⟩
 | false =>
  simp only [↓reduceIte,Bool.false_eq_true];refine_lift lY fun _ => ?_;go_ret2;exact ⟨by rw [hls];rfl,x1⟩
def sS (s:List UInt8) (i:Nat):Bool:=if s.length < i then false else oK (s.drop i)
theorem GN (h:i < s.length):sS s i=sS s (i + 1 + (s.getD i 0).toNat):=by
 unfold sS;rw [if_neg aE,BC h,rR,vO h,List.drop_drop];simp only [List.length_drop];by_cases hc:s.length - (i + 1) < s[i].toNat
 ·rw [if_pos hc,if_pos aE]
 ·rw [if_neg hc,if_neg aE]
theorem SA (s:List UInt8) (w:World) (hl:s.length≤4611686018427387904):Calls Tryz.prog 202 #[aI s] w (bC w (.bool (uE s))):=by
 go_enter Tryz.func202,Tryz.ntmps202
 refine_lift eF fun _ _ => ?_;go_loopw [3] (fun a wr=>∃ i:Nat,i≤s.length + 256∧a=.int .i64 i∧Ext w wr∧oK s=sS s i∧(s.length < i→i≤s.length + 256)) (fun a _=>s.length - (intOf a).toNat)
 case atStart=>exact ⟨0,aE,rfl,Ext.refl _,by simp [sS],aE⟩
 case round =>
  obtain ⟨i,hi,rfl,hx,ht,_⟩:=hrel;by_cases hlt:i < s.length
  ·rw [GN hlt] at ht;have hb:(s.getD i 0).toNat < 256:=UInt8.toNat_lt _;refine_lift lY fun _ => ?_;exact ⟨⟨i + 1 + (s.getD i 0).toNat,aE,by go_num,hx,ht,aE⟩,by simp [intOf];omega⟩
  ·have hv:uE s=(decide (s≠[]) && decide (i=s.length)):=by
    unfold uE;rw [ht,sS];by_cases he:s.length < i
    ·rw [if_pos he,decide_eq_false (show ¬ i=s.length by omega)];simp
    ·have:i=s.length:=aE;subst this;rw [if_neg he,List.drop_length];simp [oK,rP]
   (repeat' first | ((with_reducible refine cQ ?_);go_step) | ((with_reducible refine bM ?_);first | refine fN ?_ | (refine cV ?_ ?_ <;> intro hc)) | fail)
   ·have h0:=‹(!decide (s=[]))=true›;go_ret;exact ⟨by simp [hv] at h0 ⊢;simp [h0];omega,hx⟩
   ·have h0:=‹(!decide (s=[]))=false›;go_ret;exact ⟨by simp [hv] at h0 ⊢;simp [h0],hx⟩
def numU (s:List UInt8) (k:Nat):Nat:=(s.take k).foldl (fun n c=>256 * n + c.toNat) 0
theorem mU (h:k < s.length):numU s (k + 1)=256 * numU s k + (s.getD k 0).toNat:=by
 rw [numU,List.take_add_one,List.getElem?_eq_getElem h,Option.toList_some,List.foldl_append,vO h];rfl
theorem NJ (s:List UInt8):∀ k,k≤s.length→numU s k < 256 ^ k
 | 0,_=>by simp [numU]
 | k + 1,h=>by
   have h1:=NJ s k aE;have h2:(s.getD k 0).toNat < 256:=UInt8.toNat_lt _;rw [mU aE,Nat.pow_succ];omega
theorem ET (s:List UInt8) (w:World) (hl:s.length≤4):Calls Tryz.prog 87 #[aI s] w (bC w (.int .i64 (numU s s.length:Nat))):=by
 go_enter Tryz.func87,Tryz.ntmps87
 refine_lift eF fun _ _ => ?_;go_loopw [3,4] (fun n i wr=>∃ k:Nat,k≤s.length∧i=.int .i64 k∧Ext w wr∧n=.int .i64 (numU s k:Nat)) (fun _ i _=>s.length - (intOf i).toNat)
 case atStart=>exact ⟨0,aE,rfl,Ext.refl _,rfl⟩
 case round =>
  obtain ⟨k,hk,rfl,hx,rfl⟩:=hrel;by_cases hlt:k < s.length
  ·have hb:(s.getD k 0).toNat < 256:=UInt8.toNat_lt _;have hn:numU s k < 4294967296:=Nat.lt_of_lt_of_le (NJ s k hk) (by calc 256 ^ k≤256 ^ 4:=Nat.pow_le_pow_right aE aE
    _=_:=by decide)
   refine_lift lY fun _ => ?_;refine ⟨⟨k + 1,aE,by go_num,hx,?_⟩,by simp [intOf];omega⟩;rw [mU hlt]
   go_num
  ·have:k=s.length:=aE;subst this;refine_lift lY fun _ => ?_;go_ret;exact ⟨rfl,hx⟩
def lZ (n j:Nat):List UInt8:=[if 4≤j then UInt8.ofNat (n / 16777216) else 0,if 3≤j then UInt8.ofNat (n / 65536) else 0,if 2≤j then UInt8.ofNat (n / 256) else 0,if 1≤j then UInt8.ofNat n else 0]
theorem MA (n:Nat):aL (lZ n 0)=List.replicate 4 [.int .u8 0]:=by simp [lZ,aL,List.replicate]
theorem MB (n:Nat):lZ n 4=CX n:=by simp [lZ,CX]
theorem MC (n j:Nat) (h:j < 4):(aL (lZ n j)).set (3 - j) [.int .u8 ((UInt8.ofNat (n / 256 ^ j)).toNat:Nat)]=aL (lZ n (j + 1)):=by
 have:j=0∨j=1∨j=2∨j=3:=aE;rcases this with rfl | rfl | rfl | rfl <;> simp [lZ,aL]
theorem VJ (n:Nat) (w:World) (hn:n < 4294967296):Calls Tryz.prog 93 #[.int .i64 (n:Nat), .int .i64 4] w (bC w (aI (CX n))):=by
 go_enter Tryz.func93,Tryz.ntmps93
 refine_lift eF fun _ _ => ?_;refine EC (e:=5) (n:=4) (z:=.int .u8 0) ?_ rfl rfl aE;intro v w1 x1 o1;refine aD ?_;refine_lift eF fun _ _ => ?_;rw [← MA n] at o1;go_loopw [0,6] (fun m i wr=>∃ j:Nat,j≤4∧i=.int .i64 (3 - (j:Int))∧m=.int .i64 (n / 256 ^ j:Nat)∧Ext w wr∧Own w.heap.size 1 5 wr v (aL (lZ n j))) (fun _ i _=>(intOf i + 1).toNat)
 case atStart=>exact ⟨0,aE,rfl,bP,x1,o1⟩
 case round =>
  obtain ⟨j,hj,rfl,rfl,hx,ho⟩:=hrel;have hsl:=ho.sl;have hle:n / 256 ^ j≤n:=Nat.div_le_self _ _;have hbl:(aL (lZ n j)).length=4:=by simp [aL,lZ]
  by_cases hlt:j < 4
  ·generalize hq:n / 256 ^ j=q at *;refine_lift CY ?_;intro _ _ _ _ _ _;refine bZ rfl (Runs.remN (n:=256) rfl rfl aE aE) ?_;refine aD ?_;refine_lift bR ?_;refine eY (c:=.int .u8 _) (i:=(3 - (j:Int)).toNat) rfl rfl rfl ho aE aR rfl ?_;intro w2 o2 m2;have hx2:=ho.mvx m2 hx (Nat.le_refl _);have e2:(aL (lZ n j)).set (3 - (j:Int)).toNat [Value.int .u8 (IntKind.wrap .u8 ((q % 256:Nat):Int))]=aL (lZ n (j + 1)):=by
    rw [show (3 - (j:Int)).toNat=3 - j by omega,vP,← MC n j hlt,hq]
    congr 4
    simp
   rw [e2] at o2;clear ho hsl;refine_lift bR ?_;refine bZ rfl (Runs.quoN (n:=256) rfl rfl aE aE) ?_;refine aD ?_;refine_lift bR ?_;refine ⟨⟨j + 1,aE,by go_num,?_,hx2,o2⟩,by simp [intOf];omega⟩;rw [← hq,Nat.div_div_eq_div_mul,Nat.pow_succ]
  ·have:j=4:=aE;subst this;rw [MB] at hsl;refine_lift lY fun _ => ?_;go_ret;exact ⟨rfl,hx⟩
theorem SB (h:i < s.length):iM (s.drop i)=if (s.getD i 0).toNat=0 then 0 else 1 + (s.getD i 0).toNat + iM (s.drop (i + 1 + (s.getD i 0).toNat)):=by
 rw [BC h,uD,vO h,List.drop_drop]
def firstR (s:List UInt8):Nat:=if s.length≤iM s then 0 else if (fX (s.take (iM s + 1))).isSome=true then iM s + 1 else 0
theorem lD (s:List UInt8):cO s=if firstR s=0 then (if s.length≤iM s then ([],[],false) else ([],s.drop (iM s + 1),false)) else (s.take (firstR s - 1),s.drop (firstR s),true):=by
 unfold firstR cO;by_cases h:s.length≤iM s
 ·simp [h]
 ·simp only [h,if_false];cases hh:fX (s.take (iM s + 1)) with
  | none=>simp
  | some n =>
   have:=PD hh;simp only [Option.isSome_some,if_true,Option.getD_some];rw [if_neg aE,this];rw [List.length_take,List.take_take]
   congr 2
   omega
theorem sT (s:List UInt8):firstR s≤s.length:=by
 unfold firstR;split
 ·omega
 ·split <;> omega
theorem JF (s:List UInt8) (w:World) (hl:s.length≤4611686018427387904):Calls Tryz.prog 203 #[aI s] w (bC w (.int .i64 (firstR s:Nat))):=by
 go_enter Tryz.func203,Tryz.ntmps203
 refine_lift eF fun _ _ => ?_;go_loopw [3] (fun a wr=>∃ i:Nat,a=.int .i64 i∧i≤s.length + 256∧Ext w wr∧iM s=i + iM (s.drop i)) (fun a _=>s.length - (intOf a).toNat)
 case atStart=>exact ⟨0,rfl,aE,Ext.refl _,bP⟩
 case round =>
  obtain ⟨i,rfl,hi,hx,hw⟩:=hrel;by_cases hlt:i < s.length
  ·rw [SB hlt] at hw;have hb:(s.getD i 0).toNat < 256:=UInt8.toNat_lt _;by_cases hz:(s.getD i 0).toNat=0
   ·rw [if_pos hz] at hw
    (repeat' first | ((with_reducible refine cQ ?_);go_step) | ((with_reducible refine bM ?_);first | refine fN ?_ | (refine cV ?_ ?_ <;> intro hc)) | fail)
    refine cY (xR (s.take (i + 1)) _ (by simp;omega)) fun w2 x2 => ?_;cases hh:(fX (s.take (i + 1))).isSome with
    | true =>
     refine_lift bR ?_;go_ret;exact ⟨by rw [firstR,hw,if_neg aE,Nat.add_zero,hh];rfl,hx.trans x2⟩
    | false =>
     refine_lift bR ?_;go_ret;exact ⟨by rw [firstR,hw,if_neg aE,Nat.add_zero,hh];rfl,hx.trans x2⟩
   ·rw [if_neg hz] at hw;refine_lift eF fun _ _ => ?_;exact ⟨⟨i + 1 + (s.getD i 0).toNat,by go_num,aE,hx,aE⟩,by simp [intOf];omega⟩
  ·refine_lift lY fun _ => ?_;go_ret;exact ⟨by rw [firstR,if_pos aE];rfl,hx⟩
def BM (l:List Int):List (List Value):=l.map fun n=>[.int .i64 n]
theorem PE {l:List Int} (h:k < l.length):(BM l)[k]? = some [.int .i64 l[k]]:=by simp [BM,h]
theorem JG (m:Int) (w:World) (h0:0≤m) (h1:m < 4294967296):Calls Tryz.prog 93 #[.int .i64 m, .int .i64 4] w (bC w (aI (CX m.toNat))):=by
 obtain ⟨n,rfl⟩:=Int.eq_ofNat_of_zero_le h0;rw [Int.toNat_natCast];exact VJ n w aE
theorem GO (n:Nat):(CX n).length=4:=rfl
theorem YE (s:SoaR) (w:World) (h1:s.main.length≤4611686018427387904) (h2:s.mail.length≤4611686018427387904):Calls Tryz.prog 204 #[.agg s.cells.toArray] w (bC w (if s.ok=true then .tuple #[aI s.data, .int .i64 0] else .tuple #[aI [], .int .i64 1])):=by
 have hA:=fun w=>GM s.main w aE;have hB:=fun w=>GM s.mail w aE;rw [RX];cases hm:(aP s.main).isSome with
 | false =>
  simp only [hm,Bool.false_eq_true,↓reduceIte] at hA;go_enter Tryz.func204,Tryz.ntmps204
  refine_lift mS fun _ _ => ?_;refine kN (vs:=s.cells) fun p w1 x1 hp => ?_;refine aD ?_;have hp':Pts w1 p [aI s.main,aI s.mail, .int .i64 s.serial, .int .i64 s.refresh, .int .i64 s.retry, .int .i64 s.expire, .int .i64 s.minimum]:=hp;refine_lift eF fun _ _ => ?_;refine cY (hA _) fun w2 x2 => ?_;have hp':=hp'.ext x2;refine_lift eF fun _ _ => ?_;refine cY (hB _) fun w3 x3 => ?_;cases hl:(aP s.mail).isSome
  all_goals
   have hp':=hp'.ext x3;simp only [↓reduceIte,Bool.false_eq_true];refine_lift bR ?_;go_ret2;exact ⟨rfl,(x1.trans x2).trans x3⟩
 | true =>
  simp only [hm,↓reduceIte] at hA;cases hl:(aP s.mail).isSome with
  | false =>
   simp only [hl,Bool.false_eq_true,↓reduceIte] at hB;go_enter Tryz.func204,Tryz.ntmps204
   refine_lift mS fun _ _ => ?_;refine kN (vs:=s.cells) fun p w1 x1 hp => ?_;refine aD ?_;have hp':Pts w1 p [aI s.main,aI s.mail, .int .i64 s.serial, .int .i64 s.refresh, .int .i64 s.retry, .int .i64 s.expire, .int .i64 s.minimum]:=hp;refine_lift eF fun _ _ => ?_;refine cY (hA _) fun w2 x2 => ?_;have hp':=hp'.ext x2;refine_lift eF fun _ _ => ?_;refine cY (hB _) fun w3 x3 => ?_;have hp':=hp'.ext x3;refine_lift bR ?_;go_ret2;exact ⟨rfl,(x1.trans x2).trans x3⟩
  | true =>
   simp only [hl,↓reduceIte] at hB;obtain ⟨ls,hls⟩:=Option.isSome_iff_exists.1 hm;obtain ⟨ms,hms⟩:=Option.isSome_iff_exists.1 hl;have hfm:=dO hls;have hfm2:=dO hms;simp only [Bool.true_and];go_enter Tryz.func204,Tryz.ntmps204
   refine_lift mS fun _ _ => ?_;refine kN (vs:=s.cells) fun p w1 x1 hp => ?_;refine aD ?_;have hp':Pts w1 p [aI s.main,aI s.mail, .int .i64 s.serial, .int .i64 s.refresh, .int .i64 s.retry, .int .i64 s.expire, .int .i64 s.minimum]:=hp;refine_lift eF fun _ _ => ?_;refine cY (hA _) fun w2 x2 => ?_;have hp':=hp'.ext x2;refine_lift eF fun _ _ => ?_;refine cY (hB _) fun w3 x3 => ?_;have hp':=hp'.ext x3;have x13:=(x1.trans x2).trans x3;clear x1 x2 x3 hp hA hB
   (repeat' first | ((with_reducible refine cQ ?_);go_step) | ((with_reducible refine bM ?_);first | refine fN ?_ | (refine cV ?_ ?_ <;> intro hc)) | fail)
   rotate_left
   ·have hc:=‹s.serial≤4294967295›;have hc0:=‹¬s.serial < 0›;have hser:(decide (0≤s.serial) && decide (s.serial≤4294967295))=true:=by simp;omega
    refine oV (e:=3) (k:=1) (bytes:=8) (xs:=(cA s).map (.int .i64)) rfl rfl rfl (by intro x hx;obtain ⟨n,_,rfl⟩:=List.mem_map.1 hx;rfl) aR (by simp [cA]) ?_;intro v4 w4 x4 _ s4 _;have s4:Sl 1 w4 v4 (BM (cA s)):=by simpa [BM,cA,Value.cells] using s4
    refine aD ?_;have hp':=hp'.ext x4;refine_lift eF fun _ _ => ?_;refine cY (JG s.serial _ aE aE) fun w5 x5 => ?_;refine bZ rfl (Runs.addS rfl rfl (by simp [GO];omega)) ?_;refine aD ?_;refine_lift eF fun _ _ => ?_;have x15:=(x13.trans x4).trans x5;have s5:=s4.ext x5;have hb0:(iY s).length≤600:=by simp [iY,GO];omega
    rw [show s.main ++ [0] ++ (s.mail ++ [0]) ++ CX s.serial.toNat=iY s from rfl];have hlen:(cA s).length=4:=rfl;have hlen2:(BM (cA s)).length=4:=rfl;clear s4 x4 hp' x5;go_loopw [9,10] (fun o i wr=>∃ k:Nat,k≤4∧i=.int .i64 k∧Ext w5 wr∧o=aI (iY s ++ qZ ((cA s).take k))∧((cA s).take k).all iS=true) (fun _ i _=>4 - (intOf i).toNat)
    case atStart=>exact ⟨0,aE,rfl,Ext.refl _,by simp [qZ],rfl⟩
    case round =>
     obtain ⟨k,hk,rfl,hx,rfl,hall⟩:=hrel;have hsl:=s5.ext hx;by_cases hlt:k < 4
     ·have hlt2:k < (cA s).length:=hlt;have hp:=hsl.elem (PE hlt2);have hsplit:(cA s).all iS=true→iS (cA s)[k]=true:=fun h=>List.all_eq_true.1 h _ (List.getElem_mem hlt2);have hbs:(qZ ((cA s).take k)).length≤16:=by rw [JA];simp;omega
      (repeat' first | ((with_reducible refine cQ ?_);go_step) | ((with_reducible refine bM ?_);first | refine fN ?_ | (refine cV ?_ ?_ <;> intro hc)) | fail)
      rotate_left
      ·refine cY (JG (cA s)[k] _ aE aE) fun w6 x6 => ?_;refine bZ rfl (Runs.addS rfl rfl (by simp [GO];omega)) ?_;refine aD ?_;rw [show iY s ++ qZ ((cA s).take k) ++ CX (cA s)[k].toNat=iY s ++ qZ ((cA s).take (k + 1)) by rw [EJ _ _ hlt2,List.append_assoc]];refine_lift bR ?_;refine ⟨⟨k + 1,aE,by go_num,hx.trans x6,rfl,?_⟩,by simp [intOf];omega⟩;rw [List.take_add_one,List.getElem?_eq_getElem hlt2,Option.toList_some,List.all_append,hall];simp only [List.all_cons,List.all_nil,iS,Bool.true_and,Bool.and_true,Bool.and_eq_true,decide_eq_true_eq];omega
      all_goals
       have hno:(cA s).all iS=false:=by
        cases h:(cA s).all iS with
        | false=>rfl
        | true=>have:=hsplit h;simp [iS] at this;omega
       go_ret2;refine ⟨?_,x15.trans hx⟩;simp only [hser,hno,Bool.and_false,Bool.false_eq_true,if_false];rfl
     ·have:k=4:=aE;subst this;rw [show (cA s).take 4=cA s from rfl] at hall ⊢;refine_lift lY fun _ => ?_;go_ret2;refine ⟨?_,x15.trans hx⟩;simp only [hser,hall,Bool.and_self,if_true];rw [BG];rfl
   all_goals
    have hno:(decide (0≤s.serial) && decide (s.serial≤4294967295))=false:=by simp only [Bool.and_eq_false_iff,decide_eq_false_iff_not];omega
    go_ret2;refine ⟨?_,x13⟩;simp only [hno,Bool.false_and,Bool.false_eq_true,if_false];rfl
theorem ZV {r:List UInt8} (hr:r.length=20) (hi:i < 5):(numU ((r.take (4 * i + 4)).drop (4 * i)) 4:Nat)=numP r i 4:=by
 have hl:((r.take (4 * i + 4)).drop (4 * i)).length=4:=by simp;omega
 have hg:∀ k,k < 4→((r.take (4 * i + 4)).drop (4 * i)).getD k 0=r.getD (4 * i + k) 0:=by
  intro k hk;simp only [List.getD_eq_getElem?_getD,List.getElem?_drop,List.getElem?_take];rw [if_pos aE]
 have h0:numU ((r.take (4 * i + 4)).drop (4 * i)) 0=0:=rfl;rw [mU aE,mU aE,mU aE,mU aE,h0,hg 0 aE,hg 1 aE,hg 2 aE,hg 3 aE];simp only [numP];omega
theorem VK (s:List UInt8) (w:World) (hl:s.length=4):Calls Tryz.prog 87 #[aI s] w (bC w (.int .i64 (numU s 4:Nat))):=by
 have:=ET s w aE
 rwa [hl] at this
theorem GP (d:List UInt8):cW d=if firstR d=0 then none else if firstR (d.drop (firstR d))=0∨d.length≠firstR d + firstR (d.drop (firstR d)) + 20 then none
 else if (dM d).ok=true then some (dM d) else none:=by
 have hd:=lD d;have he:=lD (d.drop (firstR d));by_cases h0:firstR d=0
 ·rw [if_pos h0] at hd ⊢;have:(cO d).2.2=false:=by rw [hd];split <;> rfl
  simp [cW,this]
 ·rw [if_neg h0] at hd ⊢;have h1:(cO d).2.2=true:=by rw [hd]
  have h2:(cO d).2.1=d.drop (firstR d):=by rw [hd]
  unfold cW;simp only [h1,h2,true_and];by_cases hm:firstR (d.drop (firstR d))=0
  ·rw [if_pos hm] at he;have:(cO (d.drop (firstR d))).2.2=false:=by rw [he];split <;> rfl
   simp [this,hm]
  ·rw [if_neg hm] at he;have h3:(cO (d.drop (firstR d))).2.2=true:=by rw [he]
   have h4:(cO (d.drop (firstR d))).2.1=(d.drop (firstR d)).drop (firstR (d.drop (firstR d))):=by rw [he]
   have l1:=sT d;have l2:=sT (d.drop (firstR d));rw [List.length_drop] at l2;simp only [h3,h4,true_and,hm,false_or,List.length_drop];by_cases hl:d.length=firstR d + firstR (d.drop (firstR d)) + 20
   ·have:d.length - firstR d - firstR (d.drop (firstR d))=20:=aE;simp [hl,this];rw [← hl];simp [this]
   ·have:¬ d.length - firstR d - firstR (d.drop (firstR d))=20:=aE;simp [hl,this]
theorem eP (r:List UInt8) (i:Nat) (w:World) (hr:r.length=20) (hi:i < 5):Calls Tryz.prog 87 #[aI ((r.take (4 * i + 4)).drop (4 * i))] w (bC w (.int .i64 (numP r i 4:Nat))):=by
 rw [← ZV hr hi];exact VK _ w (by simp;omega)
theorem rZ (d:List UInt8) (w:World) (hl:d.length≤4611686018427387904):Calls Tryz.prog 153 #[aI d] w (bC w (match cW d with | some s=>.tuple #[.agg s.cells.toArray, .int .i64 0] | none=>.tuple #[.agg bD.toArray, .int .i64 2])):=by
 have hps:=GP d;have l1:=sT d;have l2:=sT (d.drop (firstR d));rw [List.length_drop] at l2;have hd:=lD d;have he:=lD (d.drop (firstR d));go_enter Tryz.func153,Tryz.ntmps153
 refine_lift DF ?_;intro _ _ _;refine fO (z:=bD) fun w1 x1 s1 h1 => ?_;refine aD ?_;refine_lift eF fun _ _ => ?_;refine cY (JF d _ hl) fun w2 x2 => ?_;have h1:=x2.at h1;have x12:=x1.trans x2;refine_lift XY (fun _ _ _ => ?_) (fun _ _ _ _ _ => ?_)
 ·have hz:=‹((firstR d:Nat):Int)=0›;refine bZ (v:=.agg bD.toArray) rfl (Runs.build (parts:=[]) (vals:=[]) rfl (by kernel_rfl)) ?_;refine aD ?_;refine dS (v:=.agg bD.toArray) h1 aR fun w7 p7 => ?_;have x7:=cH x12 p7;have h17:w7.heap[w.heap.size]? = some (.cells bD.toArray 155 (0,0)):=p7.this;refine_lift bR ?_;refine nH (cs:=bD) h17 ⟨?_,x7⟩;rw [hps,if_pos aE];rfl
 ·have hz:=‹¬((firstR d:Nat):Int)=0›;rw [if_neg aE] at hps;refine cY (JF (d.drop (firstR d)) _ (by simp;omega)) fun w3 x3 => ?_;have h1:=x3.at h1;have x13:=x12.trans x3;clear x1 x2 x3 x12;have hsoa:(dM d).cells=[aI (d.take (firstR d - 1)),aI ((d.drop (firstR d)).take (firstR (d.drop (firstR d)) - 1)), .int .i64 (numP ((d.drop (firstR d)).drop (firstR (d.drop (firstR d)))) 0 4:Nat), .int .i64 (numP ((d.drop (firstR d)).drop (firstR (d.drop (firstR d)))) 1 4:Nat), .int .i64 (numP ((d.drop (firstR d)).drop (firstR (d.drop (firstR d)))) 2 4:Nat), .int .i64 (numP ((d.drop (firstR d)).drop (firstR (d.drop (firstR d)))) 3 4:Nat), .int .i64 (numP ((d.drop (firstR d)).drop (firstR (d.drop (firstR d)))) 4 4:Nat)]∨firstR (d.drop (firstR d))=0:=by
   by_cases hm:firstR (d.drop (firstR d))=0
   ·exact .inr hm
   ·rw [if_neg aE] at hd;rw [if_neg hm] at he;left;simp only [SoaR.cells,dM,hd,he]
  (repeat' first | ((with_reducible refine cQ ?_);go_step) | ((with_reducible refine bM ?_);first | refine fN ?_ | (refine cV ?_ ?_ <;> intro hc)) | fail)
  rotate_left
  ·have hm:=‹¬((firstR (d.drop (firstR d)):Nat):Int)=0›;have hlen:=‹(!decide ((d.length:Int)=((firstR d:Nat):Int) + ((firstR (d.drop (firstR d)):Nat):Int) + 20))=false›;have hlen:d.length=firstR d + firstR (d.drop (firstR d)) + 20:=by simp at hlen;omega
   rw [if_neg aE] at hps;have hsoa:=hsoa.resolve_right aE;generalize hn:firstR d=n at *;generalize hmm:firstR (d.drop n)=m at *;have ht:(d.drop ((n:Int) + (m:Int)).toNat)=(d.drop n).drop m:=by rw [List.drop_drop];congr 1
   rw [ht];have htl:((d.drop n).drop m).length=20:=by simp;omega
   generalize hr:(d.drop n).drop m=r at *;refine dV (S:=fun w'=>Ext w3 w') aR ?_;intro w4 x4 hh4;refine tk 0 ?_;refine aD ?_;refine tk 1 ?_;refine aD ?_;refine tk 2 ?_;refine aD ?_;refine tk 3 ?_;refine aD ?_;refine tk 4 ?_;refine aD ?_;refine tk 5 ?_;refine aD ?_;refine tk 6 ?_;refine aD ?_;refine tk 7 ?_;refine aD ?_;refine tk 8 ?_;refine aD ?_;refine tk 9 ?_;refine aD ?_;refine tk 10 ?_;refine aD ?_;refine tk 11 ?_;refine aD ?_;refine tk 12 ?_;refine aD ?_;refine tk 14 ?_;refine aD ?_;refine tk 15 ?_;refine aD ?_;refine tk 17 ?_;refine aD ?_;refine tk 18 ?_;refine aD ?_;refine tk 20 ?_;refine aD ?_;refine tk 21 ?_;refine aD ?_;refine tk 23 ?_;refine aD ?_;refine tk 24 ?_;refine aD ?_;have hx:=x4;have hA:d.take ((n:Int) - 1).toNat=d.take (n - 1):=by congr 1;omega
   rw [hA];have hB:(d.take ((n:Int) + (m:Int) - 1).toNat).drop n=(d.drop n).take (m - 1):=by
    rw [List.drop_take];congr 1;omega
   rw [hB];apply XA (F:=fun (b:Nat) w'=>Ext w3 w'∧w4.heap.size≤b∧w'.heap[b]? = some (.cells bD.toArray 155 (0,0)))
   ·intro hG;have hx0:=hx;have hx:Ext w4 w4:=Ext.refl _;refine sQ (i:=13) (j:=27) aR rfl rfl rfl ?_ ?_
    ·refine pS (eP r 0 _ htl aE) fun w_1 x_1 => ?_;have hx:=hx.trans x_1;refine aD ?_;refine aG ⟨hx0.trans hx,?_⟩;refine sQ (i:=16) (j:=27) aR rfl rfl rfl ?_ ?_
     ·refine pS (eP r 1 _ htl aE) fun w_2 x_2 => ?_;have hx:=hx.trans x_2;refine aD ?_;refine aG ⟨hx0.trans hx,?_⟩;refine sQ (i:=19) (j:=27) aR rfl rfl rfl ?_ ?_
      ·refine pS (eP r 2 _ htl aE) fun w_3 x_3 => ?_;have hx:=hx.trans x_3;refine aD ?_;refine aG ⟨hx0.trans hx,?_⟩;refine sQ (i:=22) (j:=27) aR rfl rfl rfl ?_ ?_
       ·refine pS (eP r 3 _ htl aE) fun w_4 x_4 => ?_;have hx:=hx.trans x_4;refine aD ?_;refine aG ⟨hx0.trans hx,?_⟩;refine sQ (i:=25) (j:=27) aR rfl rfl rfl ?_ ?_
        ·refine pS (eP r 4 _ htl aE) fun w_5 x_5 => ?_;have hx:=hx.trans x_5;refine aD ?_;refine aG ⟨hx0.trans hx,?_⟩;refine cU (i:=26) (v:=.agg (dM d).cells.toArray) rfl rfl aR aR aR rfl (hx0.trans hx) (fun w' _=>by rw [hsoa];exact Runs.build rfl (by kernel_rfl)) (fun _ _ _ h=>h) ?_;refine aD ?_;refine cG (i:=27) aR rfl rfl ?_;refine fO (z:=bD) fun w_6 x_6 s_6 ha => ?_;have hb:=hx.size;have hx:=hx.trans x_6;generalize w_5.heap.size=b at *;refine aD ?_;refine aG ⟨hx0.trans hx,?_⟩;exact hG _ _ ⟨hx0.trans hx,hb,ha⟩
        ·refine fO (z:=bD) fun w_7 x_7 s_7 ha => ?_;have hb:=hx.size;have hx:=hx.trans x_7;generalize w_4.heap.size=b at *;refine aD ?_;refine aG ⟨hx0.trans hx,?_⟩;refine cG (i:=25) aR rfl rfl ?_;refine pS (eP r 4 _ htl aE) fun w_8 x_8 => ?_;have hx:=hx.trans x_8;have ha:=x_8.at ha;refine aD ?_;refine aG ⟨hx0.trans hx,?_⟩;refine cU (i:=26) (v:=.agg (dM d).cells.toArray) rfl rfl aR aR aR rfl (hx0.trans hx) (fun w' _=>by rw [hsoa];exact Runs.build rfl (by kernel_rfl)) (fun _ _ _ h=>h) ?_;refine aD ?_;exact hG _ _ ⟨hx0.trans hx,hb,ha⟩
       ·refine fO (z:=bD) fun w_9 x_9 s_9 ha => ?_;have hb:=hx.size;have hx:=hx.trans x_9;generalize w_3.heap.size=b at *;refine aD ?_;refine aG ⟨hx0.trans hx,?_⟩;refine cG (i:=22) aR rfl rfl ?_;refine pS (eP r 3 _ htl aE) fun w_10 x_10 => ?_;have hx:=hx.trans x_10;have ha:=x_10.at ha;refine aD ?_;refine aG ⟨hx0.trans hx,?_⟩;refine cG (i:=25) aR rfl rfl ?_;refine pS (eP r 4 _ htl aE) fun w_11 x_11 => ?_;have hx:=hx.trans x_11;have ha:=x_11.at ha;refine aD ?_;refine aG ⟨hx0.trans hx,?_⟩;refine cU (i:=26) (v:=.agg (dM d).cells.toArray) rfl rfl aR aR aR rfl (hx0.trans hx) (fun w' _=>by rw [hsoa];exact Runs.build rfl (by kernel_rfl)) (fun _ _ _ h=>h) ?_;refine aD ?_;exact hG _ _ ⟨hx0.trans hx,hb,ha⟩
      ·refine fO (z:=bD) fun w_12 x_12 s_12 ha => ?_;have hb:=hx.size;have hx:=hx.trans x_12;generalize w_2.heap.size=b at *;refine aD ?_;refine aG ⟨hx0.trans hx,?_⟩;refine cG (i:=19) aR rfl rfl ?_;refine pS (eP r 2 _ htl aE) fun w_13 x_13 => ?_;have hx:=hx.trans x_13;have ha:=x_13.at ha;refine aD ?_;refine aG ⟨hx0.trans hx,?_⟩;refine cG (i:=22) aR rfl rfl ?_;refine pS (eP r 3 _ htl aE) fun w_14 x_14 => ?_;have hx:=hx.trans x_14;have ha:=x_14.at ha;refine aD ?_;refine aG ⟨hx0.trans hx,?_⟩;refine cG (i:=25) aR rfl rfl ?_;refine pS (eP r 4 _ htl aE) fun w_15 x_15 => ?_;have hx:=hx.trans x_15;have ha:=x_15.at ha;refine aD ?_;refine aG ⟨hx0.trans hx,?_⟩;refine cU (i:=26) (v:=.agg (dM d).cells.toArray) rfl rfl aR aR aR rfl (hx0.trans hx) (fun w' _=>by rw [hsoa];exact Runs.build rfl (by kernel_rfl)) (fun _ _ _ h=>h) ?_;refine aD ?_;exact hG _ _ ⟨hx0.trans hx,hb,ha⟩
     ·refine fO (z:=bD) fun w_16 x_16 s_16 ha => ?_;have hb:=hx.size;have hx:=hx.trans x_16;generalize w_1.heap.size=b at *;refine aD ?_;refine aG ⟨hx0.trans hx,?_⟩;refine cG (i:=16) aR rfl rfl ?_;refine pS (eP r 1 _ htl aE) fun w_17 x_17 => ?_;have hx:=hx.trans x_17;have ha:=x_17.at ha;refine aD ?_;refine aG ⟨hx0.trans hx,?_⟩;refine cG (i:=19) aR rfl rfl ?_;refine pS (eP r 2 _ htl aE) fun w_18 x_18 => ?_;have hx:=hx.trans x_18;have ha:=x_18.at ha;refine aD ?_;refine aG ⟨hx0.trans hx,?_⟩;refine cG (i:=22) aR rfl rfl ?_;refine pS (eP r 3 _ htl aE) fun w_19 x_19 => ?_;have hx:=hx.trans x_19;have ha:=x_19.at ha;refine aD ?_;refine aG ⟨hx0.trans hx,?_⟩;refine cG (i:=25) aR rfl rfl ?_;refine pS (eP r 4 _ htl aE) fun w_20 x_20 => ?_;have hx:=hx.trans x_20;have ha:=x_20.at ha;refine aD ?_;refine aG ⟨hx0.trans hx,?_⟩;refine cU (i:=26) (v:=.agg (dM d).cells.toArray) rfl rfl aR aR aR rfl (hx0.trans hx) (fun w' _=>by rw [hsoa];exact Runs.build rfl (by kernel_rfl)) (fun _ _ _ h=>h) ?_;refine aD ?_;exact hG _ _ ⟨hx0.trans hx,hb,ha⟩
    ·refine fO (z:=bD) fun w_21 x_21 s_21 ha => ?_;have hb:=hx.size;have hx:=hx.trans x_21;generalize w4.heap.size=b at *;refine aD ?_;refine aG ⟨hx0.trans hx,?_⟩;refine cG (i:=13) aR rfl rfl ?_;refine pS (eP r 0 _ htl aE) fun w_22 x_22 => ?_;have hx:=hx.trans x_22;have ha:=x_22.at ha;refine aD ?_;refine aG ⟨hx0.trans hx,?_⟩;refine cG (i:=16) aR rfl rfl ?_;refine pS (eP r 1 _ htl aE) fun w_23 x_23 => ?_;have hx:=hx.trans x_23;have ha:=x_23.at ha;refine aD ?_;refine aG ⟨hx0.trans hx,?_⟩;refine cG (i:=19) aR rfl rfl ?_;refine pS (eP r 2 _ htl aE) fun w_24 x_24 => ?_;have hx:=hx.trans x_24;have ha:=x_24.at ha;refine aD ?_;refine aG ⟨hx0.trans hx,?_⟩;refine cG (i:=22) aR rfl rfl ?_;refine pS (eP r 3 _ htl aE) fun w_25 x_25 => ?_;have hx:=hx.trans x_25;have ha:=x_25.at ha;refine aD ?_;refine aG ⟨hx0.trans hx,?_⟩;refine cG (i:=25) aR rfl rfl ?_;refine pS (eP r 4 _ htl aE) fun w_26 x_26 => ?_;have hx:=hx.trans x_26;have ha:=x_26.at ha;refine aD ?_;refine aG ⟨hx0.trans hx,?_⟩;refine cU (i:=26) (v:=.agg (dM d).cells.toArray) rfl rfl aR aR aR rfl (hx0.trans hx) (fun w' _=>by rw [hsoa];exact Runs.build rfl (by kernel_rfl)) (fun _ _ _ h=>h) ?_;refine aD ?_;exact hG _ _ ⟨hx0.trans hx,hb,ha⟩
   ·intro b w5 hF;obtain ⟨x5,hbb,h5⟩:=hF;have hsz:=x4.size;have hs1:w.heap.size < w3.heap.size:=(Array.getElem?_eq_some_iff.1 h1).1;refine cG (i:=28) aR rfl rfl ?_;refine dS (v:=.agg (dM d).cells.toArray) h5 (by rw [hsoa];simp [Value.cells,Value.oneCell',aI]) fun w6 p6 => ?_;have h16:=p6.at (x5.at h1) aE;have x36:=cH x5 p6;have x6:=x13.trans x36;have hb6:w6.heap[b]? = some (.cells (dM d).cells.toArray 155 (0,0)):=p6.this;refine aG ⟨x36,?_⟩;refine dR aR ?_;have hp6:=aA hb6;clear p6 h5 x5 hx x4 h1;refine_lift eF fun _ _ => ?_;refine bZ (v:=.agg (dM d).cells.toArray) rfl (Runs.loadN (n:=7) hp6 rfl aR) ?_;refine aD ?_;have hm1:(dM d).main.length≤4611686018427387904:=by
     have:=congrArg (fun c:List Value=>tT (c.getD 0 undef)) hsoa;simp only [SoaR.cells,List.getD_cons_zero,mZ] at this;rw [this];simp;omega
    have hm2:(dM d).mail.length≤4611686018427387904:=by
     have:=congrArg (fun c:List Value=>tT (c.getD 1 undef)) hsoa;simp only [SoaR.cells,List.getD_cons_zero,List.getD_cons_succ,mZ] at this;rw [this];simp;omega
    refine cY (YE (dM d) _ hm1 hm2) fun w7 x7 => ?_;have h16:=x7.at h16;have hb6:=x7.at hb6;have x6:=x6.trans x7;have hp6:=hp6.ext x7;cases hok:(dM d).ok with
    | false =>
     simp only [hok,Bool.false_eq_true,if_false] at hps ⊢;refine_lift ZQ fun _ _ _ _ _ => ?_;refine bZ (v:=.agg bD.toArray) rfl (Runs.build (parts:=[]) (vals:=[]) rfl (by kernel_rfl)) ?_;refine aD ?_;refine dS (v:=.agg bD.toArray) h16 aR fun w8 p8 => ?_;have x8:=cH x6 p8;have h18:w8.heap[w.heap.size]? = some (.cells bD.toArray 155 (0,0)):=p8.this;refine_lift bR ?_;refine nH (cs:=bD) h18 ⟨?_,x8⟩;rw [hps];rfl
    | true =>
     simp only [hok,if_true] at hps ⊢;refine_lift eF fun _ _ => ?_;refine bZ (v:=.agg (dM d).cells.toArray) rfl (Runs.loadN (n:=7) hp6 rfl aR) ?_;refine aD ?_;refine dS (v:=.agg (dM d).cells.toArray) h16 (by rw [hsoa];simp [Value.cells,Value.oneCell',aI]) fun w8 p8 => ?_;have x8:=cH x6 p8;have h18:w8.heap[w.heap.size]? = some (.cells (dM d).cells.toArray 155 (0,0)):=p8.this;refine_lift bR ?_;refine nH (cs:=(dM d).cells) h18 ⟨?_,x8⟩;rw [hps];rfl
  all_goals
   refine bZ (v:=.agg bD.toArray) rfl (Runs.build (parts:=[]) (vals:=[]) rfl (by kernel_rfl)) ?_;refine aD ?_;refine dS (v:=.agg bD.toArray) h1 aR fun w7 p7 => ?_;have x7:=cH x13 p7;have h17:w7.heap[w.heap.size]? = some (.cells bD.toArray 155 (0,0)):=p7.this;refine_lift bR ?_;refine nH (cs:=bD) h17 ⟨?_,x7⟩;have hbad:firstR (d.drop (firstR d))=0∨d.length≠firstR d + firstR (d.drop (firstR d)) + 20:=by
    first
     | exact .inl aE
     | exact .inr (by have hq:=‹(!decide ((d.length:Int)=((firstR d:Nat):Int) + ((firstR (d.drop (firstR d)):Nat):Int) + 20))=true›;simp at hq;omega)
   rw [hps,if_pos hbad];rfl
theorem PF (k:Int) (d:List UInt8):decide ((aQ k d).2≠2)=(decide (eL k < 0) || (decide (eL k≤(d.length:Int)) && (fX (d.drop (eL k).toNat)).isSome)):=by
 unfold aQ;by_cases h1:eL k < 0
 ·simp [h1]
 ·by_cases h2:(d.length:Int) < eL k
  ·simp [h1,h2];omega
  ·rw [if_neg h1,if_neg h2];cases hh:fX (d.drop (eL k).toNat) with
   | none=>simp [h1]
   | some n=>simp [h1];omega
theorem VL (k:Int) (d:List UInt8) (w:World) (hl:d.length≤4611686018427387904):Calls Tryz.prog 152 #[.int .i64 k,aI d] w (bC w (.bool (decide (d.length≤4000) && fits k d))):=by
 go_enter Tryz.func152,Tryz.ntmps152
 (repeat' first | ((with_reducible refine cQ ?_);go_step) | ((with_reducible refine bM ?_);first | refine fN ?_ | (refine cV ?_ ?_ <;> intro hc)) | fail)
 ·have h4:=‹4000 < (d.length:Int)›;go_ret;exact ⟨by rw [decide_eq_false (show ¬ d.length≤4000 by omega)];rfl,Ext.refl _⟩
 ·have h4:=‹(d.length:Int)≤4000›;have hk:=‹k=1›;go_ret;refine ⟨?_,Ext.refl _⟩;rw [decide_eq_true (show d.length≤4000 by omega),fits,if_pos hk];simp;omega
 ·have h4:=‹(d.length:Int)≤4000›;have hk:=‹k=28›;subst hk;go_ret;refine ⟨?_,Ext.refl _⟩;rw [decide_eq_true (show d.length≤4000 by omega)];simp [fits];omega
 ·have h4:=‹(d.length:Int)≤4000›;have hk:=‹k=6›;subst hk;have hf:(decide (d.length≤4000) && fits 6 d)=(cW d).isSome:=by
   rw [decide_eq_true (show d.length≤4000 by omega)];simp [fits]
  refine cY (rZ d _ hl) fun w1 x1 => ?_;cases hps:cW d with
  | none =>
   refine_lift bR ?_;refine fO (z:=bD) fun w2 x2 s2 h2 => ?_;refine aD ?_;refine dS (v:=.agg bD.toArray) h2 aR fun w3 p3 => ?_;have x3:=cH (x1.trans x2) p3;refine_lift bR ?_;go_ret;exact ⟨by rw [hf,hps];simp,x3⟩
  | some s =>
   refine_lift bR ?_;refine fO (z:=bD) fun w2 x2 s2 h2 => ?_;refine aD ?_;refine dS (v:=.agg s.cells.toArray) h2 (by simp [SoaR.cells,Value.cells,Value.oneCell',aI]) fun w3 p3 => ?_;have x3:=cH (x1.trans x2) p3;refine_lift bR ?_;go_ret;exact ⟨by rw [hf,hps];simp,x3⟩
 ·have h4:=‹(d.length:Int)≤4000›;have hk:=‹k=16›;subst hk;refine cY (SA d _ hl) fun w1 x1 => ?_;refine_lift bR ?_;go_ret;refine ⟨?_,x1⟩;rw [decide_eq_true (show d.length≤4000 by omega)];simp [fits]
 ·have h4:=‹(d.length:Int)≤4000›;have q1:=‹¬k=1›;have q2:=‹¬k=28›;have q3:=‹¬k=6›;have q4:=‹¬k=16›;have hf:(decide (d.length≤4000) && fits k d)=(decide (eL k < 0) || (decide (eL k≤(d.length:Int)) && (fX (d.drop (eL k).toNat)).isSome)):=by
   rw [decide_eq_true (show d.length≤4000 by omega),← PF];simp [fits,q1,q2,q3,q4]
  refine cY (JE k _) fun w1 x1 => ?_;generalize eL k=a at *;refine_lift IW (fun hc hc => ?_) (fun hc => ?_) (fun _ _ hc hc => ?_)
  ·have c1:=‹¬a < 0›;have c2:=‹a≤(d.length:Int)›;refine cY (xR (d.drop a.toNat) _ (by simp;omega)) fun w2 x2 => ?_;refine_lift bR ?_;go_ret;exact ⟨by rw [hf,decide_eq_false c1,decide_eq_true c2];simp,x1.trans x2⟩
  ·have c1:=‹¬a < 0›;have c2:=‹¬a≤(d.length:Int)›;go_ret;exact ⟨by rw [hf,decide_eq_false c1,decide_eq_false c2];simp,x1⟩
  ·have c1:=‹a < 0›;go_ret;exact ⟨by rw [hf,decide_eq_true c1];simp,x1⟩
theorem BN (r:Rec) (w:World) (hl:r.data.length≤4611686018427387904):Calls Tryz.prog 91 #[.agg #[aI r.name, .int .i64 r.kind, .int .i64 r.ttl,aI r.data]] w (bC w (.int .i64 (aU r))):=by
 go_enter Tryz.func91,Tryz.ntmps91
 repeat' (first | ((with_reducible refine cQ ?_);go_step) | fail)
 refine kN (vs:=Rec.cells r) fun p w1 x1 hp => ?_;refine aD ?_;have hp:Pts w1 p [aI r.name, .int .i64 r.kind, .int .i64 r.ttl,aI r.data]:=hp
 (repeat' first | ((with_reducible refine cQ ?_);go_step) | ((with_reducible refine bM ?_);first | refine fN ?_ | (refine cV ?_ ?_ <;> intro hc)) | fail)
 refine dL (enters_of Tryz.func89 rfl rfl) rfl rfl (rU r.name _) ?_;intro w2 x2;refine aD ?_;have hp:=hp.ext x2;have x2:=x1.trans x2;cases hlab:(aP r.name).isSome with
 | false =>
  simp only [Bool.false_eq_true,↓reduceIte]
  (repeat' first | ((with_reducible refine cQ ?_);go_step) | ((with_reducible refine bM ?_);first | refine fN ?_ | (refine cV ?_ ?_ <;> intro hc)) | fail)
  go_ret;refine ⟨?_,x2⟩;have:aU r=1:=by unfold aU;simp [hlab]
  rw [this];rfl
 | true =>
  simp only [↓reduceIte]
  (repeat' first | ((with_reducible refine cQ ?_);go_step) | ((with_reducible refine bM ?_);first | refine fN ?_ | (refine cV ?_ ?_ <;> intro hc)) | fail)
  rotate_left
  ·have:aU r=1:=by simp [aU,hc]
   go_ret;exact ⟨by rw [this];rfl,x2⟩
  ·have:aU r=1:=by simp [aU,hc]
   go_ret;exact ⟨by rw [this];rfl,x2⟩
  ·have:aU r=1:=by simp [aU,hc]
   go_ret;exact ⟨by rw [this];rfl,x2⟩
  ·have:aU r=1:=by simp [aU,hc]
   go_ret;exact ⟨by rw [this];rfl,x2⟩
  ·have:aU r=1:=by simp [aU,hc]
   go_ret;exact ⟨by rw [this];rfl,x2⟩
  ·have:aU r=1:=by simp [aU,hc]
   go_ret;exact ⟨by rw [this];rfl,x2⟩
  ·have:aU r=1:=by simp [aU,hc]
   go_ret;exact ⟨by rw [this];rfl,x2⟩
  ·have:aU r=1:=by simp [aU,hc]
   go_ret;exact ⟨by rw [this];rfl,x2⟩
  ·have q1:=‹¬r.kind < 1›;have q2:=‹¬65535 < r.kind›;have q3:=‹¬r.kind=41›;have q4:=‹¬r.kind=251›;have q5:=‹¬r.kind=252›;have q6:=‹¬r.kind=255›;have q7:=‹¬r.ttl < 0›;have q8:=‹¬2147483647 < r.ttl›;refine dL (enters_of Tryz.func152 rfl rfl) rfl rfl (VL r.kind r.data _ hl) ?_;intro w3 x3;refine aD ?_;cases hf:(decide (r.data.length≤4000) && fits r.kind r.data) with
   | true =>
    simp only [Bool.and_eq_true,decide_eq_true_eq] at hf;have:aU r=0:=by simp [aU,q1,q2,q3,q4,q5,q6,q7,q8,hf.2,hlab];omega
    (repeat' first | ((with_reducible refine cQ ?_);go_step) | ((with_reducible refine bM ?_);first | refine fN ?_ | (refine cV ?_ ?_ <;> intro hc)) | fail)
    go_ret;exact ⟨by rw [this];rfl,x2.trans x3⟩
   | false =>
    have:aU r=1:=by
     simp only [Bool.and_eq_false_iff,decide_eq_false_iff_not] at hf;rcases hf with hf | hf
     ·simp [aU,show 4000 < r.data.length by omega]
     ·simp [aU,hf]
    (repeat' first | ((with_reducible refine cQ ?_);go_step) | ((with_reducible refine bM ?_);first | refine fN ?_ | (refine cV ?_ ?_ <;> intro hc)) | fail)
    go_ret;exact ⟨by rw [this];rfl,x2.trans x3⟩
def iZ (n:List UInt8):Nat:=((aP n).getD []).length
def kG (o n:List UInt8) (b:List UInt8 × Bool) (s:RSet):List UInt8 × Bool :=
 if s.kind=2∧s.name≠o∧bO n s.name=true∧(b.2=false∨iZ s.name < iZ b.1) then (s.name,true) else b
def mL (o:List UInt8) (l:List RSet) (n:List UInt8):List UInt8 × Bool:=l.foldl (kG o n) ([],false)
theorem SC {l:List RSet} (hk:k < l.length):mL o (l.take (k + 1)) n=kG o n (mL o (l.take k) n) l[k]:=by
 rw [List.take_succ_eq_append_getElem hk,mL,List.foldl_append];rfl
theorem GQ (o:List UInt8) (v:Value) (l:List RSet) (n:List UInt8) (w:World) (hv:SetsAt w v l):Calls Tryz.prog 159 #[.agg #[aI o,v],aI n] w (bC w (.tuple #[aI (mL o l n).1, .bool (mL o l n).2])):=by
 obtain ⟨cv,hv1,hvl⟩:=hv.sl;have hle:=hv1.le;go_enter Tryz.func159,Tryz.ntmps159
 refine_lift mS fun _ _ => ?_;refine kN (vs:=[aI o,v]) fun p w1 x1 hp => ?_;refine aD ?_;refine_lift eF fun _ _ => ?_;go_loopw [6,7,8,9] (fun b f i _ wr=>∃ k:Nat,k≤l.length∧i=.int .i64 k∧b=aI (mL o (l.take k) n).1∧f=.bool (mL o (l.take k) n).2∧Ext w1 wr) (fun _ _ i _ _=>l.length - (intOf i).toNat)
 case atStart=>exact ⟨0,Nat.zero_le _,rfl,rfl,rfl,Ext.refl _⟩
 case round =>
  obtain ⟨k,hk,rfl,rfl,rfl,hx⟩:=hrel;have hxw:Ext w wr:=x1.trans hx;have hv2:=hv1.ext hxw;have hp2:=hp.ext hx;by_cases hlt:k < l.length
  ·obtain ⟨x,h4,h4d⟩:=(hv.ext hxw).elem (List.getElem?_eq_getElem hlt);refine_lift CY ?_;intro _ _ _ _ _ _;refine fO (z:=iP) fun w2 x2 s2 h2 => ?_;refine aD ?_;refine dS (v:=.agg #[aI l[k].name, .int .i64 l[k].kind, .int .i64 l[k].ttl,x]) h2 (fI rfl rfl rfl (h4d.ext x2).one) fun w3 p3 => ?_;have x3:Ext wr w3:=x2.move p3.mv (by rintro k ⟨⟩;have:=hxw.size;omega);have h3:Pts w3 (.pointer (some ⟨wr.heap.size,0,none⟩)) [aI l[k].name, .int .i64 l[k].kind, .int .i64 l[k].ttl,x]:=aA p3.this;have hp3:=hp2.ext x3;have hstep:=SC (o:=o) (n:=n) hlt;generalize hg:mL o (l.take k) n=g at *;obtain ⟨best,found⟩:=g;have hsame:¬ (l[k].kind=2∧l[k].name≠o∧bO n l[k].name=true∧(found=false∨iZ l[k].name < iZ best))→mL o (l.take (k + 1)) n=(best,found):=fun h=>by
    rw [hstep,kG,if_neg h]
   have hnew:(l[k].kind=2∧l[k].name≠o∧bO n l[k].name=true∧(found=false∨iZ l[k].name < iZ best))→mL o (l.take (k + 1)) n=(l[k].name,true):=fun h=>by
    rw [hstep,kG,if_pos h]
   refine_lift IW (fun hc hc => ?_) (fun hc => ?_) (fun _ _ hc hc => ?_)
   ·have hne:l[k].name≠o:=by simpa using hc
    have hk2:l[k].kind=2:=by assumption
    refine cY (oY _ _ _) fun w4 x4 => ?_;have hx4:=hx.trans (x3.trans x4);have h5:=h3.ext x4;cases hu:bO n l[k].name with
    | false =>
     refine_lift bR ?_;have h:=hsame (fun h=>absurd h.2.2.1 (by rw [hu];decide));exact ⟨⟨k + 1,aE,by go_num,by rw [h],by rw [h],hx4⟩,by simp [intOf];omega⟩
    | true =>
     cases found with
     | false =>
      refine_lift bR ?_;have h:=hnew ⟨hk2,hne,hu, .inl rfl⟩;exact ⟨⟨k + 1,aE,by go_num,by rw [h],by rw [h],hx4⟩,by simp [intOf];omega⟩
     | true =>
      refine_lift bR ?_;refine gE (mT l[k].name _) fun v5 w5 x5 o5 => ?_;have hl5:=aV ((aP l[k].name).getD []);have hs5:=o5.sl;have h6:=h5.ext x5;refine aD ?_;refine_lift bR ?_;refine gE (mT best _) fun v6 w6 x6 o6 => ?_;have hl6:=aV ((aP best).getD []);have hs6:=o6.sl;have h7:=h6.ext x6;have hx7:=hx4.trans (x5.trans x6);refine aD ?_;refine_lift DG (fun _ => ?_) (fun _ => ?_)
      ·rename_i hh;have h:=hnew ⟨hk2,hne,hu, .inr (by simp only [iZ];omega)⟩;exact ⟨⟨k + 1,aE,by go_num,by rw [h],by rw [h],hx7⟩,by simp [intOf];omega⟩
      ·rename_i hh;have h:=hsame (fun h=>by have h8:=h.2.2.2;simp only [iZ] at h8;rcases h8 with h8 | h8;cases h8;omega);exact ⟨⟨k + 1,aE,by go_num,by rw [h],by rw [h],hx7⟩,by simp [intOf];omega⟩
   ·have h:=hsame (fun h=>by first | exact absurd h.1 hc | exact h.2.1 (by simpa using hc));exact ⟨⟨k + 1,aE,by go_num,by rw [h],by rw [h],hx.trans x3⟩,by simp [intOf];omega⟩
   ·have h:=hsame (fun h=>by first | exact absurd h.1 hc | exact h.2.1 (by simpa using hc));exact ⟨⟨k + 1,aE,by go_num,by rw [h],by rw [h],hx.trans x3⟩,by simp [intOf];omega⟩
  ·have:k=l.length:=aE;subst this;rw [List.take_length];refine_lift lY fun _ => ?_;go_ret2;exact ⟨rfl,hxw⟩
def qT (o:List UInt8) (l:List RSet) (s:RSet):Bool :=
 !(mL o l s.name).2 || decide (s.kind=1) || decide (s.kind=28) || (decide (s.kind=2) && decide (s.name=(mL o l s.name).1))
def nK (s t:RSet):Bool:=decide (t.name=s.name) && decide (t.kind≠5)
def eM (o:List UInt8) (l:List RSet) (s:RSet):Bool :=
 bO s.name o && !(decide (s.kind=6) && (decide (s.name≠o) || decide (s.data.length≠1))) && !(decide (s.kind=5) && (decide (s.data.length≠1) || l.any (nK s))) && qT o l s
theorem SD (o:List UInt8) (v:Value) (l:List RSet) (s:RSet) (u:Value) (w:World) (hv:SetsAt w v l) (hu:Sl 1 w u (aK s.data)):Calls Tryz.prog 156 #[.agg #[aI o,v], .agg #[aI s.name, .int .i64 s.kind, .int .i64 s.ttl,u]] w (bC w (.bool (eM o l s))):=by
 obtain ⟨cv,hv1,hvl⟩:=hv.sl;have hle:=hv1.le;have hlen:=aV s.data;go_enter Tryz.func156,Tryz.ntmps156
 refine_lift mS fun _ _ => ?_;refine kN (vs:=[aI o,v]) fun p w1 x1 hp => ?_;refine aD ?_;refine_lift ZJ ?_;refine kN (vs:=[aI s.name, .int .i64 s.kind, .int .i64 s.ttl,u]) fun q w2 x2 hq => ?_;refine aD ?_;have hp2:=hp.ext x2;have hx2:=x1.trans x2;refine_lift rS fun _ _ _ _ => ?_;refine cY (oY _ _ _) fun w3 x3 => ?_;have hp3:=hp2.ext x3;have hq3:=hq.ext x3;have hx3:=hx2.trans x3;have hu3:=hu.ext hx3;have hv3:=hv1.ext hx3;have hs3:=hv.ext hx3;cases hn:bO s.name o with
 | false =>
  refine_lift bR ?_;go_ret;exact ⟨by simp [eM,hn],hx3⟩
 | true =>
  (repeat' first | ((with_reducible refine cQ ?_);go_step) | ((with_reducible refine bM ?_);first | refine fN ?_ | (refine cV ?_ ?_ <;> intro hc)) | fail)
  all_goals try (go_ret;exact ⟨by first | (simp_all [eM];done) | (simp_all [eM];intro h;omega),hx3⟩)
  ·have hR:eM o l s=qT o l s:=by
    have:decide (s.data.length≠1)=false:=by simp_all;omega
    simp_all [eM]
   refine cY (GQ o v l s.name _ (hs3)) fun w4 x4 => ?_;generalize hcut:mL o l s.name=g at *;obtain ⟨c,is⟩:=g;cases is with
   | false =>
    refine_lift bR ?_;go_ret;exact ⟨by rw [hR];simp [qT,hcut],(hx3).trans x4⟩
   | true =>
    have hq4:=(hq3).ext x4
    (repeat' first | ((with_reducible refine cQ ?_);go_step) | ((with_reducible refine bM ?_);first | refine fN ?_ | (refine cV ?_ ?_ <;> intro hc)) | fail)
    all_goals (go_ret;exact ⟨by rw [hR];simp_all [qT],hx3.trans x4⟩)
  ·have h5:s.kind=5:=by assumption
   have hd1:decide (s.data.length≠1)=false:=by simp_all;omega
   go_loopw [5] (fun i wr=>∃ k:Nat,k≤l.length∧i=.int .i64 k∧Ext w3 wr∧(l.take k).any (nK s)=false) (fun i _=>l.length - (intOf i).toNat)
   case atStart=>exact ⟨0,Nat.zero_le _,rfl,Ext.refl _,rfl⟩
   case round =>
    obtain ⟨k,hk,rfl,hx,hall⟩:=hrel;have hxw:Ext w wr:=hx3.trans hx;have hv4:=hv1.ext hxw;have hp4:=hp3.ext hx;have hq4:=hq3.ext hx;by_cases hlt:k < l.length
    ·obtain ⟨x,h4,h4d⟩:=(hv.ext hxw).elem (List.getElem?_eq_getElem hlt);refine_lift CY ?_;intro _ _ _ _ _ _;refine bS aR aR ?_;refine_lift lX ?_;by_cases q1:l[k].name=s.name
     ·rw [decide_eq_true q1];refine_lift lX ?_;by_cases q2:l[k].kind=5
      ·rw [decide_eq_true q2];refine_lift lX ?_;intro w5 x5;refine_lift lY fun _ => ?_;exact ⟨⟨k + 1,aE,by go_num,hx.trans x5,kF hlt hall (by simp [nK,q2])⟩,by simp [intOf];omega⟩
      ·rw [decide_eq_false q2];refine_lift lX ?_;intro w5 x5;refine_lift lY fun _ => ?_;have hcl:l.any (nK s)=true:=GL hlt (by simp [nK,q1,q2]);go_ret;exact ⟨by rw [show eM o l s=false by simp [eM,hcl,h5]];rfl,hxw.trans x5⟩
     ·rw [decide_eq_false q1];refine_lift lX ?_;intro w5 x5;refine_lift bR ?_;exact ⟨⟨k + 1,aE,by go_num,hx.trans x5,kF hlt hall (by simp [nK,q1])⟩,by simp [intOf];omega⟩
    ·have:k=l.length:=aE;subst this;rw [List.take_length] at hall;have hR:eM o l s=qT o l s:=by simp_all [eM]
     refine_lift DH fun _ _ _ => ?_;refine cY (GQ o v l s.name _ (hs3.ext hx)) fun w5 x5 => ?_;generalize hcut:mL o l s.name=g at *;obtain ⟨c,is⟩:=g;cases is with
     | false =>
      refine_lift bR ?_;go_ret;exact ⟨by rw [hR];simp [qT,hcut],hxw.trans x5⟩
     | true =>
      have hq5:=hq4.ext x5
      (repeat' first | ((with_reducible refine cQ ?_);go_step) | ((with_reducible refine bM ?_);first | refine fN ?_ | (refine cV ?_ ?_ <;> intro hc)) | fail)
      all_goals (go_ret;exact ⟨by rw [hR];simp_all [qT],hxw.trans x5⟩)
  ·have hR:eM o l s=qT o l s:=by simp_all [eM]
   refine cY (GQ o v l s.name _ (hs3)) fun w4 x4 => ?_;generalize hcut:mL o l s.name=g at *;obtain ⟨c,is⟩:=g;cases is with
   | false =>
    refine_lift bR ?_;go_ret;exact ⟨by rw [hR];simp [qT,hcut],(hx3).trans x4⟩
   | true =>
    have hq4:=(hq3).ext x4
    (repeat' first | ((with_reducible refine cQ ?_);go_step) | ((with_reducible refine bM ?_);first | refine fN ?_ | (refine cV ?_ ?_ <;> intro hc)) | fail)
    all_goals (go_ret;exact ⟨by rw [hR];simp_all [qT],hx3.trans x4⟩)
def lS (a b:RSet):Bool:=decide (jF a.name b.name < 0) || (decide (jF a.name b.name=0) && decide (a.kind < b.kind))
theorem SE (a b:RSet) (u v:Value) (w:World):Calls Tryz.prog 206 #[.agg #[aI a.name, .int .i64 a.kind, .int .i64 a.ttl,u], .agg #[aI b.name, .int .i64 b.kind, .int .i64 b.ttl,v]] w (bC w (.bool (lS a b))):=by
 go_enter Tryz.func206,Tryz.ntmps206
 refine_lift mS fun _ _ => ?_;refine kN (vs:=[aI a.name, .int .i64 a.kind, .int .i64 a.ttl,u]) fun p w1 x1 hp => ?_;refine aD ?_;refine kN (vs:=[aI b.name, .int .i64 b.kind, .int .i64 b.ttl,v]) fun q w2 x2 hq => ?_;refine aD ?_;have hp:=hp.ext x2;refine_lift eF fun _ _ => ?_;refine cY (LY a.name b.name _) fun w3 x3 => ?_;have hp:=hp.ext x3;have hq:=hq.ext x3;have x:=(x1.trans x2).trans x3;refine_lift RK (fun hc hc => ?_) (fun hc => ?_) (fun hc hc => ?_)
 ·have c1:=‹¬jF a.name b.name < 0›;have c2:=‹jF a.name b.name=0›;go_ret;exact ⟨by simp [lS,c2],x⟩
 ·have c1:=‹¬jF a.name b.name < 0›;have c2:=‹¬jF a.name b.name=0›;go_ret;exact ⟨by rw [lS,decide_eq_false c1,decide_eq_false c2];rfl,x⟩
 ·have c1:=‹jF a.name b.name < 0›;go_ret;exact ⟨by rw [lS,decide_eq_true c1];rfl,x⟩
theorem YF (s:RSet) (v:Value) (w:World) (hv:Sl 1 w v (aK s.data)) (hd:∀ d ∈ s.data,d.length≤4611686018427387904):Calls Tryz.prog 205 #[.agg #[aI s.name, .int .i64 s.kind, .int .i64 s.ttl,v]] w (bC w (.bool (gV s))):=by
 have hlen:=aV s.data;have hle:=hv.le;go_enter Tryz.func205,Tryz.ntmps205
 refine_lift mS fun _ _ => ?_;refine kN (vs:=[aI s.name, .int .i64 s.kind, .int .i64 s.ttl,v]) fun p w1 x1 hp => ?_;refine aD ?_;have hv1:=hv.ext x1;refine_lift rS fun _ _ _ _ => ?_;cases hb:decide (fold s.name=s.name) with
 | false =>
  have hno:gV s=false:=by simp [gV,hb]
  refine bS aR aR ?_;refine_lift lX ?_;refine eJ (enters_of Tryz.func59 rfl rfl) rfl rfl (fun w' _=>mI s.name w') ?_;refine aD ?_;refine_lift lX ?_;simp only [hb,Bool.not_true,Bool.not_false];refine_lift lX ?_;intro w2 x2;refine_lift bR ?_;go_ret;exact ⟨by rw [hno];rfl,x1.trans x2⟩
 | true =>
  have hfo:fold s.name=s.name:=by simpa using hb
  refine bS aR aR ?_;refine_lift lX ?_;refine eJ (enters_of Tryz.func59 rfl rfl) rfl rfl (fun w' _=>mI s.name w') ?_;refine aD ?_;refine_lift lX ?_;simp only [hb,Bool.not_true,Bool.not_false];refine_lift lX ?_;cases hb1:decide (((aK s.data).length:Int) < 1) with
  | true =>
   have hno:gV s=false:=by simp at hb1;simp [gV];intro _ h;omega
   refine_lift lX ?_;intro w2 x2;refine_lift bR ?_;go_ret;exact ⟨by rw [hno];rfl,x1.trans x2⟩
  | false =>
   refine_lift lX ?_;cases hb2:decide ((20:Int) < ((aK s.data).length:Int)) with
   | true =>
    have hno:gV s=false:=by simp at hb2;simp [gV];intro _ _ h;omega
    refine_lift lX ?_;intro w2 x2;refine_lift bR ?_;go_ret;exact ⟨by rw [hno];rfl,x1.trans x2⟩
   | false =>
    refine_lift lX ?_;intro w2 x2;have hl1:1≤s.data.length:=by simp at hb1;omega
    have hl2:s.data.length≤20:=by simp at hb2;omega
    have hp:=hp.ext x2;have hv2:=hv1.ext x2;have x12:=x1.trans x2;clear x1 x2 hv1;refine_lift eF fun _ _ => ?_;go_loopw [3] (fun i wr=>∃ k:Nat,k≤s.data.length∧i=.int .i64 k∧Ext w2 wr∧∀ j,j < k→lI s j=false) (fun i _=>s.data.length - (intOf i).toNat)
    case atStart=>exact ⟨0,Nat.zero_le _,rfl,Ext.refl _,aE⟩
    case round =>
     obtain ⟨k,hk,rfl,hx,hall⟩:=hrel;have hp:=hp.ext hx;have hv3:=hv2.ext hx;by_cases hlt:k < s.data.length
     ·have hq:=hv3.elem (gU hlt);have hdk:=hd _ (List.getElem_mem hlt);have hbad:lI s k=(decide (aU ⟨s.name,s.kind,s.ttl,s.data[k]⟩≠0) || (decide (0 < k) && !Op.bytesLess (s.data.getD (k - 1) []) s.data[k])):=by
       rw [lI,show s.data.getD k []=s.data[k] by simp [hlt]]
      have hck:∀ w',Calls Tryz.prog 91 #[.agg #[aI s.name, .int .i64 s.kind, .int .i64 s.ttl,aI s.data[k]]] w' (bC w' (.int .i64 (aU ⟨s.name,s.kind,s.ttl,s.data[k]⟩))):=fun w'=>BN ⟨s.name,s.kind,s.ttl,s.data[k]⟩ w' hdk;refine_lift CY ?_;intro _ _ _ _ _ _;refine bS aR aR ?_;refine_lift lX ?_;refine GD (v:=.agg #[aI s.name, .int .i64 s.kind, .int .i64 s.ttl,aI s.data[k]]) rfl (fun w' _=>Runs.build rfl (by kernel_rfl)) ?_;refine aD ?_;refine_lift lX ?_;refine eJ (enters_of Tryz.func91 rfl rfl) rfl rfl (fun w' _=>hck w') ?_;refine aD ?_;refine_lift lX ?_;cases hc:decide (aU ⟨s.name,s.kind,s.ttl,s.data[k]⟩=0) with
      | false =>
       have hno:gV s=false:=rY hlt (by rw [hbad];simp at hc;simp [hc]);simp only [Bool.not_false];refine_lift lX ?_;intro w3 x3;refine_lift bR ?_;go_ret;exact ⟨by rw [hno];rfl,x12.trans (hx.trans x3)⟩
      | true =>
       have hc0:aU ⟨s.name,s.kind,s.ttl,s.data[k]⟩=0:=by simpa using hc
       simp only [Bool.not_true];refine_lift lX ?_;by_cases hk0:k=0
       ·have hb0:lI s k=false:=by rw [hbad,hc0];simp [hk0]
        rw [show decide ((0:Int) < (k:Int))=false by simp [hk0]];refine_lift lX ?_;intro w3 x3;refine_lift bR ?_;exact ⟨⟨k + 1,aE,by go_num,hx.trans x3,fun j hj=>by
         rcases Nat.lt_succ_iff_lt_or_eq.1 hj with h | rfl
         ·exact hall j h
         ·exact hb0⟩,by simp [intOf];omega⟩
       ·rw [show decide ((0:Int) < (k:Int))=true by simp;omega];have hq2:Pts wr (dY v (((k:Int) - 1).toNat * 1)) [aI (s.data.getD (k - 1) [])]:=by
         have:=hv3.elem (i:=k - 1) (e:=[aI (s.data.getD (k - 1) [])]) (by rw [gU (show k - 1 < s.data.length by omega)];simp [show k - 1 < s.data.length by omega])
         rwa [show ((k:Int) - 1).toNat=k - 1 by omega]
        refine_lift lX ?_;have hb0:lI s k = !Op.bytesLess (s.data.getD (k - 1) []) s.data[k]:=by rw [hbad,hc0];simp;omega
        intro w3 x3;cases hbl:Op.bytesLess (s.data.getD (k - 1) []) s.data[k] with
        | false =>
         have hno:gV s=false:=rY hlt (by rw [hb0,hbl];rfl);refine_lift lY fun _ => ?_;go_ret;exact ⟨by rw [hno];rfl,x12.trans (hx.trans x3)⟩
        | true =>
         have hb1:lI s k=false:=by rw [hb0,hbl];rfl
         refine_lift lY fun _ => ?_;exact ⟨⟨k + 1,aE,rfl,hx.trans x3,fun j hj=>by
          rcases Nat.lt_succ_iff_lt_or_eq.1 hj with h | rfl
          ·exact hall j h
          ·exact hb1⟩,by simp [intOf];omega⟩
     ·have:k=s.data.length:=aE;subst this;have hyes:gV s=true:=by
       simp only [gV,hb,decide_eq_true hl1,decide_eq_true hl2,Bool.true_and,List.all_eq_true,List.mem_range,Bool.not_eq_true'];exact hall
      refine_lift lY fun _ => ?_;go_ret;exact ⟨by rw [hyes];rfl,x12.trans hx⟩
theorem EU (a b:RSet):lS a b=decide (fA a.name b.name a.kind b.kind < 0):=by
 unfold lS fA LT;by_cases h1:jF a.name b.name < 0
 ·rw [if_pos aE];simp [h1]
 ·by_cases h2:jF a.name b.name=0
  ·simp [h2];by_cases h3:a.kind < b.kind
   ·simp [h3]
   ·simp [h3];split <;> omega
  ·rw [if_pos h2];simp [h1,h2]
theorem SF (v:Value) (l:List RSet) (w:World) (hv:SetsAt w v l) (hd:∀ s ∈ l,∀ d ∈ s.data,d.length≤4611686018427387904):Calls Tryz.prog 154 #[v] w (bC w (.int .i64 (dB l))):=by
 obtain ⟨cv,hv1,hvl⟩:=hv.sl;have hle:=hv1.le;go_enter Tryz.func154,Tryz.ntmps154
 refine_lift OU (fun _ _ _ => ?_) (fun _ => ?_)
 ·go_ret;refine ⟨?_,Ext.refl _⟩;rw [dB,if_pos aE];rfl
 go_loopw [3] (fun i wr=>∃ k:Nat,k≤l.length∧i=.int .i64 k∧Ext w wr∧∀ j,j < k→jT l j=false) (fun i _=>l.length - (intOf i).toNat)
 case atStart=>exact ⟨0,Nat.zero_le _,rfl,Ext.refl _,aE⟩
 case round =>
  obtain ⟨k,hk,rfl,hx,hall⟩:=hrel;have hv2:=hv1.ext hx;by_cases hlt:k < l.length
  ·obtain ⟨x,h1,h1d⟩:=(hv.ext hx).elem (List.getElem?_eq_getElem hlt);have hdk:=hd _ (List.getElem_mem hlt);have hbad:jT l k=(!gV l[k] || (decide (0 < k) && !lS (l.getD (k - 1) default) l[k])):=by
    rw [jT,List.getElem?_eq_getElem hlt,EU];simp only []
    congr 2
    by_cases h:fA (l.getD (k - 1) default).name l[k].name (l.getD (k - 1) default).kind l[k].kind < 0
    ·rw [decide_eq_true h,decide_eq_false aE];rfl
    ·rw [decide_eq_false h,decide_eq_true aE];rfl
   have hck:∀ w',Ext wr w'→Calls Tryz.prog 205 #[.agg #[aI l[k].name, .int .i64 l[k].kind, .int .i64 l[k].ttl,x]] w' (bC w' (.bool (gV l[k]))):=fun w' x'=>YF l[k] x w' (h1d.ext x') hdk;refine_lift CY ?_;intro _ _ _ _ _ _;refine bS aR aR ?_;refine_lift lX ?_;refine eJ (enters_of Tryz.func205 rfl rfl) rfl rfl (fun w' x'=>hck w' x') ?_;refine aD ?_;refine_lift lX ?_;cases hm:gV l[k] with
   | false =>
    have hno:dB l=1:=pU hlt (by rw [hbad,hm];rfl);simp only [Bool.not_false];refine_lift lX ?_;intro w3 x3;refine_lift bR ?_;go_ret;exact ⟨by rw [hno];rfl,hx.trans x3⟩
   | true =>
    simp only [Bool.not_true];refine_lift lX ?_;by_cases hk0:k=0
    ·have hb0:jT l k=false:=by rw [hbad,hm];simp [hk0]
     rw [show decide ((0:Int) < (k:Int))=false by simp [hk0]];refine_lift lX ?_;intro w3 x3;refine_lift bR ?_;exact ⟨⟨k + 1,aE,by go_num,hx.trans x3,fun j hj=>by
      rcases Nat.lt_succ_iff_lt_or_eq.1 hj with h | rfl
      ·exact hall j h
      ·exact hb0⟩,by simp [intOf];omega⟩
    ·rw [show decide ((0:Int) < (k:Int))=true by simp;omega];have hlp:k - 1 < l.length:=aE;obtain ⟨y,h2,h2d⟩:=(hv.ext hx).elem (List.getElem?_eq_getElem hlp);have h2:Pts wr (dY v (((k:Int) - 1).toNat * 4)) [aI l[k - 1].name, .int .i64 l[k - 1].kind, .int .i64 l[k - 1].ttl,y]:=by
      rwa [show ((k:Int) - 1).toNat=k - 1 by omega]
     have hpr:l.getD (k - 1) default=l[k - 1]:=by simp [hlp]
     have hah:∀ w',Calls Tryz.prog 206 #[.agg #[aI l[k - 1].name, .int .i64 l[k - 1].kind, .int .i64 l[k - 1].ttl,y], .agg #[aI l[k].name, .int .i64 l[k].kind, .int .i64 l[k].ttl,x]] w' (bC w' (.bool (lS l[k - 1] l[k]))):=fun w'=>SE l[k - 1] l[k] y x w';refine_lift lX ?_;refine eJ (enters_of Tryz.func206 rfl rfl) rfl rfl (fun w' x'=>hah w') ?_;refine aD ?_;refine_lift lX ?_;intro w3 x3;cases ha:lS l[k - 1] l[k] with
     | false =>
      have hno:dB l=1:=pU hlt (by rw [hbad,hm,hpr,ha];simp;omega);refine_lift lY fun _ => ?_;go_ret;exact ⟨by rw [hno];rfl,hx.trans x3⟩
     | true =>
      have hb0:jT l k=false:=by rw [hbad,hm,hpr,ha];simp
      refine_lift lY fun _ => ?_;exact ⟨⟨k + 1,aE,by go_num,hx.trans x3,fun j hj=>by
       rcases Nat.lt_succ_iff_lt_or_eq.1 hj with h | rfl
       ·exact hall j h
       ·exact hb0⟩,by simp [intOf];omega⟩
  ·have:k=l.length:=aE;subst this;have hyes:dB l=0:=by
    rw [dB,if_neg aE,if_pos];simp only [List.all_eq_true,List.mem_range,Bool.not_eq_true'];exact hall
   refine_lift lY fun _ => ?_;go_ret;exact ⟨by rw [hyes];rfl,hx⟩
theorem Own.nilE:Own B k e w (.slice none 0 0) []:=Own.nil _ _ _ _
theorem NK (s:RSet) (v:Value) (w:World) (hv:Sl 1 w v (aK s.data)) (hb:s.data.length≤1000000):Calls Tryz.prog 160 #[.agg #[aI s.name, .int .i64 s.kind, .int .i64 s.ttl,v]] w (oQ w fun r w'=>∃ x,r=.agg #[aI s.name, .int .i64 s.kind, .int .i64 s.ttl,x]∧Own w.heap.size 1 9 w' x (aK s.data)):=by
 go_enter Tryz.func160,Tryz.ntmps160
 refine_lift DF ?_;intro _ _ _;refine kN (vs:=[aI s.name, .int .i64 s.kind, .int .i64 s.ttl,v]) fun p w1 x1 hp => ?_;refine aD ?_;refine fO (z:=iP) fun w2 x2 s2 h2 => ?_;refine aD ?_;have hp:=hp.ext x2;refine_lift eF fun _ _ => ?_;refine fO (z:=iP) fun w3 x3 s3 h3 => ?_;refine aD ?_;have h2:=x3.at h2;refine dS (v:=.agg #[aI s.name, .int .i64 s.kind, .int .i64 s.ttl,v]) h3 (fI rfl rfl rfl hv.one) fun w4 p4 => ?_;have x04:Ext w w4:=((x1.trans x2).trans x3).move p4.mv (by have:=x1.size;rintro k ⟨⟩;omega);have h2:=p4.at h2 aE;have x24:=cH x3 p4;have hp4:=hp.ext x24;have h4:w4.heap[w2.heap.size]? = some (.cells [aI s.name, .int .i64 s.kind, .int .i64 s.ttl,v].toArray 117 (0,0)):=p4.this;have hz4:=p4.size;clear p4 h3 x3 hp;refine_lift eF fun _ _ => ?_;have s1:=x1.size;refine aZ (v0:=.slice none 0 0) (B:=w4.heap.size) (e:=9) rfl Own.nilE rfl (hv.ext x04) (by simp [aK,aI,Value.oneCell']) (Nat.le_refl _) (by rw [aV];simpa using hb) ?_;intro x w5 o5 m5 k5;have x45:Ext w4 w5:=⟨m5.os,m5.tape,m5.output,m5.size,fun k hk=>m5.block k hk (by simp [Value.ownBlock]),m5.drawn⟩;refine aD ?_;have h2:=x45.at h2;have h4:=x45.at h4;have hp4:=hp4.ext x45;have hp5:=aA h4;refine_lift bR ?_;have o5:Own w4.heap.size 1 9 w5 x (aK s.data):=by simpa using o5
 refine fE (cs:=[aI s.name, .int .i64 s.kind, .int .i64 s.ttl,v]) h4 rfl rfl rfl bP aR o5.one ?_;intro w6 p6;have x46:Ext w w6:=(x04.trans x45).move p6.mv (by have:=x2.size;rintro k ⟨⟩;omega);have h2:=p6.at h2 aE;have o6:Own w4.heap.size 1 9 w6 x (aK s.data):=o5.put p6 aE;have hp6:=aA (cs:=[aI s.name, .int .i64 s.kind, .int .i64 s.ttl,x]) p6.this;clear p6 h4 hp5 hp4;refine_lift eF fun _ _ => ?_;refine dS (v:=.agg #[aI s.name, .int .i64 s.kind, .int .i64 s.ttl,x]) h2 (fI rfl rfl rfl o6.sl.one) fun w7 p7 => ?_;have x7:=cH x46 p7;have o7:Own w4.heap.size 1 9 w7 x (aK s.data):=o6.put p7 aE;refine_lift bR ?_;refine xB (cs:=[aI s.name, .int .i64 s.kind, .int .i64 s.ttl,x]) p7.this ⟨_,rfl,x7,x,rfl,o7.weaken x04.size⟩
theorem pY (v:Value) (l:List RSet) (n:List UInt8) (kd:Int) (w:World) (hv:SetsAt w v l) (hb:∀ s ∈ l,s.data.length≤1000000):Calls Tryz.prog 102 #[v,aI n, .int .i64 kd] w (oQ w fun r w'=>match aY l n kd with
 | some s=>∃ x,r=.tuple #[.agg #[aI s.name, .int .i64 s.kind, .int .i64 s.ttl,x], .bool true]∧Own w.heap.size 1 9 w' x (aK s.data)
 | none=>r=.tuple #[.agg iP.toArray, .bool false]):=by
 obtain ⟨cv,hv1,hvl⟩:=hv.sl;have hle:=hv1.le;go_enter Tryz.func102,Tryz.ntmps102
 refine_lift DF ?_;intro _ _ _;refine fO (z:=iP) fun w2 x2 s2 h2 => ?_;refine aD ?_;refine_lift eF fun _ _ => ?_;go_loopw [8] (fun i wr=>∃ k:Nat,k≤l.length∧i=.int .i64 k∧Ext w2 wr∧(l.take k).find? (OY (fold n) kd)=none) (fun i _=>l.length - (intOf i).toNat)
 case atStart=>exact ⟨0,Nat.zero_le _,rfl,Ext.refl _,rfl⟩
 case round =>
  obtain ⟨k,hk,rfl,hx,hall⟩:=hrel;have hxw:Ext w wr:=x2.trans hx;have hv2:=hv1.ext hxw;have h3:=hx.at h2;by_cases hlt:k < l.length
  ·obtain ⟨x,h4,h4d⟩:=(hv.ext hxw).elem (List.getElem?_eq_getElem hlt);have hbk:=hb _ (List.getElem_mem hlt);refine_lift CY ?_;intro _ _ _ _ _ _;refine bS aR aR ?_;refine_lift lX ?_;refine eJ (enters_of Tryz.func59 rfl rfl) rfl rfl (fun w' _=>mI n w') ?_;refine aD ?_;refine_lift lX ?_;by_cases q1:l[k].name=fold n
   ·rw [decide_eq_true q1];refine_lift lX ?_;intro w5 x5;have h5:=x5.at h3;have hv5:=hv2.ext x5;have hp5:=h4.ext x5;by_cases q2:l[k].kind=kd
    ·have hh:aY l n kd=some l[k]:=GJ hlt hall (by simp [OY,q1,q2]);rw [decide_eq_true q2];refine_lift eF fun _ _ => ?_;refine gE (NK l[k] x _ (h4d.ext x5) hbk) fun r w6 x6 hr => ?_;obtain ⟨y,rfl,oy⟩:=hr;refine aD ?_;have h6:=x6.at h5;have hs5:=hx.size;have hs6:=x5.size;refine dS (v:=.agg #[aI l[k].name, .int .i64 l[k].kind, .int .i64 l[k].ttl,y]) h6 (fI rfl rfl rfl oy.sl.one) fun w7 p7 => ?_;have x7:=cH ((hxw.trans x5).trans x6) p7;have o7:=oy.put p7 aE;refine_lift bR ?_;refine nH (cs:=[aI l[k].name, .int .i64 l[k].kind, .int .i64 l[k].ttl,y]) p7.this ⟨_,rfl,x7,?_⟩;rw [hh];exact ⟨y,rfl,o7.weaken aE⟩
    ·rw [decide_eq_false q2];refine_lift bR ?_;exact ⟨⟨k + 1,aE,by go_num,hx.trans x5,sR hlt hall (by simp [OY,q2])⟩,by simp [intOf];omega⟩
   ·rw [decide_eq_false q1];refine_lift lX ?_;intro w5 x5;refine_lift bR ?_;exact ⟨⟨k + 1,aE,by go_num,hx.trans x5,sR hlt hall (by simp [OY,q1])⟩,by simp [intOf];omega⟩
  ·have:k=l.length:=aE;subst this;have hno:aY l n kd=none:=by rw [List.take_length] at hall;exact hall
   refine_lift DH fun _ _ _ => ?_;refine bZ (v:=.agg iP.toArray) rfl (Runs.build0 (by kernel_rfl)) ?_;refine aD ?_;refine dS (v:=.agg iP.toArray) h3 aR fun w7 p7 => ?_;have x7:=cH hxw p7;refine_lift bR ?_;refine nH (cs:=iP) p7.this ⟨_,rfl,x7,?_⟩;rw [hno];rfl
theorem SG (o:List UInt8) (v:Value) (l:List RSet) (n:List UInt8) (kd:Int) (w:World) (hv:SetsAt w v l) (hb:∀ s ∈ l,s.data.length≤1000000):Calls Tryz.prog 155 #[.agg #[aI o,v],aI n, .int .i64 kd] w (bC w (.bool (aY l n kd).isSome)):=by
 go_enter Tryz.func155,Tryz.ntmps155
 refine_lift mS fun _ _ => ?_;refine kN (vs:=[aI o,v]) fun p w0 x0 hp => ?_;refine aD ?_;have hv1:=hv.ext x0;refine_lift eF fun _ _ => ?_;refine gE (pY v l n kd _ hv1 hb) fun r w1 x1 hr => ?_;cases hf:aY l n kd with
 | none =>
  rw [hf] at hr;obtain rfl:=hr;refine_lift bR ?_;refine fO (z:=iP) fun w2 x2 s2 h2 => ?_;refine aD ?_;refine dS (v:=.agg iP.toArray) h2 aR fun w3 p3 => ?_;have x3:Ext w w3:=((x0.trans x1).trans x2).move p3.mv (by rintro k ⟨⟩;have:=x0.size;have:=x1.size;omega);refine_lift bR ?_;go_ret;exact ⟨by rw [hf];rfl,x3⟩
 | some s =>
  rw [hf] at hr;obtain ⟨x,rfl,ho⟩:=hr;refine_lift bR ?_;refine fO (z:=iP) fun w2 x2 s2 h2 => ?_;refine aD ?_;refine dS (v:=.agg #[aI s.name, .int .i64 s.kind, .int .i64 s.ttl,x]) h2 (fI rfl rfl rfl ho.sl.one) fun w3 p3 => ?_;have x3:Ext w w3:=((x0.trans x1).trans x2).move p3.mv (by rintro k ⟨⟩;have:=x0.size;have:=x1.size;omega);refine_lift bR ?_;go_ret;exact ⟨by rw [hf];rfl,x3⟩
def dW (o:List UInt8):Int:=if (aP o).isSome then 0 else 1
def cB (o:List UInt8) (l:List RSet):Int :=
 if dW o≠0∨fold o≠o∨dB l≠0 then 1 else
 if (aY l o 6).isSome=false∨(aY l o 2).isSome=false then 2 else
 if l.any (fun s => !eM o l s)=true then 2 else 0
theorem BO (o:List UInt8) (v:Value) (l:List RSet) (w:World) (hv:SetsAt w v l) (hb:∀ s ∈ l,s.data.length≤1000000) (hd:∀ s ∈ l,∀ d ∈ s.data,d.length≤4611686018427387904):Calls Tryz.prog 98 #[.agg #[aI o,v]] w (bC w (.int .i64 (cB o l))):=by
 obtain ⟨cv,hv1,hvl⟩:=hv.sl;have hle:=hv1.le;go_enter Tryz.func98,Tryz.ntmps98
 refine_lift mS fun _ _ => ?_;refine kN (vs:=[aI o,v]) fun p w1 x1 hp => ?_;refine aD ?_;refine_lift rS fun _ _ _ _ => ?_;have c1:∀ w',Calls Tryz.prog 89 #[aI o] w' (bC w' (.int .i64 (dW o))):=fun w'=>rU o w';have hv2:=hv.ext x1;have c3:∀ w',Ext w1 w'→Calls Tryz.prog 154 #[v] w' (bC w' (.int .i64 (dB l))):=fun w' x'=>SF v l w' (hv2.ext x') hd;refine bS aR aR ?_;refine_lift lX ?_;refine eJ (enters_of Tryz.func89 rfl rfl) rfl rfl (fun w' _=>c1 w') ?_;refine aD ?_;refine_lift lX ?_;by_cases q1:dW o=0
 ·rw [decide_eq_true q1];simp only [Bool.not_true];refine_lift lX ?_;refine eJ (enters_of Tryz.func59 rfl rfl) rfl rfl (fun w' _=>mI o w') ?_;refine aD ?_;refine_lift lX ?_;by_cases q2:fold o=o
  ·rw [decide_eq_true q2];simp only [Bool.not_true];refine_lift lX ?_;refine eJ (enters_of Tryz.func154 rfl rfl) rfl rfl (fun w' x'=>c3 w' x') ?_;refine aD ?_;refine_lift lX ?_;intro w2 x2;by_cases q3:dB l=0
   ·rw [decide_eq_true q3];simp only [Bool.not_true];refine_lift rS fun _ _ _ _ => ?_;have hx2:=x1.trans x2;have hp2:=hp.ext x2;have hs2:=hv.ext hx2;refine cY (SG o v l o 6 _ hs2 hb) fun w3 x3 => ?_;have hx3:=hx2.trans x3;have hp3:=hp2.ext x3;have hs3:=hs2.ext x3;cases f6:(aY l o 6).isSome with
    | false =>
     refine_lift bR ?_;go_ret;exact ⟨by rw [show cB o l=2 by simp [cB,q1,q2,q3,f6]];rfl,hx3⟩
    | true =>
     refine_lift bR ?_;refine cY (SG o v l o 2 _ hs3 hb) fun w4 x4 => ?_;have hx4:=hx3.trans x4;have hp4:=hp3.ext x4;have hs4:=hs3.ext x4;cases f2:(aY l o 2).isSome with
     | false =>
      refine_lift bR ?_;go_ret;exact ⟨by rw [show cB o l=2 by simp [cB,q1,q2,q3,f6,f2]];rfl,hx4⟩
     | true =>
      refine_lift eF fun _ _ => ?_;go_loopw [3] (fun i wr=>∃ k:Nat,k≤l.length∧i=.int .i64 k∧Ext w4 wr∧(l.take k).any (fun s => !eM o l s)=false) (fun i _=>l.length - (intOf i).toNat)
      case atStart=>exact ⟨0,Nat.zero_le _,rfl,Ext.refl _,rfl⟩
      case round =>
       obtain ⟨k,hk,rfl,hx,hall⟩:=hrel;have hxw:Ext w wr:=hx4.trans hx;have hv5:=hv1.ext hxw;have hp5:=hp4.ext hx;have hs5:=hv.ext hxw;by_cases hlt:k < l.length
       ·obtain ⟨x,h5,h5d⟩:=hs5.elem (List.getElem?_eq_getElem hlt);have c5:∀ w',Ext wr w'→Calls Tryz.prog 156 #[.agg #[aI o,v], .agg #[aI l[k].name, .int .i64 l[k].kind, .int .i64 l[k].ttl,x]] w' (bC w' (.bool (eM o l l[k]))):=fun w' x'=>SD o v l l[k] x w' (hs5.ext x') (h5d.ext x');refine_lift CY ?_;intro _ _ _ _ _ _;refine bS aR aR ?_;refine_lift lX ?_;refine eJ (enters_of Tryz.func156 rfl rfl) rfl rfl (fun w' x'=>c5 w' x') ?_;refine aD ?_;refine_lift lX ?_;intro w6 x6;cases hr:eM o l l[k] with
        | false =>
         refine_lift lY fun _ => ?_;go_ret;exact ⟨by rw [show cB o l=2 by simp only [cB,q1,q2,q3,f6,f2];rw [GL (p:=fun s => !eM o l s) hlt (by simp [hr])];simp];rfl,hxw.trans x6⟩
        | true =>
         refine_lift lY fun _ => ?_;exact ⟨⟨k + 1,aE,by go_num,hx.trans x6,kF hlt hall (by simp [hr])⟩,by simp [intOf];omega⟩
       ·have:k=l.length:=aE;subst this;rw [List.take_length] at hall;refine_lift lY fun _ => ?_;go_ret;exact ⟨by rw [show cB o l=0 by simp only [cB,q1,q2,q3,f6,f2];rw [hall];simp];rfl,hxw⟩
   ·rw [decide_eq_false q3];simp only [Bool.not_false];refine_lift bR ?_;go_ret;exact ⟨by rw [show cB o l=1 by simp [cB,q3]];rfl,x1.trans x2⟩
  ·rw [decide_eq_false q2];simp only [Bool.not_false];refine_lift lX ?_;intro w2 x2;refine_lift bR ?_;go_ret;exact ⟨by rw [show cB o l=1 by simp [cB,q2]];rfl,x1.trans x2⟩
 ·rw [decide_eq_false q1];simp only [Bool.not_false];refine_lift lX ?_;intro w2 x2;refine_lift bR ?_;go_ret;exact ⟨by rw [show cB o l=1 by simp [cB,q1]];rfl,x1.trans x2⟩
theorem TPO.ltt {α:Type} {c:α→α→Int} (h:TPO c) {x y z:α} (h1:c x y < 0) (h2:c y z < 0):c x z < 0:=by
 have h3:=h.tr x y z aE aE;rcases Int.lt_or_eq_of_le h3 with h4 | h4
 ·exact h4
 ·exfalso
  have h5:=(h.eqL h4 (z:=y)).1 aE;have h6:=h.anti y z;omega
theorem JH {l:List RSet} (h:dB l=0):∀ i,i < l.length→jT l i=false:=by
 unfold dB at h;split at h
 ·omega
 ·split at h
  ·rename_i h1;intro i hi;rw [List.all_eq_true] at h1;have:=h1 i (by simpa using hi)
   simpa using this
  ·omega
theorem xS {l:List RSet} (h:dB l=0) (hi:i < l.length):gV l[i]=true:=by
 have:=JH h i hi;rw [jT,List.getElem?_eq_getElem hi] at this;simp only [Bool.or_eq_false_iff,Bool.not_eq_false'] at this;exact this.1
theorem SH {l:List RSet} (h:dB l=0) (hi:i + 1 < l.length):fA l[i].name l[i + 1].name l[i].kind l[i + 1].kind < 0:=by
 have:=JH h (i + 1) hi;rw [jT,List.getElem?_eq_getElem hi] at this;simp only [Bool.or_eq_false_iff,Bool.and_eq_false_iff,decide_eq_false_iff_not] at this;have h2:=this.2.resolve_left aE;have e:l.getD (i + 1 - 1) default=l[i]:=by simp [show i < l.length by omega]
 rw [e] at h2;omega
theorem kH {l:List RSet} (h:dB l=0) (i:Nat):∀ j (hj:i < j) (hl:j < l.length),fA l[i].name l[j].name l[i].kind l[j].kind < 0
 | 0,hj,_=>by omega
 | j + 1,hj,hl=>by
   have h1:=SH h hl;by_cases e:i=j
   ·subst e;exact h1
   ·have h2:=kH h i j aE aE;exact kV.ltt (x:=(l[i].name,l[i].kind)) (y:=(l[j].name,l[j].kind)) (z:=(l[j + 1].name,l[j + 1].kind)) h2 h1
theorem JI {s:RSet} (h:gV s=true):fold s.name=s.name:=by
 simp only [gV,Bool.and_eq_true,decide_eq_true_eq] at h;exact h.1.1.1
theorem sU {l:List RSet} (h:dB l=0) (hi:i < l.length):aY l l[i].name l[i].kind=some l[i]:=by
 have hf:=JI (xS h hi);refine GJ hi ?_ (by simp [OY,hf]);rw [List.find?_eq_none];intro x hx hh;obtain ⟨j,hj,rfl⟩:=List.getElem_of_mem hx;have hj':j < i:=by rw [List.length_take] at hj;omega
 rw [List.getElem_take] at hh;simp only [OY,hf,Bool.and_eq_true,decide_eq_true_eq] at hh;have h1:=kH h j i hj' hi;rw [hh.1,hh.2] at h1;have h2:=kV.refl (l[i].name,l[i].kind);simp only at h2;omega
def iC (o n:List UInt8) (s:RSet):Bool:=decide (s.kind=2) && decide (s.name≠o) && bO n s.name
def eX (o:List UInt8) (l:List RSet) (n:List UInt8):List UInt8 × Bool:=match l.find? (iC o n) with
 | some s=>(s.name,true)
 | none=>([],false)
theorem BP {b:List UInt8 × Bool} {s:RSet} (h:iC o n s=false):kG o n b s=b:=by
 unfold kG;rw [if_neg];rintro ⟨h1,h2,h3,_⟩;simp [iC,h1,h2,h3] at h
theorem JJ {s:RSet} (h:iC o n s=true):kG o n (m,false) s=(s.name,true):=by
 simp only [iC,Bool.and_eq_true,decide_eq_true_eq] at h;unfold kG;rw [if_pos ⟨h.1.1,h.1.2,h.2, .inl rfl⟩]
theorem GR {s:RSet} (h:iC o n s=true→iZ m≤iZ s.name):kG o n (m,true) s=(m,true):=by
 cases hc:iC o n s with
 | false=>exact BP hc
 | true =>
  have:=h hc;unfold kG;rw [if_neg];rintro ⟨_,_,_,h4⟩;rcases h4 with h4 | h4
  ·cases h4
  ·simp only at h4;omega
theorem EV:∀ {l:List RSet},(∀ t ∈ l,iC o n t=true→iZ m≤iZ t.name)→l.foldl (kG o n) (m,true)=(m,true)
 | [],_=>rfl
 | t :: l,h=>by
   rw [List.foldl_cons,GR (h t bP),EV fun u hu=>h u (by simp [hu])]
theorem EW:∀ {l:List RSet},l.Pairwise (fun s t=>iC o n s=true→iC o n t=true→iZ s.name≤iZ t.name)→mL o l n=eX o l n
 | [],_=>rfl
 | t :: l,h=>by
   obtain ⟨h1,h2⟩:=List.pairwise_cons.1 h;unfold mL eX;rw [List.foldl_cons,List.find?_cons];cases hc:iC o n t with
   | true=>simp only [JJ hc];exact EV fun u hu=>h1 u hu hc
   | false=>simp only [BP hc];exact EW h2
theorem yW {a:List (List UInt8)} (h:dI n=some a):iZ n=a.length:=by
 rw [gW] at h;cases hl:aP n with
 | none=>rw [hl] at h;cases h
 | some ls =>
  rw [hl] at h;cases h
  simp [iZ,hl]
theorem jA (h:bO n t=true):∃ a b,dI n=some a∧dI t=some b∧a.take b.length=b:=by
 unfold bO at h;cases ha:dI n with
 | none=>rw [ha] at h;cases h
 | some a =>
  cases hb:dI t with
  | none=>rw [ha,hb] at h;cases h
  | some b =>
   rw [ha,hb] at h;exact ⟨a,b,rfl,rfl,by simpa using h⟩
theorem mV {a b:List (List UInt8)} (ha:dI n=some a) (hb:dI t=some b):bO n t=decide (a.take b.length=b):=by
 unfold bO;rw [ha,hb]
theorem sA {α:Type} {a b:List α} (h:a.take b.length=b):b.length≤a.length:=by
 have:=congrArg List.length h;rw [List.length_take] at this;omega
theorem MD {a b c:List (List UInt8)} (hb:a.take b.length=b) (hc:a.take c.length=c) (h:jE b c≤0):b.length≤c.length:=by
 have e:jE b c=if b.length < c.length then -1 else if c.length < b.length then 1 else 0:=by
  rcases Nat.le_total b.length c.length with hl | hl
  ·refine vW (k:=b.length) ?_ (Nat.le_refl _) hl (.inl rfl);rw [List.take_length,← hc,List.take_take,Nat.min_eq_left hl,hb]
  ·refine vW (k:=c.length) ?_ hl (Nat.le_refl _) (.inr rfl);rw [List.take_length,← hb,List.take_take,Nat.min_eq_left hl,hc]
 rw [e] at h;split at h
 ·omega
 ·split at h <;> omega
theorem SI {a b:List UInt8} {j k:Int} (h:fA a b j k < 0):jF a b≤0:=by
 unfold fA at h;split at h <;> omega
theorem xT {l:List RSet} (h:dB l=0) (n:List UInt8):mL o l n=eX o l n:=by
 refine EW ?_;rw [List.pairwise_iff_getElem];intro i j hi hj hij h1 h2;have hc:=SI (kH h i j hij hj);simp only [iC,Bool.and_eq_true] at h1 h2;obtain ⟨a,b,ha,hb,e1⟩:=jA h1.2;obtain ⟨a',c,ha',hc',e2⟩:=jA h2.2;rw [ha] at ha';cases ha'
 rw [yW hb,yW hc'];refine MD e1 e2 ?_;unfold jF at hc;rw [hb,hc'] at hc;exact hc
theorem oA:(dI n).isSome=(aP n).isSome:=by
 rw [gW];cases aP n <;> rfl
theorem pZ (h:(aP n).isSome=true):bO n n=true:=by
 rw [← oA] at h;obtain ⟨a,ha⟩:=Option.isSome_iff_exists.1 h;rw [mV ha ha];simp
theorem JK {a b c:List UInt8} (h:bO a b=true) (k:bO b c=true):bO a c=true:=by
 obtain ⟨x,y,hx,hy,e1⟩:=jA h;obtain ⟨y',z,hy',hz,e2⟩:=jA k;rw [hy] at hy';cases hy'
 have hl:=sA e2;rw [mV hx hz,decide_eq_true_eq];rw [← e1,List.take_take,Nat.min_eq_left hl] at e2;exact e2
theorem mM {a b:List UInt8} (h:bO a b=true):(aP a).isSome=true∧(aP b).isSome=true:=by
 obtain ⟨x,y,hx,hy,_⟩:=jA h;rw [← oA,← oA,hx,hy];exact ⟨rfl,rfl⟩
structure ZoneOk (o:List UInt8) (l:List RSet):Prop where
 lab:(aP o).isSome=true
 fold:fold o=o
 chk:dB l=0
 soa:(aY l o 6).isSome=true
 ns:(aY l o 2).isSome=true
 right:∀ s ∈ l,eM o l s=true
theorem kI {l:List RSet} (h:cB o l=0):ZoneOk o l:=by
 unfold cB at h;split at h
 ·cases h
 ·rename_i h1;split at h
  ·cases h
  ·rename_i h2;split at h
   ·cases h
   ·rename_i h3;simp only [not_or,ne_eq,Decidable.not_not,Bool.not_eq_false] at h1 h2;refine ⟨?_,h1.2.1,h1.2.2,h2.1,h2.2,fun s hs => ?_⟩
    ·have:=h1.1;unfold dW at this;split at this
     ·assumption
     ·cases this
    ·cases hr:eM o l s with
     | true=>rfl
     | false=>exact absurd (List.any_eq_true.2 ⟨s,hs,by simp [hr]⟩) h3
theorem nL {l:List RSet} (h:ZoneOk o l):cB o l=0:=by
 obtain ⟨h1,h2,h3,h4,h5,h6⟩:=h;have h7:l.any (fun s => !eM o l s)=false:=by
  rw [List.any_eq_false];intro s hs;simp [h6 s hs]
 unfold cB dW;simp [h1,h2,h3,h4,h5,h7]
theorem yX {l:List RSet} {s:RSet} (h:eM o l s=true):bO s.name o=true:=by
 simp only [eM,Bool.and_eq_true] at h;exact h.1.1.1
theorem ZoneOk.may {l:List RSet} (h:ZoneOk o l) {s:RSet} (hs:s ∈ l):gV s=true:=by
 obtain ⟨i,hi,rfl⟩:=List.getElem_of_mem hs;exact xS h.chk hi
theorem ZoneOk.small {l:List RSet} (h:ZoneOk o l) {s:RSet} (hs:s ∈ l):X.fold s.name=s.name∧(aP s.name).isSome=true :=
 ⟨JI (h.may hs),(mM (yX (h.right s hs))).1⟩
theorem ZoneOk.there {l:List RSet} (h:ZoneOk o l) {s:RSet} (hs:s ∈ l):pX o l s.name=true:=by
 simp only [pX,Bool.and_eq_true,List.any_eq_true];exact ⟨yX (h.right s hs),s,hs,pZ (h.small hs).2⟩
theorem kW {l:List RSet} {k:Int} {s:RSet} (h:aY l n k=some s):s ∈ l∧s.name=fold n∧s.kind=k:=by
 have h1:=List.mem_of_find?_eq_some h;have h2:=List.find?_some h;simp only [OY,Bool.and_eq_true,decide_eq_true_eq] at h2;exact ⟨h1,h2⟩
theorem ZoneOk.origin {l:List RSet} (h:ZoneOk o l):pX o l o=true:=by
 obtain ⟨s,hs⟩:=Option.isSome_iff_exists.1 h.soa;obtain ⟨h1,h2,h3⟩:=kW hs;have:=h.there h1
 rwa [h2,h.fold] at this
theorem JL (ls:List (List UInt8)) (i:Nat):(enc (ls.drop i)).length≤(enc ls).length:=by
 conv=>rhs;rw [← List.take_append_drop i ls,nI]
 simp
theorem ZoneOk.cut {l:List RSet} (h:ZoneOk o l) {c:List UInt8} (hc:mL o l n=(c,true)):bO n c=true∧c≠o∧mL o l c=(c,true):=by
 rw [xT h.chk,eX] at hc;rw [xT h.chk,eX];cases hf:l.find? (iC o n) with
 | none=>rw [hf] at hc;cases hc
 | some s =>
  rw [hf] at hc;simp only [Prod.mk.injEq,and_true] at hc;subst hc;obtain ⟨h1,la,lb,h2,h3⟩:=List.find?_eq_some_iff_append.1 hf;have hs:s ∈ l:=by rw [h2];simp
  have h1':=h1;simp only [iC,Bool.and_eq_true,decide_eq_true_eq] at h1';refine ⟨h1'.2,h1'.1.2,?_⟩;have:l.find? (iC o s.name)=some s:=by
   rw [List.find?_eq_some_iff_append];refine ⟨?_,la,lb,h2,fun t ht => ?_⟩
   ·simp only [iC,Bool.and_eq_true,decide_eq_true_eq];exact ⟨h1'.1,pZ (h.small hs).2⟩
   ·have hn:=h3 t ht;cases hq:iC o s.name t with
    | false=>rfl
    | true =>
     simp only [iC,Bool.and_eq_true,decide_eq_true_eq] at hq;have:iC o n t=true:=by
      simp only [iC,Bool.and_eq_true,decide_eq_true_eq];exact ⟨hq.1,JK h1'.2 hq.2⟩
     rw [this] at hn;exact hn
  rw [this]
theorem JM (m:List UInt8):Lib.hasSuffix (m ++ [0]) [0]=true∧Lib.trimSuffix (m ++ [0]) [0]=m:=by
 have h:Lib.hasSuffix (m ++ [0]) [0]=true:=by
  unfold Lib.hasSuffix;rw [List.isSuffixOf_iff_suffix];exact List.suffix_append _ _
 refine ⟨h,?_⟩;unfold Lib.trimSuffix;rw [if_pos h];simp
theorem uK (h:fX s=some m):s=m ++ [0]∧(aP m).isSome=true:=by
 unfold fX at h;split at h
 ·rename_i hh;obtain ⟨h1,h2⟩:=hh;unfold Lib.hasSuffix at h1;rw [List.isSuffixOf_iff_suffix] at h1;obtain ⟨t,rfl⟩:=h1;obtain ⟨_,h3⟩:=JM t;rw [h3] at h h2;cases h
  exact ⟨rfl,h2⟩
 ·cases h
theorem VM (u v:Value) (a b:List (List UInt8)) (w:World) (hu:Sl 1 w u (aK a)) (hv:Sl 1 w v (aK b)):Calls Tryz.prog 137 #[u,v] w (bC w (.bool (decide (a=b)))):=by
 have hal:=hu.le;have ha:=aV a;have hb:=aV b;go_enter Tryz.func137,Tryz.ntmps137
 (repeat' first | ((with_reducible refine cQ ?_);go_step) | ((with_reducible refine bM ?_);first | refine fN ?_ | (refine cV ?_ ?_ <;> intro hc)) | fail)
 ·have hne:=‹(!decide (((aK a).length:Int)=((aK b).length:Int)))=true›;go_ret;refine ⟨?_,Ext.refl _⟩;have:a≠b:=by rintro rfl;simp at hne
  simp [this]
 ·have hne:=‹(!decide (((aK a).length:Int)=((aK b).length:Int)))=false›;have hlen:a.length=b.length:=by simp at hne;omega
  go_loopw [5,13] (fun _ i wr=>∃ k:Nat,k≤a.length∧i=.int .i64 k∧Ext w wr∧a.take k=b.take k) (fun _ i _=>a.length - (intOf i).toNat)
  case atStart=>exact ⟨0,Nat.zero_le _,rfl,Ext.refl _,rfl⟩
  case round =>
   obtain ⟨k,hk,rfl,hx,hall⟩:=hrel;by_cases hlt:k < a.length
   ·have hlt2:k < b.length:=aE;have h1:=(hu.ext hx).elem (gU hlt);have h2:=(hv.ext hx).elem (gU hlt2);have hu2:=hu.ext hx;have hv2:=hv.ext hx;refine_lift CY ?_;intro _ _ _ _ _ _;refine dV (S:=Ext wr) aR ?_;intro w2 x2 _;refine tk 0 ?_;refine aD ?_;refine tk 1 ?_;refine aD ?_;refine tk 2 ?_;refine aD ?_;refine tk 3 ?_;refine aD ?_;refine tk 4 ?_;refine aD ?_;refine tk 5 ?_;refine aD ?_;refine tk 6 ?_;refine aD ?_;refine tk 7 ?_;refine aD ?_;refine tk 8 ?_;refine aD ?_;refine dR aR ?_;by_cases he:a[k]=b[k]
    ·have e1:decide (a[k]=b[k])=true:=decide_eq_true he;simp only [e1,Bool.not_true];refine_lift bR ?_;exact ⟨⟨k + 1,aE,by go_num,by exact gH,pT hall hlt hlt2 he⟩,by simp [intOf];omega⟩
    ·have e1:decide (a[k]=b[k])=false:=decide_eq_false he;simp only [e1,Bool.not_false];refine_lift bR ?_;go_ret;refine ⟨?_,by exact gH⟩;simp [RT hlt hlt2 he]
   ·have hk2:k=a.length:=aE;subst hk2;refine_lift lY fun _ => ?_;go_ret;refine ⟨?_,by exact gH⟩;rw [List.take_length,hlen,List.take_length] at hall;simp [hall]
theorem vY (n t:List UInt8) (w:World):Calls Tryz.prog 79 #[aI n,aI t] w (bC w (.bool (bO n t))):=by
 go_enter Tryz.func79,Tryz.ntmps79
 refine_lift eF fun _ _ => ?_;refine gE (ZK n _) fun r1 w1 x1 h1 => ?_;cases ha:dI n with
 | none =>
  rw [ha] at h1;obtain ⟨s1,rfl⟩:=h1;refine_lift eF fun _ _ => ?_;refine gE (ZK t _) fun r2 w2 x2 h2 => ?_;obtain ⟨s2,b2,rfl⟩:∃ s b,r2=.tuple #[s, .bool b]:=by
   cases hb:dI t with
   | none=>rw [hb] at h2;obtain ⟨s,rfl⟩:=h2;exact ⟨s,_,rfl⟩
   | some y=>rw [hb] at h2;obtain ⟨s,rfl,_⟩:=h2;exact ⟨s,_,rfl⟩
  refine_lift bR ?_;go_ret;exact ⟨by simp [bO,ha],x1.trans x2⟩
 | some a =>
  rw [ha] at h1;obtain ⟨s1,rfl,hs1,hl1⟩:=h1;refine_lift eF fun _ _ => ?_;refine gE (ZK t _) fun r2 w2 x2 h2 => ?_;cases hb:dI t with
  | none =>
   rw [hb] at h2;obtain ⟨s2,rfl⟩:=h2;refine_lift bR ?_;go_ret;exact ⟨by simp [bO,ha,hb],x1.trans x2⟩
  | some b =>
   rw [hb] at h2;obtain ⟨s2,rfl,hs2,hl2⟩:=h2;have hs1:=hs1.ext x2;have tl1:=aV a;have tl2:=aV b;refine_lift RL (fun hc => ?_) (fun _ _ hc => ?_)
   ·have hle:b.length≤a.length:=aE;have hcut:=hs1.cut (m:=0) (n:=(aK b).length) (Nat.zero_le _) aE;rw [List.drop_zero] at hcut;have hcut:Sl 1 w2 (dG s1 1 0 (aK b).length) (aK (a.take b.length)):=by
     rw [tl2] at hcut ⊢
     simpa [aK,List.map_take] using hcut
    refine cY (VM _ _ _ _ _ hcut hs2) fun w3 x3 => ?_;refine_lift bR ?_;go_ret;exact ⟨by rw [mV ha hb];rfl,(x1.trans x2).trans x3⟩
   ·go_ret;refine ⟨?_,x1.trans x2⟩;have hlt:a.length < b.length:=aE;rw [mV ha hb,decide_eq_false (fun h=>by have:=sA h;omega)];rfl
def rA {α:Type} (p:α→Bool) (l:List α):Int:=match l.findIdx? p with
 | some i=>(i:Int)
 | none=>-1
theorem sV {α:Type} (p:α→Bool) (l:List α):(∃ (k:Nat) (hk:k < l.length),rA p l=k∧p l[k]=true∧l.find? p=some l[k])∨(rA p l=-1∧l.any p=false∧l.find? p=none):=by
 unfold rA;cases h:l.findIdx? p with
 | none =>
  rw [List.findIdx?_eq_none_iff] at h;refine .inr ⟨rfl,?_,?_⟩
  ·rw [List.any_eq_false];intro x hx;simp [h x hx]
  ·rw [List.find?_eq_none];intro x hx;simp [h x hx]
 | some k =>
  rw [List.findIdx?_eq_some_iff_getElem] at h;obtain ⟨hk,hp,hj⟩:=h;refine .inl ⟨k,hk,rfl,hp,?_⟩;rw [List.find?_eq_some_iff_getElem];exact ⟨hp,k,hk,rfl,fun j hjk=>by simpa using hj j hjk⟩
theorem GT {α:Type} {p:α→Bool} {l:List α} (hk:k < l.length) (ha:(l.take k).any p=false) (hp:p l[k]=true):rA p l=k:=by
 have:l.findIdx? p=some k:=by
  rw [List.findIdx?_eq_some_iff_getElem];refine ⟨hk,hp,fun j hj => ?_⟩;rw [List.any_eq_false] at ha;exact ha l[j] (by rw [List.mem_take_iff_getElem];exact ⟨j,aE,rfl⟩)
 rw [rA,this]
theorem GW {α:Type} {p:α→Bool} {l:List α} (ha:l.any p=false):rA p l=-1:=by
 have:l.findIdx? p=none:=by
  rw [List.findIdx?_eq_none_iff];intro x hx;rw [List.any_eq_false] at ha
  simpa using ha x hx
 rw [rA,this]
theorem zY {α:Type} (p:α→Bool) (l:List α):decide (0≤rA p l)=l.any p:=by
 rcases sV p l with ⟨k,hk,e,hp,_⟩ | ⟨e,h,_⟩
 ·rw [e,GL hk hp];simp
 ·rw [e,h];rfl
def SetFn (w:World) (f:FuncId) (caps:Array Value) (l:List RSet) (p:RSet→Bool):Prop :=
 ∀ s ∈ l,∀ x w',Ext w w'→Sl 1 w' x (aK s.data)→Calls Tryz.prog f ([Value.agg #[aI s.name, .int .i64 s.kind, .int .i64 s.ttl,x]].toArray ++ caps) w' (bC w' (.bool (p s)))
theorem SetFn.ext {f:FuncId} {caps:Array Value} {l:List RSet} {p:RSet→Bool} (h:SetFn w f caps l p) (hx:Ext w w1):SetFn w1 f caps l p :=
 fun s hs x w' hx' hd=>h s hs x w' (hx.trans hx') hd
theorem oD (v:Value) (l:List RSet) (f:FuncId) (caps:Array Value) (p:RSet→Bool) (w:World) (hv:SetsAt w v l) (he:Enters Tryz.prog f) (hf:SetFn w f caps l p):Calls Tryz.prog 124 #[v, .func (.func f) #[] caps] w (bC w (.int .i64 (rA p l))):=by
 obtain ⟨cv,hv1,hvl⟩:=hv.sl;have hle:=hv1.le;go_enter Tryz.func124,Tryz.ntmps124
 refine_lift eF fun _ _ => ?_;go_loopw [5,8] (fun _ i wr=>∃ k:Nat,k≤l.length∧i=.int .i64 k∧Ext w wr∧(l.take k).any p=false) (fun _ i _=>l.length - (intOf i).toNat)
 case atStart=>exact ⟨0,Nat.zero_le _,rfl,Ext.refl _,rfl⟩
 case round =>
  obtain ⟨k,hk,rfl,hx,hall⟩:=hrel;have hv2:=hv1.ext hx;by_cases hlt:k < l.length
  ·obtain ⟨x,h4,h4d⟩:=(hv.ext hx).elem (List.getElem?_eq_getElem hlt);refine_lift CY ?_;intro _ _ _ _ _ _;refine gT he rfl rfl rfl (hf _ (List.getElem_mem hlt) x _ hx h4d) ?_;rintro e w2 ⟨rfl,x2⟩;refine ⟨_,rfl,?_⟩;refine aD ?_;cases hp:p l[k] with
   | true =>
    refine_lift bR ?_;go_ret;exact ⟨by rw [GT hlt hall hp];rfl,hx.trans x2⟩
   | false =>
    refine_lift bR ?_;exact ⟨⟨k + 1,aE,by go_num,hx.trans x2,kF hlt hall hp⟩,by simp [intOf];omega⟩
  ·have:k=l.length:=aE;subst this;rw [List.take_length] at hall;refine_lift lY fun _ => ?_;go_ret;exact ⟨by rw [GW hall];rfl,hx⟩
theorem nM (v:Value) (l:List RSet) (f:FuncId) (caps:Array Value) (p:RSet→Bool) (w:World) (hv:SetsAt w v l) (he:Enters Tryz.prog f) (hf:SetFn w f caps l p):Calls Tryz.prog 71 #[v, .func (.func f) #[] caps] w (bC w (.bool (l.any p))):=by
 go_enter Tryz.func71,Tryz.ntmps71
 refine_lift eF fun _ _ => ?_;refine cY (oD v l f caps p _ hv he hf) fun w1 x1 => ?_;refine_lift bR ?_;go_ret;exact ⟨by rw [← zY];rfl,x1⟩
theorem YG (o n:List UInt8) (v pz pn:Value) (s:RSet) (x:Value) (w:World) (hz:Pts w pz [aI o,v]) (hn:Pts w pn [aI n]):Calls Tryz.prog 190 #[.agg #[aI s.name, .int .i64 s.kind, .int .i64 s.ttl,x],pz,pn] w (bC w (.bool (iC o n s))):=by
 go_enter Tryz.func190,Tryz.ntmps190
 refine_lift mS fun _ _ => ?_;refine kN (vs:=[aI s.name, .int .i64 s.kind, .int .i64 s.ttl,x]) fun p w1 x1 hp => ?_;refine aD ?_;have hz1:=hz.ext x1;have hn1:=hn.ext x1;refine_lift IW (fun hc hc => ?_) (fun hc => ?_) (fun _ _ hc hc => ?_)
 ·have hk:=‹s.kind=2›;have hne:=‹(!decide (s.name=o))=true›;refine cY (vY n s.name _) fun w2 x2 => ?_;refine_lift bR ?_;go_ret;refine ⟨?_,x1.trans x2⟩;have hne':s.name≠o:=by simpa using hne
  simp [iC,hk,hne']
 all_goals
  go_ret;refine ⟨?_,x1⟩;simp_all [iC]
theorem XF (o:List UInt8) (v:Value) (l:List RSet) (n:List UInt8) (w:World) (hv:SetsAt w v l):Calls Tryz.prog 130 #[.agg #[aI o,v],aI n] w (bC w (.tuple #[aI (eX o l n).1, .bool (eX o l n).2])):=by
 obtain ⟨cv,hv1,hvl⟩:=hv.sl;go_enter Tryz.func130,Tryz.ntmps130
 refine_lift mS fun _ _ => ?_;refine kN (vs:=[aI o,v]) fun pz w1 x1 hz => ?_;refine aD ?_;refine_lift ZJ ?_;refine kN (vs:=[aI n]) fun pn w2 x2 hn => ?_;refine aD ?_;have hx2:=x1.trans x2;have hz2:=hz.ext x2;refine_lift eF fun _ _ => ?_;have hf:SetFn w2 190 #[pz,pn] l (iC o n):=fun s _ x w' hx' _=>YG o n v pz pn s x w' (hz2.ext hx') (hn.ext hx');refine cY (oD v l 190 #[pz,pn] (iC o n) _ (hv.ext hx2) (enters_of Tryz.func190 rfl rfl) hf) fun w3 x3 => ?_;have hx3:=hx2.trans x3;have hz3:=hz2.ext x3;rcases sV (iC o n) l with ⟨k,hk,e,hp,hfi⟩ | ⟨e,h,hfi⟩
 ·rw [e];obtain ⟨x,h4,h4d⟩:=(hv.ext hx3).elem (List.getElem?_eq_getElem hk);have hv3:=hv1.ext hx3;refine_lift lY fun _ => ?_;go_ret2;exact ⟨by simp only [eX,hfi];rfl,hx3⟩
 ·rw [e];refine_lift lY fun _ => ?_;go_ret2;exact ⟨by simp only [eX,hfi];rfl,hx3⟩
def Rule (w:World) (f:Value) (b:Bool):Prop:=∃ (g:FuncId) (caps:Array Value),f=.func (.func g) #[] caps∧Enters Tryz.prog g∧∀ w',Ext w w'→Calls Tryz.prog g (([]:List Value).toArray ++ caps) w' (bC w' (.bool b))
theorem SJ (o:List UInt8) (v ps pz:Value) (s:RSet) (u:Value) (w:World) (hs:Pts w ps [aI s.name, .int .i64 s.kind, .int .i64 s.ttl,u]) (hz:Pts w pz [aI o,v]):Calls Tryz.prog 125 #[ps,pz] w (bC w (.bool (bO s.name o))):=by
 go_enter Tryz.func125,Tryz.ntmps125
 refine_lift eF fun _ _ => ?_;refine cY (vY s.name o _) fun w1 x1 => ?_;refine_lift bR ?_;go_ret;exact ⟨rfl,x1⟩
def JN (o:List UInt8) (s:RSet) (one:Bool):Bool:=decide (s.kind≠6) || (decide (s.name=o) && one)
theorem SK (o:List UInt8) (v ps pz pb:Value) (s:RSet) (u:Value) (one:Bool) (w:World) (hs:Pts w ps [aI s.name, .int .i64 s.kind, .int .i64 s.ttl,u]) (hz:Pts w pz [aI o,v]) (hb:Pts w pb [.bool one]):Calls Tryz.prog 126 #[ps,pz,pb] w (bC w (.bool (JN o s one))):=by
 go_enter Tryz.func126,Tryz.ntmps126
 refine_lift RK (fun hc hc => ?_) (fun hc => ?_) (fun hc hc => ?_)
 all_goals
  go_ret;refine ⟨?_,Ext.refl _⟩;simp_all [JN]
theorem PG (ps:Value) (s t:RSet) (u x:Value) (w:World) (hs:Pts w ps [aI s.name, .int .i64 s.kind, .int .i64 s.ttl,u]):Calls Tryz.prog 128 #[.agg #[aI t.name, .int .i64 t.kind, .int .i64 t.ttl,x],ps] w (bC w (.bool (nK s t))):=by
 go_enter Tryz.func128,Tryz.ntmps128
 refine_lift mS fun _ _ => ?_;refine kN (vs:=[aI t.name, .int .i64 t.kind, .int .i64 t.ttl,x]) fun p w1 x1 hp => ?_;refine aD ?_;have hs1:=hs.ext x1;refine_lift DG (fun hc => ?_) (fun hc => ?_)
 all_goals
  go_ret;refine ⟨?_,x1⟩;simp_all [nK]
def BQ (l:List RSet) (s:RSet) (one:Bool):Bool:=decide (s.kind≠5) || (one && !l.any (nK s))
theorem SL (o:List UInt8) (v ps pz pb:Value) (l:List RSet) (s:RSet) (u:Value) (one:Bool) (w:World) (hs:Pts w ps [aI s.name, .int .i64 s.kind, .int .i64 s.ttl,u]) (hz:Pts w pz [aI o,v]) (hb:Pts w pb [.bool one]) (hv:SetsAt w v l):Calls Tryz.prog 127 #[ps,pb,pz] w (bC w (.bool (BQ l s one))):=by
 have hf:SetFn w 128 #[ps] l (nK s):=fun t _ x w' hx' _=>PG ps s t u x w' (hs.ext hx');go_enter Tryz.func127,Tryz.ntmps127
 cases one with
 | false =>
  refine_lift DG (fun hc => ?_) (fun hc => ?_)
  all_goals
   go_ret;refine ⟨?_,Ext.refl _⟩;simp_all [BQ]
 | true =>
  refine_lift RL (fun hc => ?_) (fun _ _ hc => ?_)
  ·have h5:s.kind=5:=by simpa using (by assumption:(!decide (s.kind=5))=false)
   refine cY (nM v l 128 #[ps] (nK s) _ hv (enters_of Tryz.func128 rfl rfl) hf) fun w1 x1 => ?_;refine_lift bR ?_;go_ret;exact ⟨by simp [BQ,h5],x1⟩
  all_goals
   go_ret;refine ⟨?_,Ext.refl _⟩;simp_all [BQ]
def yY (o:List UInt8) (l:List RSet) (s:RSet):Bool :=
 !(eX o l s.name).2 || decide (s.kind=1) || decide (s.kind=28) || (decide (s.kind=2) && decide (s.name=(eX o l s.name).1))
theorem SM (o:List UInt8) (v ps pz:Value) (l:List RSet) (s:RSet) (u:Value) (w:World) (hs:Pts w ps [aI s.name, .int .i64 s.kind, .int .i64 s.ttl,u]) (hz:Pts w pz [aI o,v]) (hv:SetsAt w v l):Calls Tryz.prog 129 #[pz,ps] w (bC w (.bool (yY o l s))):=by
 go_enter Tryz.func129,Tryz.ntmps129
 refine_lift eF fun _ _ => ?_;refine cY (XF o v l s.name _ hv) fun w1 x1 => ?_;generalize hcut:eX o l s.name=g at *;obtain ⟨c,is⟩:=g;have hs1:=hs.ext x1;cases is with
 | false =>
  refine_lift bR ?_;go_ret;exact ⟨by simp [yY,hcut],x1⟩
 | true =>
  (repeat' first | ((with_reducible refine cQ ?_);go_step) | ((with_reducible refine bM ?_);first | refine fN ?_ | (refine cV ?_ ?_ <;> intro hc)) | fail)
  all_goals
   go_ret;refine ⟨?_,x1⟩;simp_all [yY]
theorem SN (f:Value) (b:Bool) (w:World) (hf:Rule w f b):Calls Tryz.prog 132 #[f] w (bC w (.bool (!b))):=by
 obtain ⟨g,caps,rfl,he,hc⟩:=hf;go_enter Tryz.func132,Tryz.ntmps132
 refine_lift eF fun _ _ => ?_;refine gT he rfl rfl rfl (hc _ (Ext.refl _)) ?_;rintro e w1 ⟨rfl,x1⟩;refine ⟨_,rfl,?_⟩;refine aD ?_;refine_lift bR ?_;go_ret;exact ⟨rfl,x1⟩
theorem Rule.ext {f:Value} {b:Bool} (h:Rule w f b) (hx:Ext w w'):Rule w' f b:=by
 obtain ⟨g,caps,h1,h2,h3⟩:=h;exact ⟨g,caps,h1,h2,fun w2 hx2=>h3 w2 (hx.trans hx2)⟩
def uL (l:List (Value × Bool)):List (List Value):=l.map fun x=>[x.1]
theorem DJ (l:List (Value × Bool)):(uL l).length=l.length:=by simp [uL]
theorem PI {l:List (Value × Bool)} (h:k < l.length):(uL l)[k]? = some [l[k].1]:=by simp [uL,h]
def PJ (x:Value × Bool):Bool := !x.2
theorem JO (v:Value) (l:List (Value × Bool)) (w:World) (hv:Sl 1 w v (uL l)) (hf:∀ x ∈ l,Rule w x.1 x.2):Calls Tryz.prog 191 #[v, .func (.func 132) #[] #[]] w (bC w (.int .i64 (rA PJ l))):=by
 have hle:=hv.le;have hlen:=DJ l;go_enter Tryz.func191,Tryz.ntmps191
 refine_lift eF fun _ _ => ?_;go_loopw [5,8] (fun _ i wr=>∃ k:Nat,k≤l.length∧i=.int .i64 k∧Ext w wr∧(l.take k).any PJ=false) (fun _ i _=>l.length - (intOf i).toNat)
 case atStart=>exact ⟨0,Nat.zero_le _,rfl,Ext.refl _,rfl⟩
 case round =>
  obtain ⟨k,hk,rfl,hx,hall⟩:=hrel;have hv2:=hv.ext hx;by_cases hlt:k < l.length
  ·have hp:=hv2.elem (PI hlt);refine_lift CY ?_;intro _ _ _ _ _ _;refine gT (f:=132) (caps:=#[]) (enters_of Tryz.func132 rfl rfl) rfl rfl rfl (SN l[k].1 l[k].2 _ ((hf _ (List.getElem_mem hlt)).ext hx)) ?_;rintro e w2 ⟨rfl,x2⟩;refine ⟨_,rfl,?_⟩;refine aD ?_;cases hb:l[k].2 with
   | false =>
    refine_lift lY fun _ => ?_;go_ret;exact ⟨by rw [GT hlt hall (by simp [PJ,hb])];rfl,hx.trans x2⟩
   | true =>
    refine_lift lY fun _ => ?_;exact ⟨⟨k + 1,aE,by go_num,hx.trans x2,kF hlt hall (by simp [PJ,hb])⟩,by simp [intOf];omega⟩
  ·have:k=l.length:=aE;subst this;rw [List.take_length] at hall;refine_lift lY fun _ => ?_;go_ret;exact ⟨by rw [GW hall];rfl,hx⟩
theorem BR (v:Value) (l:List (Value × Bool)) (w:World) (hv:Sl 1 w v (uL l)) (hf:∀ x ∈ l,Rule w x.1 x.2):Calls Tryz.prog 131 #[v, .func (.func 132) #[] #[]] w (bC w (.bool (l.any PJ))):=by
 go_enter Tryz.func131,Tryz.ntmps131
 refine_lift eF fun _ _ => ?_;refine cY (JO v l _ hv hf) fun w1 x1 => ?_;refine_lift bR ?_;go_ret;exact ⟨by rw [← zY];rfl,x1⟩
theorem VN (o:List UInt8) (v:Value) (l:List RSet) (s:RSet) (u:Value) (w:World) (hv:SetsAt w v l) (hu:Sl 1 w u (aK s.data)) (hck:dB l=0):Calls Tryz.prog 73 #[.agg #[aI o,v], .agg #[aI s.name, .int .i64 s.kind, .int .i64 s.ttl,u]] w (bC w (.bool (eM o l s))):=by
 have hlen:=aV s.data;go_enter Tryz.func73,Tryz.ntmps73
 refine_lift mS fun _ _ => ?_;refine kN (vs:=[aI o,v]) fun pz w1 x1 hz => ?_;refine aD ?_;refine_lift ZJ ?_;refine kN (vs:=[aI s.name, .int .i64 s.kind, .int .i64 s.ttl,u]) fun ps w2 x2 hs => ?_;refine aD ?_;have hz2:=hz.ext x2;have hx2:=x1.trans x2;have hu2:=hu.ext hx2;refine_lift eF fun _ _ => ?_;refine fO (z:=[.bool false]) fun w3 x3 s3 h3 => ?_;refine aD ?_;have hone:decide (((aK s.data).length:Int)=1)=decide (s.data.length=1):=by rw [hlen,Bool.eq_iff_iff];simp;omega
 rw [hone];refine gD (v:=.bool (decide (s.data.length=1))) rfl rfl rfl h3 aR rfl ?_;intro w4 p4;have x4:=cH x3 p4;have hb4:=aA (cs:=[.bool (decide (s.data.length=1))]) p4.this;have hz4:=hz2.ext x4;have hs4:=hs.ext x4;have hx4:=hx2.trans x4;have hv4:=hv.ext hx4;clear p4 h3 x3;generalize hpb:Value.pointer (some ⟨w2.heap.size,0,none⟩)=pb at *;refine_lift eF fun _ _ => ?_;have r1:Rule w4 (.func (.func 125) #[] #[ps,pz]) (bO s.name o):=⟨125,_,rfl,enters_of Tryz.func125 rfl rfl,fun w' hx'=>SJ o v ps pz s u w' (hs4.ext hx') (hz4.ext hx')⟩;have r2:Rule w4 (.func (.func 126) #[] #[ps,pz,pb]) (JN o s (decide (s.data.length=1))):=⟨126,_,rfl,enters_of Tryz.func126 rfl rfl,fun w' hx'=>SK o v ps pz pb s u _ w' (hs4.ext hx') (hz4.ext hx') (hb4.ext hx')⟩;have r3:Rule w4 (.func (.func 127) #[] #[ps,pb,pz]) (BQ l s (decide (s.data.length=1))):=⟨127,_,rfl,enters_of Tryz.func127 rfl rfl,fun w' hx'=>SL o v ps pz pb l s u _ w' (hs4.ext hx') (hz4.ext hx') (hb4.ext hx') (hv4.ext hx')⟩;have r4:Rule w4 (.func (.func 129) #[] #[pz,ps]) (yY o l s):=⟨129,_,rfl,enters_of Tryz.func129 rfl rfl,fun w' hx'=>SM o v ps pz l s u w' (hs4.ext hx') (hz4.ext hx') (hv4.ext hx')⟩;refine nG (e:=24) (k:=1) (bytes:=8) (xs:=[.func (.func 125) #[] #[ps,pz], .func (.func 126) #[] #[ps,pz,pb], .func (.func 127) #[] #[ps,pb,pz], .func (.func 129) #[] #[pz,ps]]) (by simp [Value.cells]) fun v5 w5 x5 _ sl5 _ => ?_;refine aD ?_;have sl5:Sl 1 w5 v5 (uL [(.func (.func 125) #[] #[ps,pz],bO s.name o),(.func (.func 126) #[] #[ps,pz,pb],JN o s (decide (s.data.length=1))),(.func (.func 127) #[] #[ps,pb,pz],BQ l s (decide (s.data.length=1))),(.func (.func 129) #[] #[pz,ps],yY o l s)]):=sl5;refine_lift eF fun _ _ => ?_;refine cY (BR v5 _ _ sl5 (by
  intro x hx;simp only [List.mem_cons,List.not_mem_nil,or_false] at hx;rcases hx with rfl | rfl | rfl | rfl
  ·exact r1.ext x5
  ·exact r2.ext x5
  ·exact r3.ext x5
  ·exact r4.ext x5)) fun w6 x6 => ?_
 refine_lift bR ?_;go_ret;refine ⟨?_,(hx4.trans x5).trans x6⟩
 congr 2
 have h4:qT o l s=yY o l s:=by rw [qT,yY,xT hck]
 simp only [eM,h4,List.any_cons,List.any_nil,PJ,JN,BQ,Bool.or_false];cases bO s.name o <;> cases yY o l s <;> simp <;> by_cases a6:s.kind=6 <;> by_cases a5:s.kind=5 <;> by_cases an:s.name=o <;> by_cases a1:s.data.length=1 <;> cases l.any (nK s) <;> simp_all
end Go.Proofs.X
