/- Laws and walks that the proof of the statement is made of (part 9). -/
import Derived.Test.YtjabkigdeoopiaaGreatP8
set_option linter.unusedSimpArgs false
set_option linter.unusedVariables false
set_option maxRecDepth 100000
set_option maxHeartbeats 20000000
namespace Go.Proofs.X
open Go.RowKit
variable {cs:Array Value} {held:Bool} {qt:Int} {ps rs:List (List UInt8 × Nat)} {ls:List (List UInt8)} {css css0 es:List (List Value)} {d l m n o qn s t x y z:List UInt8} {B a b base c e fuel i j k p q:Nat} {fz:Nat × Nat} {row:Option Nat} {r u v:Value} {w w' w0 w1 w2:World}
structure NmS where
 n:List UInt8
 begin_:Int
 back:Int
 r:RdS
def nmTo (s:List UInt8) (r1:RdS) (k:Nat):Nat:=k * 256 % 16384 + ((r1.want (decide (192≤k)) 2).number s 1).1
def tK (s:List UInt8) (r1:RdS) (k:Nat) (begin_:Int):RdS:=((r1.want (decide (192≤k)) 2).number s 1).2.want (decide ((nmTo s r1 k:Int) < begin_)) 2
def fP (s:List UInt8) (x:NmS) (k:Nat) (r1:RdS):NmS :=
 if k≤63 then ⟨x.n ++ (UInt8.ofNat k :: (r1.take s k).1),x.begin_,x.back,(r1.take s k).2.want (decide ((x.n ++ (UInt8.ofNat k :: (r1.take s k).1)).length < 255)) 2⟩
 else ⟨x.n,nmTo s r1 k,if x.back < 0 then (tK s r1 k x.begin_).at_ else x.back,⟨nmTo s r1 k,(tK s r1 k x.begin_).e⟩⟩
def AU (x:NmS) (r1:RdS):List UInt8 × RdS:=(if r1.e≠0 then [] else x.n,if 0≤x.back then ⟨x.back,r1.e⟩ else r1)
def yE (s:List UInt8):Nat→NmS→List UInt8 × RdS
 | 0,x=>([],x.r)
 | f + 1,x=>if (x.r.number s 1).2.e≠0∨(x.r.number s 1).1=0 then AU x (x.r.number s 1).2 else yE s f (fP s x (x.r.number s 1).1 (x.r.number s 1).2)
def GX (s:List UInt8) (x:NmS):Nat:=if x.r.e≠0 then 0 else x.begin_.toNat * (s.length + 2) + (s.length + 2 - x.r.at_.toNat)
def fJ (s:List UInt8) (r:RdS):List UInt8 × RdS:=yE s (r.at_.toNat * (s.length + 2) + s.length + 3) ⟨[],r.at_,-1,r⟩
structure NmOk (s:List UInt8) (x:NmS):Prop where
 r:x.r.Ok s
 b0:0≤x.begin_
 b1:x.begin_≤100000000
 k0:-1≤x.back
 k1:x.back≤100000000
 n0:x.r.e=0→x.n.length≤254
 n1:x.n.length≤400
 bL:x.r.e=0→x.begin_≤s.length
 kL:x.r.e=0→x.back≤s.length
theorem EP {r:RdS} {n:Int} (h:(r.number s n).2.e=0):r.e=0∧n≤(s.length:Int) - r.at_∧(r.number s n).2=⟨r.at_ + n,0⟩:=by
 unfold RdS.number RdS.take at *;dsimp only at *;split at h
 ·rename_i c;exact absurd h c
 ·rename_i c;split at h
  ·cases h
  ·rename_i c2;rw [if_neg c,if_neg c2];exact ⟨by simpa using c,aC,rfl⟩
theorem bY {r:RdS} (h:r.Ok s) (hs:s.length≤100000000) {n:Int} (hn:0≤n):(r.number s n).2.Ok s:=h.take hs hn
theorem PT {r:RdS} {is:Bool} {er:Int}:(r.want is er).at_=r.at_:=by unfold RdS.want;split <;> rfl
theorem yF {r:RdS} {is:Bool} {er:Int} (he:er≠0) (h:(r.want is er).e=0):r.e=0∧is=true:=by
 unfold RdS.want at h;split at h
 ·exact absurd h he
 ·rename_i c;refine ⟨h,?_⟩;cases is with
  | true=>rfl
  | false=>exact absurd ⟨h,rfl⟩ c
theorem IF {r1:RdS}:nmTo s r1 k < 16640:=by
 unfold nmTo;have:=dH s (r1.want (decide (192≤k)) 2) 1 aC;have h2:k * 256 % 16384 < 16384:=Nat.mod_lt _ aC;simp at this;omega
theorem NmOk.next {x:NmS} (h:NmOk s x) (hs:s.length≤100000000) (he:(x.r.number s 1).2.e=0):NmOk s (fP s x (x.r.number s 1).1 (x.r.number s 1).2)∧GX s (fP s x (x.r.number s 1).1 (x.r.number s 1).2) < GX s x:=by
 obtain ⟨e0,e1,e2⟩:=EP he;have hr1:=bY (n:=1) h.r hs aC;have hM:GX s x=x.begin_.toNat * (s.length + 2) + (s.length + 2 - x.r.at_.toNat):=by unfold GX;rw [if_neg aC]
 have hlo:=h.r.lo;have hb0:=h.b0;generalize (x.r.number s 1).1=k at *;have hat:(x.r.number s 1).2.at_=x.r.at_ + 1:=by rw [e2]
 generalize (x.r.number s 1).2=r1 at *;unfold fP;have htl:=mH s r1 k;split
 ·rename_i hk;have hn':(x.n ++ (UInt8.ofNat k :: (r1.take s k).1)).length≤254 + 64:=by
   rw [List.length_append,List.length_cons];have:=h.n0 e0;simp at htl;omega
  have hw:=(hr1.take hs (n:=(k:Int)) aC).want (decide ((x.n ++ (UInt8.ofNat k :: (r1.take s k).1)).length < 255)) (er:=2) aH;refine ⟨⟨hw,h.b0,h.b1,h.k0,h.k1,fun e => ?_,by dsimp only;omega,fun _=>h.bL e0,fun _=>h.kL e0⟩,?_⟩
  ·obtain ⟨_,q⟩:=yF aH e;have:=of_decide_eq_true q;dsimp only;omega
  ·rw [hM];unfold GX;dsimp only;split
   ·omega
   ·rename_i c;have c':((r1.take s k).2.want (decide ((x.n ++ (UInt8.ofNat k :: (r1.take s k).1)).length < 255)) 2).e=0:=by simpa using c
    obtain ⟨q,_⟩:=yF aH c';rw [PT];have hta:(r1.take s k).2.at_=r1.at_ + k:=by
     unfold RdS.take at q ⊢;split at q
     ·rename_i c9;exact absurd q c9
     ·split at q
      ·cases q
      ·rename_i c8 c9;rw [if_neg c8,if_neg c9]
    rw [hta,hat];omega
 ·have hto:=IF (s:=s) (r1:=r1) (k:=k);have hw:=((bY (n:=1) (hr1.want (decide (192≤k)) (er:=2) aH) hs aC)).want (decide ((nmTo s r1 k:Int) < x.begin_)) (er:=2) aH;refine ⟨⟨⟨by dsimp only;omega,fun e => ?_,by dsimp only;omega⟩,by dsimp only;omega,by dsimp only;omega,?_,?_,fun _=>h.n0 e0,h.n1,fun e => ?_,fun e => ?_⟩,?_⟩
  ·obtain ⟨_,q⟩:=yF (r:=((r1.want (decide (192≤k)) 2).number s 1).2) aH e;have:=of_decide_eq_true q;have:=h.bL e0;dsimp only;omega
  ·dsimp only;split
   ·have:=hw.lo;show -1≤(tK s r1 k x.begin_).at_;unfold tK;omega
   ·exact h.k0
  ·dsimp only;split
   ·have:=hw.far;show (tK s r1 k x.begin_).at_≤_;unfold tK;omega
   ·exact h.k1
  ·obtain ⟨_,q⟩:=yF (r:=((r1.want (decide (192≤k)) 2).number s 1).2) aH e;have:=of_decide_eq_true q;have:=h.bL e0;dsimp only;omega
  ·dsimp only;split
   ·exact hw.hi e
   ·exact h.kL e0
  ·rw [hM];unfold GX;dsimp only;split
   ·omega
   ·rename_i c;have c':(tK s r1 k x.begin_).e=0:=by simpa using c
    obtain ⟨_,q⟩:=yF (r:=((r1.want (decide (192≤k)) 2).number s 1).2) aH c';have hlt:=of_decide_eq_true q;simp only [Int.toNat_natCast];have h5:nmTo s r1 k + 1≤x.begin_.toNat:=aC;have h6:(nmTo s r1 k + 1) * (s.length + 2)≤x.begin_.toNat * (s.length + 2):=Nat.mul_le_mul_right _ h5;rw [Nat.succ_mul] at h6;omega
theorem IG (hs:s.length≤100000000):∀ (f:Nat) (x:NmS),NmOk s x→GX s x < f→(yE s f x).1.length≤254∧(yE s f x).2.Ok s
 | 0,x,_,h=>absurd h (Nat.not_lt_zero _)
 | f + 1,x,h,hf=>by
   have hr1:=bY (n:=1) h.r hs aC;unfold yE;split
   ·unfold AU;dsimp only;by_cases he:(x.r.number s 1).2.e=0
    ·rw [if_neg (by simpa using he)];obtain ⟨e0,_⟩:=EP he;refine ⟨h.n0 e0,?_⟩;split
     ·rename_i hb;exact ⟨hb,fun _=>h.kL e0,h.k1⟩
     ·exact hr1
    ·rw [if_pos he];refine ⟨Nat.zero_le _,?_⟩;split
     ·rename_i hb;exact ⟨hb,fun e=>absurd e he,h.k1⟩
     ·exact hr1
   ·rename_i c;have he:(x.r.number s 1).2.e=0:=by
     by_cases h:(x.r.number s 1).2.e=0
     ·exact h
     ·exact absurd (.inl h) c
    obtain ⟨h1,h2⟩:=h.next hs he;exact IG hs f _ h1 aC
theorem rC {r:RdS} (hr:r.Ok s):NmOk s ⟨[],r.at_,-1,r⟩∧GX s ⟨[],r.at_,-1,r⟩ < r.at_.toNat * (s.length + 2) + s.length + 3:=by
 refine ⟨⟨hr,hr.lo,hr.far,(by show (-1:Int)≤-1;omega),(by show (-1:Int)≤100000000;omega),fun _=>Nat.zero_le _,Nat.zero_le _,hr.hi,fun _=>(by show (-1:Int)≤_;omega)⟩,?_⟩;unfold GX;dsimp only;split <;> omega
theorem pD {r:RdS} (hr:r.Ok s) (hs:s.length≤100000000):(fJ s r).1.length≤254∧(fJ s r).2.Ok s :=
 IG hs _ _ (rC hr).1 (rC hr).2
def WY (s:List UInt8) (b:Nat) (bg:Value) (w:World):Nat:=match w.heap[b]? with
 | some (.cells cs _ _)=>GX s ⟨[],intOf bg,0,⟨intOf (cs[1]?.getD undef),intOf (cs[2]?.getD undef)⟩⟩
 | _=>0
theorem tL {x:NmS} (h:cV w b s x.r):WY s b (.int .i64 x.begin_) w=GX s x:=by
 unfold cV at h;unfold WY;rw [h];simp [vV,intOf,GX]
def VG (s:List UInt8) (r:RdS) (b:Nat) (w:World) (x:NmS) (wr:World):Prop:=NmOk s x∧cV wr b s x.r∧Mv (some b) w wr∧∃ f,GX s x < f∧yE s f x=fJ s r
theorem PU (k k2:Nat) (h:k2 < 256):(k * 256 &&& 16383) ||| k2=k * 256 % 16384 + k2:=by
 have e1:k * 256 &&& 16383=k * 256 % 16384:=Nat.and_two_pow_sub_one_eq_mod (k * 256) 14;have e2:k * 256 % 16384=(k % 64) * 256:=aC;rw [e1,e2,zE _ _ h]
theorem GY {r:RdS} (h:cV w b s r) (hr:r.Ok s) (hs:s.length≤100000000):Calls Tryz.prog 39 #[.pointer (some ⟨b,0,none⟩)] w (kK w b s (aE (fJ s r).1) (fJ s r).2):=by
 have hp:=aA (cs:=vV s r) h;have h0:VG s r b w ⟨[],r.at_,-1,r⟩ w:=by
  refine ⟨⟨hr,hr.lo,hr.far,(by show (-1:Int)≤-1;omega),(by show (-1:Int)≤100000000;omega),fun _=>Nat.zero_le _,Nat.zero_le _,hr.hi,fun _=>(by show (-1:Int)≤_;omega)⟩,h,Mv.refl _ _,_,?_,rfl⟩;unfold GX;dsimp only;split <;> omega
 go_enter Tryz.func39,Tryz.ntmps39
 refine_lift aL ?_;go_loopw [2,3,4,5,6] (fun n bg bk _ _ wr=>∃ x:NmS,n=aE x.n∧bg=.int .i64 x.begin_∧bk=.int .i64 x.back∧VG s r b w x wr) (fun _ bg _ _ _ wr=>WY s b bg wr)
 case atStart=>exact ⟨_,rfl,rfl,rfl,h0⟩
 case round =>
  obtain ⟨x,rfl,rfl,rfl,hok,hx,hm,f,hf,hgo⟩:=hrel;have hcn:=eE hx hok.r hs 1 aC aC;have hk4:=dH s x.r 1 aC;have hstep:∀ f',f=f' + 1→(if (x.r.number s 1).2.e≠0∨(x.r.number s 1).1=0 then AU x (x.r.number s 1).2 else yE s f' (fP s x (x.r.number s 1).1 (x.r.number s 1).2))=fJ s r:=by
   rintro f' rfl;exact hgo
  have hnx:=fun he=>hok.next hs he;have hr1:=bY (n:=1) hok.r hs aC;generalize hT:x.r.number s 1=T at *;obtain ⟨k,r1⟩:=T;dsimp only at *;refine_lift mS ?_;intro _ _ _;refine dJ hcn fun w1 h1 m1 => ?_;have hp1:=aA (cs:=vV s r1) h1;have hm1:=hm.trans m1;obtain ⟨f',rfl⟩:∃ f',f=f' + 1:=⟨f - 1,aC⟩;have hst:=hstep f' rfl;clear hstep hgo hp hcn;obtain ⟨at1,e1⟩:=r1;dsimp only at *;by_cases ce:e1=0
  ·subst ce;by_cases ck:k=0
   ·subst ck;rw [if_pos (.inr rfl)] at hst;unfold AU at hst;dsimp only at hst;rw [if_neg aH] at hst;by_cases cb:0≤x.back
    ·rw [if_pos cb] at hst;refine_lift rR fun _ _ _ _ _ _ => ?_
     all_goals first
      | (exfalso;omega)
      | skip
     refine fZ 1 (.int .i64 x.back) h1 rfl fun w2 p2 => ?_;have h2:cV w2 b s ⟨x.back,0⟩:=p2.this;have hp2:=aA (cs:=vV s ⟨x.back,0⟩) h2;clear hp1;refine_lift aL ?_
     all_goals first
      | (exfalso;omega)
      | skip
     go_ret;rw [← hst];exact ⟨rfl,h2,hm1.trans p2.mv⟩
    ·rw [if_neg cb] at hst;refine_lift bK fun _ _ => ?_
     all_goals first
      | (exfalso;omega)
      | skip
     go_ret;rw [← hst];exact ⟨rfl,h1,hm1⟩
   ·rw [if_neg (by rintro (h | h);exact h rfl;exact ck h)] at hst;obtain ⟨hok2,hlt2⟩:=hnx rfl;by_cases c63:k≤63
    ·refine_lift rR fun _ _ _ _ _ _ => ?_
     all_goals first
      | (exfalso;omega)
      | skip
     have hk256:k < 256:=aC;have hn1:=hok.n1;have htl:=mH s ⟨at1,0⟩ k;have hr2:=hr1.take hs (n:=(k:Int)) aC;have hNx:fP s x k ⟨at1,0⟩=⟨x.n ++ (UInt8.ofNat k :: (RdS.take s ⟨at1,0⟩ k).1),x.begin_,x.back,(RdS.take s ⟨at1,0⟩ k).2.want (decide ((x.n ++ (UInt8.ofNat k :: (RdS.take s ⟨at1,0⟩ k).1)).length < 255)) 2⟩:=by unfold fP;rw [if_pos c63]
     have hcT:=fun w' (h':cV w' b s ⟨at1,0⟩)=>yD h' hr1 hs (k:Int) aC aC;generalize RdS.take s ⟨at1,0⟩ k=T at *;obtain ⟨t,r2⟩:=T;dsimp only at *;refine cZ (S:=fun w'=>Mv (some b) w1 w') zDk ?_;intro w2 x2 _;have hS2:Mv (some b) w1 w2:=x2.mv _;refine dI 0 ?_;refine aB ?_;refine dI 1 ?_;refine aB ?_;refine dI 2 ?_;refine aB ?_;refine dI 5 ?_;refine aB ?_;refine dI 6 ?_;refine aB ?_;rw [DK k];refine UG 3 4 7 41 42 45 (fun b1 b2 b3=>(!b2 || b1)) (fun b1 b2 b3 => !b2) (fun b1 b2 b3=>b1) (fun b1 b2 b3=>true) (fun b1 b2 b3 v1 v2 v3 w'=>Mv (some b) w1 w'∧(b1=true→Own w1.heap.size 1 5 w' v1 (aJ [UInt8.ofNat k]))∧(b2=true→v2=aE [UInt8.ofNat k])∧cV w' b s (bif b3 then r2 else ⟨at1,0⟩)∧(b3=true→v3=aE t)) ?_ ?_ ?_ ?_ ?_
     ·exact ⟨hS2,bE,bE,x2.at h1,bE⟩
     ·rintro b1 b2 b3 v1 v2 v3 w3 hq ⟨m3,f1,f2,f3,f4⟩;have hb2:b2=false:=by revert hq;cases b2 <;> simp
      subst hb2;refine aB ?_;refine qP (k:=1) (e:=5) (bytes:=1) (xs:=[.int .u8 ((UInt8.ofNat k).toNat:Nat)]) (by simp [Value.cells]) fun v4 w4 x4 _ _ o4 => ?_;refine aB ?_;have o4':Own w1.heap.size 1 5 w4 v4 (aJ [UInt8.ofNat k]):=(show Own w3.heap.size 1 5 w4 v4 (aJ [UInt8.ofNat k]) from o4).weaken m3.size;refine aD ⟨m3.trans (x4.mv _),_,rfl,m3.trans (x4.mv _),fun _=>o4',bE,x4.at f3,f4⟩
     ·rintro b1 b2 b3 v1 v2 v3 w3 hq ⟨m3,f1,f2,f3,f4⟩;have hb1:b1=true:=by revert hq;cases b1 <;> simp
      subst hb1;refine aB ?_;have s1:=(f1 rfl).sl
      ((with_reducible refine cB ?_);(first | (refine jO ?_;refine fX ?_) | (refine nC ?_;refine pI ?_;(with_reducible refine cB ?_);refine jO ?_;refine fX ?_)))
      refine aD ⟨m3,_,rfl,m3,fun _=>f1 rfl,fun _=>rfl,f3,f4⟩
     ·rintro b1 b2 b3 v1 v2 v3 w3 hq ⟨m3,f1,f2,f3,f4⟩;refine aB ?_;refine dJ (hcT _ f3) fun w4 h4 m4 => ?_;refine aD ⟨m3.trans m4,_,rfl,m3.trans m4,fun e=>(f1 e).mv m4 (.inr ((f1 e).neBlock f3 aH)),f2,h4,fun _=>rfl⟩
     ·rintro v1 v2 v3 w3 ⟨m3,f1,f2,f3,f4⟩;obtain rfl:=f2 rfl;obtain rfl:=f4 rfl;refine dI 8 ?_;refine aB ?_;refine dI 9 ?_;refine aB ?_;refine dI 10 ?_;refine aB ?_;refine cJ zDk ?_;rw [show x.n ++ ([UInt8.ofNat k] ++ t)=x.n ++ (UInt8.ofNat k :: t) from rfl];have h3:cV w3 b s r2:=f3;have hlen2:(x.n ++ (UInt8.ofNat k :: t)).length≤1000:=by rw [List.length_append,List.length_cons];simp at htl;omega
      have hcw:=gB h3 (decide ((x.n ++ (UInt8.ofNat k :: t)).length < 255)) 2;have hd5:decide (((x.n ++ (UInt8.ofNat k :: t)).length:Int) < 255)=decide ((x.n ++ (UInt8.ofNat k :: t)).length < 255):=by by_cases h:(x.n ++ (UInt8.ofNat k :: t)).length < 255 <;> simp only [h,decide_true,decide_false,decide_eq_true_eq,decide_eq_false_iff_not] <;> omega
      generalize hN:x.n ++ (UInt8.ofNat k :: t)=N at *;generalize hR5:r2.want (decide (N.length < 255)) 2=r5 at *;refine_lift bK fun _ _ => ?_;rw [hd5];refine dJ hcw fun w5 h5 m5 => ?_;refine_lift aL ?_;refine ⟨⟨fP s x k ⟨at1,0⟩,?_,?_,?_,hok2,?_,hm1.trans (m3.trans m5),f',aC,hst⟩,?_⟩
      ·rw [hNx]
      ·rw [hNx]
      ·rw [hNx]
      ·rw [hNx];exact h5
      ·rw [tL hx,show Value.int .i64 x.begin_=.int .i64 (fP s x k ⟨at1,0⟩).begin_ by rw [hNx],tL (by rw [hNx];exact h5)];exact hlt2
    ·refine_lift jH fun _ _ _ _ => ?_
     all_goals first
      | (exfalso;omega)
      | skip
     have hk256:k < 256:=by simpa using hk4
     have hcw:=gB h1 (decide (192≤k)) 2;have hdk:decide ((192:Int)≤(k:Nat))=decide (192≤k):=by by_cases h:192≤k <;> simp [h] <;> omega
     have hw2:=hr1.want (decide (192≤k)) (er:=2) aH;rw [hdk];refine dJ hcw fun w2 h2 m2 => ?_;have hcn:=eE h2 hw2 hs 1 aC aC;have hk2:=dH s ((⟨at1,0⟩:RdS).want (decide (192≤k)) 2) 1 aC;have hr3:=bY (n:=1) hw2 hs aC;have hnT:nmTo s ⟨at1,0⟩ k=k * 256 % 16384 + (((⟨at1,0⟩:RdS).want (decide (192≤k)) 2).number s 1).1:=rfl;have hn4:∀ bg,tK s ⟨at1,0⟩ k bg=(((⟨at1,0⟩:RdS).want (decide (192≤k)) 2).number s 1).2.want (decide ((nmTo s ⟨at1,0⟩ k:Int) < bg)) 2:=fun _=>rfl;have hto:=IF (s:=s) (r1:=⟨at1,0⟩) (k:=k);generalize ((⟨at1,0⟩:RdS).want (decide (192≤k)) 2).number s 1=T at *;obtain ⟨k2,r3⟩:=T;dsimp only at *;have hk2':k2 < 256:=by simpa using hk2
     refine_lift bK fun _ _ => ?_;refine aG (Runs.andN (m:=k * 256) (n:=16383) rfl rfl aC aH) ?_;refine aB ?_;refine_lift aL ?_;refine dJ hcn fun w3 h3 m3 => ?_;have hle:k * 256 &&& 16383≤k * 256:=Nat.and_le_left;refine aG (Runs.orN (m:=k * 256 &&& 16383) (n:=k2) rfl rfl aC aC) ?_;rw [PU k k2 hk2',← hnT];refine aB ?_;have hcw4:=gB h3 (decide ((nmTo s ⟨at1,0⟩ k:Int) < x.begin_)) 2;rw [← hn4] at hcw4;have hw4:=hr3.want (decide ((nmTo s ⟨at1,0⟩ k:Int) < x.begin_)) (er:=2) aH;rw [← hn4] at hw4;have hNx:fP s x k ⟨at1,0⟩=⟨x.n,nmTo s ⟨at1,0⟩ k,if x.back < 0 then (tK s ⟨at1,0⟩ k x.begin_).at_ else x.back,⟨nmTo s ⟨at1,0⟩ k,(tK s ⟨at1,0⟩ k x.begin_).e⟩⟩:=by unfold fP;rw [if_neg c63]
     generalize tK s ⟨at1,0⟩ k x.begin_=r4 at *;generalize nmTo s ⟨at1,0⟩ k=to at *;refine_lift bK fun _ _ => ?_;refine dJ hcw4 fun w4 h4 m4 => ?_;have hp4:=aA (cs:=vV s r4) h4;have hm4:=hm1.trans (m2.trans (m3.trans m4));clear hp1;by_cases cb:x.back < 0
     ·rw [if_pos cb] at hNx;refine_lift lS fun _ => ?_
      all_goals first
       | (exfalso;omega)
       | skip
      refine fZ 1 (.int .i64 (to:Nat)) h4 rfl fun w5 p5 => ?_;have h5:cV w5 b s ⟨to,r4.e⟩:=p5.this;refine_lift aL ?_;refine ⟨⟨fP s x k ⟨at1,0⟩,?_,?_,?_,hok2,?_,hm4.trans p5.mv,f',aC,hst⟩,?_⟩
      ·rw [hNx]
      ·rw [hNx]
      ·rw [hNx]
      ·rw [hNx];exact h5
      ·rw [tL hx,show Value.int .i64 ((to:Nat):Int)=.int .i64 (fP s x k ⟨at1,0⟩).begin_ by rw [hNx],tL (by rw [hNx];exact h5)];exact hlt2
     ·rw [if_neg cb] at hNx;refine_lift lS fun _ => ?_
      all_goals first
       | (exfalso;omega)
       | skip
      refine fZ 1 (.int .i64 (to:Nat)) h4 rfl fun w5 p5 => ?_;have h5:cV w5 b s ⟨to,r4.e⟩:=p5.this;refine_lift aL ?_;refine ⟨⟨fP s x k ⟨at1,0⟩,?_,?_,?_,hok2,?_,hm4.trans p5.mv,f',aC,hst⟩,?_⟩
      ·rw [hNx]
      ·rw [hNx]
      ·rw [hNx]
      ·rw [hNx];exact h5
      ·rw [tL hx,show Value.int .i64 ((to:Nat):Int)=.int .i64 (fP s x k ⟨at1,0⟩).begin_ by rw [hNx],tL (by rw [hNx];exact h5)];exact hlt2
  ·rw [if_pos (.inl ce)] at hst;unfold AU at hst;dsimp only at hst;rw [if_pos ce] at hst;by_cases cb:0≤x.back
   ·rw [if_pos cb] at hst
    (repeat' first | ((with_reducible refine eN ?_);go_step) | ((with_reducible refine cB ?_);first | refine iF ?_ | (refine fA ?_ ?_ <;> intro hc)) | fail)
    all_goals first
     | (exfalso;omega)
     | (exfalso;have hh:=‹(!decide (e1=0))=false›;simp [ce] at hh;done)
     | skip
    refine fZ 1 (.int .i64 x.back) h1 rfl fun w2 p2 => ?_;have h2:cV w2 b s ⟨x.back,e1⟩:=p2.this;have hp2:=aA (cs:=vV s ⟨x.back,e1⟩) h2;clear hp1;refine_lift iU (fun _ => ?_) (fun _ => ?_)
    all_goals first
     | (exfalso;omega)
     | (exfalso;have hh:=‹(!decide (e1=0))=false›;simp [ce] at hh;done)
     | skip
    go_ret;rw [← hst];exact ⟨rfl,h2,hm1.trans p2.mv⟩
   ·rw [if_neg cb] at hst
    (repeat' first | ((with_reducible refine eN ?_);go_step) | ((with_reducible refine cB ?_);first | refine iF ?_ | (refine fA ?_ ?_ <;> intro hc)) | fail)
    all_goals first
     | (exfalso;omega)
     | (exfalso;have hh:=‹(!decide (e1=0))=false›;simp [ce] at hh;done)
     | skip
    go_ret;rw [← hst];exact ⟨rfl,h1,hm1⟩
def IH (n:List UInt8):List UInt8:=if (aM n).isSome=true then n ++ [0] else []
def RdS.host (s:List UInt8) (r:RdS):List UInt8 × RdS:=(IH (fJ s r).1,(fJ s r).2)
theorem CE {r:RdS} (h:cV w b s r) (hr:r.Ok s) (hs:s.length≤100000000):Calls Tryz.prog 102 #[.pointer (some ⟨b,0,none⟩)] w (kK w b s (aE (r.host s).1) (r.host s).2):=by
 obtain ⟨n1,n2⟩:=pD hr hs;have hH:=fun w=>WQ (fJ s r).1 w aC;have hcn:=GY h hr hs;unfold RdS.host IH;generalize fJ s r=N at *;go_enter Tryz.func102,Tryz.ntmps102
 refine_lift bK fun _ _ => ?_;refine dJ hcn fun w1 h1 m1 => ?_;by_cases hl:(aM N.1).isSome=true
 ·rw [if_pos hl] at hH;refine_lift aL ?_;refine bX (hH _) fun w2 x2 => ?_;refine_lift aL ?_;go_ret;rw [if_pos hl];exact ⟨rfl,x2.at h1,m1.trans (x2.mv _)⟩
 ·rw [if_neg hl] at hH;refine_lift aL ?_;refine bX (hH _) fun w2 x2 => ?_;refine_lift aL ?_;go_ret;rw [if_neg hl];exact ⟨rfl,x2.at h1,m1.trans (x2.mv _)⟩
theorem kY {r:RdS} (hr:r.Ok s) (hs:s.length≤100000000):(r.host s).1.length≤255∧(r.host s).2.Ok s:=by
 obtain ⟨n1,n2⟩:=pD hr hs;unfold RdS.host IH;refine ⟨?_,n2⟩;dsimp only;split
 ·rw [List.length_append];simp;omega
 ·exact Nat.zero_le _
def RdS.data (s:List UInt8) (r:RdS) (kind n:Int):List UInt8 × RdS :=
 let r0:=r.want (decide (r.at_ + n≤(s.length:Int))) 3
 if r0.e≠0 then ([],r0) else
 let o:List UInt8 × RdS:=if kind=2∨kind=5∨kind=12 then r0.host s
  else if kind=15 then ((r0.take s 2).1 ++ ((r0.take s 2).2.host s).1,((r0.take s 2).2.host s).2)
  else if kind=6 then ((r0.host s).1 ++ ((r0.host s).2.host s).1 ++ (((r0.host s).2.host s).2.take s 20).1,(((r0.host s).2.host s).2.take s 20).2)
  else r0.take s n
 (o.1,o.2.want (decide (o.2.at_=r.at_ + n)) 2)
theorem TE {r:RdS} (h:cV w b s r) (hr:r.Ok s) (hs:s.length≤1000000) (kind n:Int) (hn0:0≤n) (hn1:n≤65535):Calls Tryz.prog 65 #[.pointer (some ⟨b,0,none⟩), .int .i64 kind, .int .i64 n] w (kK w b s (aE (r.data s kind n).1) (r.data s kind n).2):=by
 have hp:=aA (cs:=vV s r) h;have a0:=hr.lo;have a2:=hr.far;have hs8:s.length≤100000000:=aC;have hcw:=gB h (decide (r.at_ + n≤(s.length:Int))) 3;have hw:=hr.want (decide (r.at_ + n≤(s.length:Int))) (er:=3) aH;unfold RdS.data;generalize r.want (decide (r.at_ + n≤(s.length:Int))) 3=r0 at *;dsimp only;generalize hend:r.at_ + n=en at *;have hen:en≤200000000:=aC;go_enter Tryz.func65,Tryz.ntmps65
 refine_lift jH fun _ _ _ _ => ?_;rw [hend];refine dJ hcw fun w1 h1 m1 => ?_;by_cases c0:r0.e=0
 ·rw [decide_eq_true c0];by_cases c1:kind=2∨kind=5∨kind=12
  ·have hb2:=kY hw hs8
   (repeat' first | ((with_reducible refine eN ?_);go_step) | ((with_reducible refine cB ?_);first | refine iF ?_ | (refine fA ?_ ?_ <;> intro hc)) | fail)
   all_goals first
    | (exfalso;omega)
    | skip
   all_goals (
    refine dJ (CE h1 hw hs8) fun w2 h2 m2 => ?_;have hK:=h2;have mK:=m1.trans m2;have hpK:=aA (cs:=vV s (r0.host s).2) hK;have hwK:=gB hK (decide (((r0.host s).2).at_=en)) 2;refine_lift bK fun _ _ => ?_;refine dJ hwK fun w9 h9 m9 => ?_;refine_lift aL ?_;go_ret;rw [if_neg (by simpa using c0),if_pos c1];exact ⟨rfl,h9,mK.trans m9⟩
   )
  ·by_cases c2:kind=15
   ·have ht2:=mH s r0 2;have hb2:=hw.take hs8 (n:=2) aC;have hb3:=kY hb2 hs8
    (repeat' first | ((with_reducible refine eN ?_);go_step) | ((with_reducible refine cB ?_);first | refine iF ?_ | (refine fA ?_ ?_ <;> intro hc)) | fail)
    all_goals first
     | (exfalso;omega)
     | skip
    refine dJ (yD h1 hw hs8 2 aC aC) fun w2 h2 m2 => ?_;refine_lift aL ?_;refine dJ (CE h2 hb2 hs8) fun w3 h3 m3 => ?_;have hK:=h3;have mK:=m1.trans (m2.trans m3);have hpK:=aA (cs:=vV s ((r0.take s 2).2.host s).2) hK;have hwK:=gB hK (decide ((((r0.take s 2).2.host s).2).at_=en)) 2;refine_lift bK fun _ _ => ?_;refine dJ hwK fun w9 h9 m9 => ?_;refine_lift aL ?_;go_ret;rw [if_neg (by simpa using c0),if_neg c1,if_pos c2];exact ⟨rfl,h9,mK.trans m9⟩
   ·by_cases c3:kind=6
    ·have hb2:=kY hw hs8;have hb3:=kY hb2.2 hs8;have ht4:=mH s ((r0.host s).2.host s).2 20
     (repeat' first | ((with_reducible refine eN ?_);go_step) | ((with_reducible refine cB ?_);first | refine iF ?_ | (refine fA ?_ ?_ <;> intro hc)) | fail)
     all_goals first
      | (exfalso;omega)
      | skip
     refine dJ (CE h1 hw hs8) fun w2 h2 m2 => ?_;refine_lift bK fun _ _ => ?_;refine dJ (CE h2 hb2.2 hs8) fun w3 h3 m3 => ?_;refine_lift aL ?_;refine dJ (yD h3 hb3.2 hs8 20 aC aC) fun w4 h4 m4 => ?_;have hK:=h4;have mK:=m1.trans (m2.trans (m3.trans m4));have hpK:=aA (cs:=vV s (((r0.host s).2.host s).2.take s 20).2) hK;have hwK:=gB hK (decide (((((r0.host s).2.host s).2.take s 20).2).at_=en)) 2;refine_lift bK fun _ _ => ?_;refine dJ hwK fun w9 h9 m9 => ?_;refine_lift aL ?_;go_ret;rw [if_neg (by simpa using c0),if_neg c1,if_neg c2,if_pos c3];exact ⟨rfl,h9,mK.trans m9⟩
    ·refine_lift WP fun _ _ _ _ _ _ _ => ?_
     all_goals first
      | (exfalso;omega)
      | skip
     refine dJ (yD h1 hw hs8 n aC aC) fun w2 h2 m2 => ?_;have hK:=h2;have mK:=m1.trans m2;have hpK:=aA (cs:=vV s (r0.take s n).2) hK;have hwK:=gB hK (decide (((r0.take s n).2).at_=en)) 2;refine_lift bK fun _ _ => ?_;refine dJ hwK fun w9 h9 m9 => ?_;refine_lift aL ?_;go_ret;rw [if_neg (by simpa using c0),if_neg c1,if_neg c2,if_neg c3];exact ⟨rfl,h9,mK.trans m9⟩
 ·rw [decide_eq_false c0];refine_lift aL ?_;go_ret;rw [if_pos (by simpa using c0)];exact ⟨rfl,h1,m1⟩
section
variable {P:Program} {ops:Array Oper} {Q:Exit→Act→World→Prop} {w:World} {rest:List Oper} {ts:List Value} {df:List Deferred} {ty:TypeId} {ps:String} {af:Array Edge} {g:Option (Nat × Bool)}
theorem gL (s:List UInt8):Lib.strCells ⟨s.toArray⟩=(aJ s).flatten:=by
 induction s with
 | nil=>rfl
 | cons x s ih =>
  simp only [Lib.strCells,aJ,List.map_cons,List.flatten_cons] at ih ⊢;rw [ih];rfl
theorem CF (t u ty e:TypeId) (i:TypeInfo) (ht:P.underlying t=some (.slice e)) (hu:P.underlying u=some .string) (hi:P.info? e=some i) (hs1:i.size=1)
 (g sLen sCap:Nat) (cur:Array Value) (fz:Nat × Nat) (hg:w.heap[g]? = some (.cells cur e fz)) (hfz:fz.2≤fz.1∨cur.size≤fz.1) (s:ByteArray)
 (hroom:sLen + s.size≤sCap) (hfit:sLen + s.size≤cur.size) :
 (Builtin.append_ #[t,u] ty #[.slice (some ⟨g,0,none⟩) sLen sCap, .string s]).run P w =
   .ok (.slice (some ⟨g,0,none⟩) (sLen + s.size) sCap) (w.setRow g (cur.toList.take sLen ++ Lib.strCells s ++ cur.toList.drop (sLen + s.size)).toArray):=by
 have hf:=Lib.run_firstCells_string (P:=P) w 1 s;have hst:=eK P g sLen e fz (Lib.strCells s) 0 cur w hg hfz (by simpa [Lib.strCells_length] using hfit) (Lib.strCells_oneCell s);simp only [Nat.add_zero,Lib.strCells_length] at hst;simp [Builtin.append_,run_underlying ht,run_underlying hu,sizeOf,typeInfo,hi,hs1,Builtin.lenOf,hroom,hf,Addr.add_lit,hst]
theorem yZ {t u:Nat} {ty:TypeId} (ht:lK P t e 1 1=true) (hu:P.underlying u=some .string) (h:Own B 1 e w v (aJ l))
 (hB:B≤w.heap.size) (hm:l.length + s.length≤140737488355328) :
 ∃ v' w',(Builtin.append_ #[t,u] ty #[v,aE s]).run P w=.ok v' w'∧Own B 1 e w' v' (aJ (l ++ s))∧Mv v.ownBlock w w':=by
 obtain ⟨hut,i,z,hi,hz,hzc,hs,hby,_⟩:=mY ht;obtain ⟨⟨hx1,hrow⟩,heach⟩:=h;have hbl:∀ l:List UInt8,(aJ l).length=l.length:=fun l=>by simp [aJ]
 have hbf:∀ l:List UInt8,(aJ l).flatten.length=l.length:=fun l=>by rw [← gL,Lib.strCells_length];rfl
 have happ:(aJ (l ++ s)).flatten=(aJ l).flatten ++ (aJ s).flatten:=by simp [aJ]
 have hone:∀ x ∈ aJ (l ++ s),x.length=1:=by intro x hx;simp only [aJ,List.mem_map] at hx;obtain ⟨_,_,rfl⟩:=hx;rfl
 have hss:(⟨s.toArray⟩:ByteArray).size=s.length:=rfl;have hsmall:l.length + s.length≤9223372036854775807:=aC;have hmax:l.length + s.length≤maxLen:=by unfold maxLen;omega
 rw [hbl] at hrow;rcases hrow with ⟨rfl,hn0⟩ | ⟨g,cap,cur,fz,rfl,hbg,hg,hfz,hnc,hcm,hcs,htake⟩
 ·have hl0:l=[]:=List.eq_nil_of_length_eq_zero hn0;subst hl0;by_cases hm0:s.length=0
  ·refine ⟨.slice none 0 0,w,?_,by rw [List.eq_nil_of_length_eq_zero hm0];exact Own.nil _ _ _ _,Mv.refl _ _⟩;have hf:=Lib.run_firstCells_string (P:=P) w 1 ⟨s.toArray⟩;have hn:Lib.strCells ⟨s.toArray⟩=[]:=by rw [gL,List.eq_nil_of_length_eq_zero hm0];rfl
   rw [hn] at hf;have hz0:(⟨s.toArray⟩:ByteArray).size=0:=hm0;unfold aE;generalize (⟨s.toArray⟩:ByteArray)=sb at *;rw [hz0] at hf;simp [Builtin.append_,run_underlying hut,run_underlying hu,sizeOf,typeInfo,hi,hs,Builtin.lenOf,hz0,hf]
  ·have hr:=run_append_nil_string (P:=P) w t u ty e i z hut hu hi hz ⟨s.toArray⟩ (by rw [hss];omega) (by rw [hss];simp at hm;omega) (by rw [hby,hss];simp at hm;omega);have hge:=grownCap_ge w s.length 0 e;have hcm':grownCap w s.length 0 e≤maxLen:=grownCap_le_maxLen w s.length 0 e (by simpa using hmax);have e1:((⟨s.toArray⟩:ByteArray).data.map fun b=>Value.int .u8 b.toNat)=(aJ s).flatten.toArray:=by
    rw [← gL];apply Array.ext';simp [Lib.strCells]
   rw [e1,hss] at hr;refine ⟨_,_,hr,⟨⟨?_, .inr ⟨w.heap.size,grownCap w s.length 0 e,_,(0,0),?_,hB,heap_alloc_new w.drew _, .inl (Nat.le_refl _),?_,hcm',?_,?_⟩⟩,hone⟩,⟨rfl,rfl,rfl,bE,fun k hk _=>(Ext.alloc w.drew _).block k hk,Nat.le_succ _⟩⟩
   ·rw [hbf,hbl];simp
   ·rw [hbl];simp
   ·rw [hbl];simpa using hge
   ·simp only [Array.size_append,List.size_toArray,size_zeroCells,hzc,hbf];omega
   ·rw [hbl];simp only [Array.toList_append,List.nil_append];have:s.length * 1=(aJ s).flatten.length:=by rw [hbf];omega
    rw [this];exact List.take_left
 ·have hcz:cur.size=cap:=by simpa using hcs
  have htk:cur.toList.take l.length=(aJ l).flatten:=by simpa using htake
  by_cases hroom:l.length + s.length≤cap
  ·have hr:=CF (P:=P) (w:=w) t u ty e i hut hu hi hs g l.length cap cur fz hg hfz ⟨s.toArray⟩ hroom (by rw [hss];omega);refine ⟨_,_,hr,⟨⟨?_, .inr ⟨g,cap,_,fz,?_,hbg,setRow_heap w g cur _ e _ hg,?_,?_,hcm,?_,?_⟩⟩,hone⟩,⟨rfl,rfl,rfl,bE,fun k _ hk=>setRow_other w g k _ (fun e=>hk (by simp [Value.ownBlock,e])),Nat.le_refl _⟩⟩
   ·rw [hbf,hbl];simp
   ·rw [hbl,hss];simp
   ·simp only [List.size_toArray,List.length_append,List.length_take,List.length_drop,Array.length_toList,Lib.strCells_length,hss];omega
   ·rw [hbl];simpa using hroom
   ·simp only [List.size_toArray,List.length_append,List.length_take,List.length_drop,Array.length_toList,Lib.strCells_length,hss];omega
   ·rw [htk,gL,← happ,hbl];have:(l ++ s).length * 1=(aJ (l ++ s)).flatten.length:=by rw [hbf];omega
    rw [this];simp only [List.append_assoc];exact List.take_left
  ·have holds:∀ j u,(aJ l).flatten[j]? = some u→w.cell? ((⟨g,0,none⟩:Addr).add j)=some u:=by
    intro j u hj;rw [dB,cell_of_row w g _ cur _ fz hg];rw [← htk,List.getElem?_take] at hj;split at hj
    ·rw [Nat.zero_add];simpa using hj
    ·cases hj
   have hr:=Lib.run_append_grow_string (P:=P) w t u ty e i z hut hu hi hz ⟨g,0,none⟩ l.length cap (aJ l).flatten (by rw [hs,hbf];omega) holds ⟨s.toArray⟩ (by rw [hss];omega) (by rw [hss];omega) (by rw [hby,hss];exact growslice_fits aC aC);rw [hss] at hr;have hge:=grownCap_ge w (l.length + s.length) cap e;have hcm':grownCap w (l.length + s.length) cap e≤maxLen:=grownCap_le_maxLen w (l.length + s.length) cap e hmax;refine ⟨_,_,hr,⟨⟨?_, .inr ⟨w.heap.size,grownCap w (l.length + s.length) cap e,_,(0,0),?_,hB,heap_alloc_new w.drew _, .inl (Nat.le_refl _),?_,hcm',?_,?_⟩⟩,hone⟩,⟨rfl,rfl,rfl,bE,fun k hk _=>(Ext.alloc w.drew _).block k hk,Nat.le_succ _⟩⟩
   ·rw [hbf,hbl];simp
   ·rw [hbl];simp
   ·rw [hbl];simpa using hge
   ·simp only [Array.size_append,List.size_toArray,size_zeroCells,hzc,hbf,Lib.strCells_length,hss];omega
   ·rw [hbl];simp only [Array.toList_append,List.append_assoc,gL];have:(l ++ s).length * 1=((aJ l).flatten ++ (aJ s).flatten).length:=by rw [← happ,hbf];omega
    rw [this,← List.append_assoc,happ];exact List.take_left
theorem zA {t u d:Nat} {x0 y:Operand} {v0:Value} (h0:(Act.mk ts.toArray df).eval x0=v0)
 (h:Own B 1 e w v0 (aJ l)) (hy:(Act.mk ts.toArray df).eval y=aE s) (hB:B≤w.heap.size) (hm:l.length + s.length≤140737488355328)
 (hk:∀ v' w',Own B 1 e w' v' (aJ (l ++ s))→Mv v0.ownBlock w w'→wpList P ops Q rest (Act.mk (ts.set d v').toArray df) w')
 (ht:lK P t e 1 1=true:=by decide +kernel) (hu:P.underlying u=some .string:=by decide +kernel) :
 wpList P ops Q (Oper.mk (some d) (.call ⟨.builtin .append,#[x0,y],#[t,u]⟩) ty ps af none :: rest) (Act.mk ts.toArray df) w:=by
 obtain ⟨v',w',hr,ho,hmv⟩:=yZ (P:=P) (ty:=ty) ht hu h hB hm;refine wpList_plain rfl fun K hK => ?_;unfold Oper.wp execOp;simp only [resolve,invoke,builtin,Sem.run_bind,Sem.run_pure,Result.andThen_ok,List.map_toArray,List.map_cons,List.map_nil,h0,hy,hr];refine hK _ _ ?_;have:=hk v' w' ho hmv
 simpa [Act.put] using this
end
def TF (ps:List (List UInt8 × Nat)):List (Value × Value):=ps.map fun p=>(aE p.1, .int .i64 (p.2:Nat))
def CV (v:Value) (m:Nat):List Value:=[v, .map (some m)]
structure WrAt (w0 w:World) (b m:Nat) (l:List UInt8) (ps:List (List UInt8 × Nat)):Prop where
 hb:w0.heap.size≤b
 hm:w0.heap.size≤m
 ne:b≠m
 ext:Ext w0 w
 blk:∃ v,w.heap[b]? = some (.cells (CV v m).toArray 83 (0,0))∧Own w0.heap.size 1 5 w v (aJ l)
 map:MapAt Tryz.prog 26 w m (TF ps)
def Kp (w w':World):Prop:=∀ (k:Nat) (cs:Array Value) (t:TypeId) (fz:Nat × Nat),t≠83→t≠5→w.heap[k]? = some (.cells cs t fz)→w'.heap[k]? = some (.cells cs t fz)
theorem Kp.refl (w:World):Kp w w:=fun _ _ _ _ _ _ h=>h
theorem Kp.trans (h:Kp w w1) (k:Kp w1 w2):Kp w w2:=fun n cs t fz a c x=>k n cs t fz a c (h n cs t fz a c x)
theorem Ext.kp (h:Ext w w'):Kp w w':=fun _ _ _ _ _ _ x=>h.at x
theorem Mv.kpRow (ho:Own B k 5 w v es) (h:Mv v.ownBlock w w'):Kp w w' :=
 fun _ _ _ _ _ hu x=>h.at x (fun e=>ho.neBlock x hu e.symm)
theorem Mv.kpBox (hB:w.heap[b]? = some (.cells cs 83 fz)) (h:Mv (some b) w w'):Kp w w' :=
 fun _ _ _ _ hw _ x=>h.at x (by intro e;cases e;rw [hB] at x;simp only [Option.some.injEq,Obj.cells.injEq] at x;exact hw x.2.1.symm)
theorem Mv.kpMap {m:Nat} {ents:List (Value × Value)} {kt:TypeId} (hM:MapAt Tryz.prog kt w m ents) (h:Mv (some m) w w'):Kp w w' :=
 fun _ _ _ _ _ _ x=>h.at x (by intro e;cases e;obtain ⟨es,ck,hme,_⟩:=hM.out;rw [hme] at x;cases x)
def uX (w0 w:World) (b m:Nat) (l:List UInt8) (ps:List (List UInt8 × Nat)) (e:Ending) (w':World):Prop:=e=.returned (.tuple #[])∧WrAt w0 w' b m l ps∧Kp w w'
def aK (n:Nat):List UInt8:=[UInt8.ofNat (n / 256),UInt8.ofNat n]
theorem yG {m:Nat} (h:WrAt w0 w b m l ps) (s:List UInt8) (hl:l.length + s.length≤100000000000000):Calls Tryz.prog 53 #[.pointer (some ⟨b,0,none⟩),aE s] w (uX w0 w b m (l ++ s) ps):=by
 obtain ⟨hb,hm,hbm,hx,⟨v,hB,ho⟩,hM⟩:=h;have hp:=aA (cs:=CV v m) hB;go_enter Tryz.func53,Tryz.ntmps53
 refine_lift aL ?_;refine zA (e:=5) (v0:=v) rfl ho rfl hx.size aC ?_ zDk (by kernel_rfl);intro v1 w1 o1 m1;refine aB ?_;have hB1:=m1.at hB (fun e=>(ho.neBlock hB aH) e.symm);have hM1:=hM.mvr m1 ho rfl;have x1:Ext w0 w1:=hx.move m1 (fun k e=>(ho.block k e).1);clear hp;refine_lift aL ?_;refine fZ 0 v1 hB1 o1.one fun w2 p2 => ?_;have x2:=eC x1 p2;have hB2:w2.heap[b]? = some (.cells (CV v1 m).toArray 83 (0,0)):=p2.this;have o2:=iM o1 p2 hB1;have hM2:=hM1.at (fun o h=>p2.mv.at h (by intro e;exact hbm (Option.some.inj e).symm));refine_lift aL ?_
 go_end0
 exact ⟨rfl,⟨hb,hm,hbm,x2,⟨v1,hB2,o2⟩,hM2⟩,(Mv.kpRow ho m1).trans (Mv.kpBox hB1 p2.mv)⟩
theorem kZ (n:Nat):IntKind.u8.wrap ((n:Nat):Int)=(((UInt8.ofNat n).toNat:Nat):Int):=by
 simp [IntKind.wrap,IntKind.signed,IntKind.bits]
theorem jM {m:Nat} (h:WrAt w0 w b m l ps) (n:Nat) (hn:n≤100000000000000) (hl:l.length + 2≤100000000000000):Calls Tryz.prog 29 #[.pointer (some ⟨b,0,none⟩), .int .i64 n] w (uX w0 w b m (l ++ aK n) ps):=by
 obtain ⟨hb,hm,hbm,hx,⟨v,hB,ho⟩,hM⟩:=h;have hp:=aA (cs:=CV v m) hB;go_enter Tryz.func29,Tryz.ntmps29
 refine_lift aL ?_;rw [show (↑n / 2 ^ Int.toNat 8:Int)=((n / 256:Nat):Int) by simp,kZ,kZ];refine qP (e:=5) (k:=1) (bytes:=1) (xs:=[.int .u8 ((UInt8.ofNat (n / 256)).toNat:Nat), .int .u8 ((UInt8.ofNat n).toNat:Nat)]) (by simp [Value.cells]) fun u1 w1 y1 _ sl1 _ => ?_;refine aB ?_;have ho1:=ho.ext y1;have x1':=hx.trans y1;have hB1':=y1.at hB;have hM1':=hM.at (fun o h=>y1.at h);refine iR (B:=w0.heap.size) (k:=1) (e:=5) (bytes:=1) (x:=u1) (es:=aJ l) (fs:=aJ (aK n)) rfl ho1 rfl sl1 zDk (by simp [aJ,aK,Value.oneCell']) x1'.size (by simp [aJ,aK];omega) (by simp [aJ,aK];omega) ?_;intro v1 w1 o1 m1;have m1:Mv v.ownBlock _ w1:=m1;refine aB ?_;have hB1:=m1.at hB1' (fun e=>(ho1.neBlock hB1' aH) e.symm);have hM1:=hM1'.mvr m1 ho1 rfl;have x1:Ext w0 w1:=x1'.move m1 (fun k e=>(ho1.block k e).1);clear hp;refine_lift aL ?_;refine fZ 0 v1 hB1 o1.one fun w2 p2 => ?_;have x2:=eC x1 p2;have hB2:w2.heap[b]? = some (.cells (CV v1 m).toArray 83 (0,0)):=p2.this;have o2:=iM o1 p2 hB1;have hM2:=hM1.at (fun o h=>p2.mv.at h (by intro e;exact hbm (Option.some.inj e).symm));refine_lift aL ?_
 go_end0
 exact ⟨rfl,⟨hb,hm,hbm,x2,⟨v1,hB2,by simpa [aJ] using o2⟩,hM2⟩,(y1.kp.trans (Mv.kpRow ho1 m1)).trans (Mv.kpBox hB1 p2.mv)⟩
structure HldR where
 o:List UInt8
 l:List RSet
 org:List UInt8
 up:Bool
 deriving Inhabited
structure HldsAt (w:World) (v:Value) (hs:List HldR):Prop where
 out:∃ css,Sl 4 w v css∧css.length=hs.length∧∀ (i:Nat) (h:HldR),hs[i]? = some h→∃ x,css[i]? = some [aE h.o,x,aE h.org, .bool h.up]∧SetsAt w x h.l
theorem HldsAt.ext {hs:List HldR} (h:HldsAt w v hs) (hx:Ext w w'):HldsAt w' v hs:=by
 obtain ⟨css,h1,h2,h3⟩:=h;exact ⟨css,h1.ext hx,h2,fun i s hi=>let ⟨x,a,b⟩:=h3 i s hi;⟨x,a,b.ext hx⟩⟩
theorem HldsAt.elem {hs:List HldR} (h:HldsAt w v hs) {x:HldR} (hi:hs[i]? = some x):∃ y,Pts w (eG v (i * 4)) [aE x.o,y,aE x.org, .bool x.up]∧SetsAt w y x.l:=by
 obtain ⟨css,h1,h2,h3⟩:=h;obtain ⟨y,h4,h5⟩:=h3 i x hi;exact ⟨y,h1.elem h4,h5⟩
theorem HldsAt.sl {hs:List HldR} (h:HldsAt w v hs):∃ css:List (List Value),Sl 4 w v css∧css.length=hs.length:=by
 obtain ⟨css,h1,h2,_⟩:=h;exact ⟨css,h1,h2⟩
def fK (n:Nat):List UInt8:=aK (n / 65536) ++ aK n
theorem ND {m:Nat} (h:WrAt w0 w b m l ps) (n:Nat) (hn:n≤100000000000000) (hl:l.length + 4≤100000000000000):Calls Tryz.prog 32 #[.pointer (some ⟨b,0,none⟩), .int .i64 n] w (uX w0 w b m (l ++ fK n) ps):=by
 go_enter Tryz.func32,Tryz.ntmps32
 refine_lift bK fun _ _ => ?_;have c1:=jM h (n / 65536) aC aC;refine cL (vs:=[.pointer (some ⟨b,0,none⟩), .int .i64 ((n / 65536:Nat):Int)]) (enters_of Tryz.func29 rfl rfl) rfl (congrArg (fun z=>[Value.pointer (some ⟨b,0,none⟩),Value.int .i64 z]) (show ((n:Int) / 2 ^ Int.toNat 16)=((n / 65536:Nat):Int) by simp)) c1 ?_;rintro _ w1 ⟨rfl,h1,g1⟩;refine ⟨_,rfl,?_⟩;refine aB ?_;have c2:=jM h1 n hn (by simp [aK];omega);refine_lift aL ?_;refine dJ c2 fun w2 h2 g2 => ?_;refine_lift aL ?_
 go_end0
 exact ⟨rfl,by simpa [fK] using h2,g1.trans g2⟩
def eS (x:List UInt8):List UInt8:=UInt8.ofNat x.length :: x
def aS:List (List UInt8)→List UInt8→List (List UInt8 × Nat)→List UInt8 × List (List UInt8 × Nat)
 | [],l,ps=>(l ++ [0],ps)
 | x :: ls,l,ps=>match ps.find? (fun p=>decide (p.1=enc (x :: ls))) with
   | some p=>if p.2 < 16384 then (l ++ aK (49152 ||| p.2),ps) else aS ls (l ++ eS x) ps
   | none=>aS ls (l ++ eS x) (ps ++ [(enc (x :: ls),l.length)])
def Keys (ps:List (List UInt8 × Nat)):Prop:=ps.Pairwise fun a b=>a.1≠b.1
theorem NE (hk:Keys ps) {p:List UInt8 × Nat} (h:ps[i]? = some p):ps.find? (fun q=>decide (q.1=p.1))=some p:=by
 induction ps generalizing i with
 | nil=>simp at h
 | cons q ps ih =>
  obtain ⟨h1,h2⟩:=List.pairwise_cons.1 hk;cases i with
  | zero =>
   simp at h;subst h;simp
  | succ i =>
   simp at h;rw [List.find?_cons_of_neg (by simpa using h1 p (List.mem_of_getElem? h))];exact ih h2 h
theorem TG (h:(TF ps)[i]? = some (aE n,v)):∃ k,ps[i]? = some (n,k)∧v=.int .i64 (k:Nat):=by
 simp only [TF,List.getElem?_map] at h;cases hp:ps[i]? with
 | none=>rw [hp] at h;cases h
 | some p =>
  rw [hp] at h;simp only [Option.map_some,Option.some.injEq,Prod.mk.injEq] at h;obtain ⟨h1,h2⟩:=h;exact ⟨p.2,by rw [← (show p.1=n by simpa [aE] using h1)],h2.symm⟩
theorem II (h:∀ (i:Nat) (e:Value × Value),(TF ps)[i]? = some e→e.1≠aE n):ps.find? (fun q=>decide (q.1=n))=none:=by
 rw [List.find?_eq_none];intro q hq e;obtain ⟨i,hi⟩:=List.getElem?_of_mem hq;have e:q.1=n:=by simpa using e
 exact h i (aE q.1, .int .i64 (q.2:Nat)) (by simp [TF,hi]) (by rw [e])
theorem Keys.add (hk:Keys ps) (h:ps.find? (fun q=>decide (q.1=n))=none):Keys (ps ++ [(n,k)]):=by
 unfold Keys;rw [List.pairwise_append];refine ⟨hk,List.pairwise_singleton _ _,?_⟩;intro a ha b hb;simp at hb;subst hb;rw [List.find?_eq_none] at h
 simpa using h a ha
def sLen:Value→Nat
 | .string s=>s.size
 | _=>0
theorem IJ {m:Nat} (h:WrAt w0 w b m l ps) (hk:Keys ps) (ls:List (List UInt8)) (hf:ls.all iT=true) (hn:(enc ls).length≤1000) (hl:l.length + 2000≤100000000000000):Calls Tryz.prog 31 #[.pointer (some ⟨b,0,none⟩),aE (enc ls)] w (uX w0 w b m (aS ls l ps).1 (aS ls l ps).2):=by
 have hgo:aS (ls.drop 0) l ps=aS ls l ps:=by rw [List.drop_zero]
 generalize aS ls l ps=RES at *;go_enter Tryz.func31,Tryz.ntmps31
 refine_lift bK fun _ _ => ?_;go_loopw [1,4,5,6] (fun nv _ _ _ wr=>∃ (k:Nat) (l':List UInt8) (ps':List (List UInt8 × Nat)),k≤ls.length∧nv=aE (enc (ls.drop k))∧WrAt w0 wr b m l' ps'∧Keys ps'∧l'.length + (enc (ls.drop k)).length≤l.length + 1000∧(enc (ls.drop k)).length≤1000∧Kp w wr∧aS (ls.drop k) l' ps'=RES) (fun nv _ _ _ _=>sLen nv)
 case atStart=>exact ⟨0,l,ps,Nat.zero_le _,by rw [List.drop_zero],h,hk,by rw [List.drop_zero];omega,by rw [List.drop_zero];exact hn,Kp.refl _,hgo⟩
 case round =>
  obtain ⟨k,l',ps',hkl,rfl,hW,hK,hle,hle2,hKp,hg⟩:=hrel;have hfd:(ls.drop k).all iT=true:=by
   rw [List.all_eq_true] at hf ⊢;exact fun x hx=>hf x (List.mem_of_mem_drop hx)
  have hdl:(ls.drop k).length=ls.length - k:=List.length_drop;obtain ⟨hb,hm,hbm,hx,⟨v,hB,ho⟩,hM⟩:=hW;have hp:=aA (cs:=CV v m) hB;have hsl:=ho.sl;cases hd:ls.drop k with
  | nil =>
   rw [hd] at hg hle hle2;unfold aS at hg;refine_lift lS fun _ => ?_
   all_goals first
    | (exfalso;simp_all [enc];done)
    | skip
   refine qP (e:=5) (k:=1) (bytes:=1) (xs:=[.int .u8 0]) (by simp [Value.cells]) fun u1 w1 y1 _ sl1 _ => ?_;refine aB ?_;have ho1:=ho.ext y1;have x1':=hx.trans y1;have hB1':=y1.at hB;have hM1':=hM.at (fun o h=>y1.at h);refine iR (B:=w0.heap.size) (k:=1) (e:=5) (bytes:=1) (x:=u1) (es:=aJ l') (fs:=aJ [0]) rfl ho1 rfl sl1 zDk (by simp [aJ,Value.oneCell']) x1'.size (by simp [aJ];omega) (by simp [aJ];omega) ?_;intro v1 w1 o1 m1;have m1:Mv v.ownBlock _ w1:=m1;refine aB ?_;have hB1:=m1.at hB1' (fun e=>(ho1.neBlock hB1' aH) e.symm);have hM1:=hM1'.mvr m1 ho1 rfl;have x1:Ext w0 w1:=x1'.move m1 (fun k e=>(ho1.block k e).1);clear hp;refine_lift aL ?_;refine fZ 0 v1 hB1 o1.one fun w2 p2 => ?_;have x2:=eC x1 p2;have hB2:w2.heap[b]? = some (.cells (CV v1 m).toArray 83 (0,0)):=p2.this;have o2:=iM o1 p2 hB1;have hM2:=hM1.at (fun o h=>p2.mv.at h (by intro e;exact hbm (Option.some.inj e).symm));refine_lift aL ?_
   go_end0
   rw [← hg];exact ⟨rfl,⟨hb,hm,hbm,x2,⟨v1,hB2,by simpa [aJ] using o2⟩,hM2⟩,hKp.trans ((y1.kp.trans (Mv.kpRow ho1 m1)).trans (Mv.kpBox hB1 p2.mv))⟩
  | cons x xs =>
   rw [hd] at hg hle hle2 hfd;have hx1:1≤x.length∧x.length≤63:=by
    have:=(List.all_eq_true.1 hfd) x bE
    simpa [iT] using this
   have hxs:ls.drop (k + 1)=xs:=by rw [← List.drop_drop,hd];rfl
   have hen:enc (x :: xs)=UInt8.ofNat x.length :: (x ++ enc xs):=by simp [enc]
   have hlen:(UInt8.ofNat x.length :: (x ++ enc xs)).length=x.length + (enc xs).length + 1:=bE;have hlen2:(enc (x :: xs)).length=x.length + (enc xs).length + 1:=by rw [hen,hlen]
   have hb0:(UInt8.ofNat x.length).toNat=x.length:=by simp;omega
   have htk:List.take ((UInt8.ofNat x.length).toNat + 1) (UInt8.ofNat x.length :: (x ++ enc xs))=eS x:=by rw [hb0];simp [eS]
   have hdp:List.drop ((UInt8.ofNat x.length).toNat + 1) (UInt8.ofNat x.length :: (x ++ enc xs))=enc xs:=by rw [hb0];simp
   obtain ⟨lx,hlx⟩:=ID (enc (x :: xs)) aC;have hzv:∀ w,(zeroValue 3).run Tryz.prog w=.ok (.int .i64 0) w:=fun w=>by kernel_rfl
   obtain ⟨bv,bb,hrl,hcase⟩:=iE vT (zDk:dZ Tryz.prog 80 26 3=true) hzv hM hlx true;simp only [if_true] at hrl;have hne0:enc (x :: xs)≠[]:=by rw [hen];simp
   refine_lift jH ?_;intro _ _ _ _
   all_goals first
    | (exfalso;exact hne0 (by simpa using ‹_›))
    | skip
   refine dD rfl (Runs.lookup rfl rfl hrl) ?_;refine aB ?_;rcases hcase with ⟨i,hie,rfl⟩ | ⟨hno,rfl,rfl⟩
   ·obtain ⟨at_,hat,rfl⟩:=TG hie;have hfind:=NE hK hat;unfold aS at hg;dsimp only at hfind;rw [hfind] at hg;dsimp only at hg;by_cases c1:at_ < 16384
    ·rw [if_pos c1] at hg;refine_lift FV fun _ _ _ _ _ => ?_
     all_goals first
      | (exfalso;omega)
      | skip
     refine aG (Runs.orN (m:=49152) (n:=at_) rfl rfl aC aC) ?_;refine aB ?_;have cw:=jM (⟨hb,hm,hbm,hx,⟨v,hB,ho⟩,hM⟩:WrAt w0 wr b m l' ps') (49152 ||| at_) (by have:=Nat.or_lt_two_pow (x:=49152) (y:=at_) (n:=16) aH aC;omega) aC;refine dJ cw fun w1 h1 g1 => ?_;refine_lift aL ?_;refine bodyPost_ret (results_none rfl _ _ _) rfl ?_;rw [← hg];exact ⟨rfl,h1,hKp.trans g1⟩
    ·rw [if_neg c1] at hg;rw [hen];refine_lift mS fun _ _ _ => ?_
     all_goals first
      | (exfalso;omega)
      | skip
     have hW9:WrAt w0 _ b m l' ps':=⟨hb,hm,hbm,hx,⟨v,hB,ho⟩,hM⟩;have ct:=yG hW9 (eS x) (by simp [eS];omega);refine cL (vs:=[.pointer (some ⟨b,0,none⟩),aE (eS x)]) (enters_of Tryz.func53 rfl rfl) rfl (congrArg (fun z=>[Value.pointer (some ⟨b,0,none⟩),aE z]) htk) ct ?_;rintro _ w5 ⟨rfl,h5,g5⟩;refine ⟨_,rfl,?_⟩;refine aB ?_;clear hp hsl;refine_lift aL ?_;refine ⟨⟨k + 1,l' ++ eS x,ps',by have:=congrArg List.length hd;simp at this;omega,by rw [hxs];exact congrArg aE hdp,h5,hK,by rw [hxs];simp [eS];omega,by rw [hxs];omega,hKp.trans g5,by rw [hxs];exact hg⟩,?_⟩;show (List.drop ((UInt8.ofNat x.length).toNat + 1) (UInt8.ofNat x.length :: (x ++ enc xs))).length < (enc (x :: xs)).length;rw [hdp,hlen2];omega
   ·unfold aS at hg;rw [II hno] at hg;dsimp only at hg;refine_lift bK fun _ _ => ?_
    all_goals first
     | (exfalso;simp_all;done)
     | skip
    refine aV 10 (Ext wr) zDk ?_;intro w1 x1 _;refine ⟨x1,?_⟩;refine bH 0 ?_;refine bH 1 ?_;refine bH 2 ?_;refine bH 3 ?_;refine bH 4 ?_;refine bH 5 ?_;refine bH 6 ?_;refine bH 7 ?_;refine bH 8 ?_;refine bH 9 ?_;refine eF 10 ?_;have hM1:=hM.at (fun o h=>x1.at h);obtain ⟨w7,o7,hr7,p7,hm7⟩:=jZ vT (zDk:dZ Tryz.prog 80 26 3=true) hM1 hlx (v:=.int .i64 ((aJ l').length:Nat)) hno;refine fS rfl rfl rfl rfl hr7 ?_;have x7:=eC (hx.trans x1) p7;have hB7:=p7.mv.at (x1.at hB) (by intro e;exact hbm (Option.some.inj e));obtain ⟨es,ck,hme,_⟩:=hM1.out;have ho7:=(ho.ext x1).mv p7.mv (.inr ((ho.ext x1).neMap hme));have hm8:MapAt Tryz.prog 26 w7 m (TF (ps' ++ [(enc (x :: xs),l'.length)])):=by simpa [TF,aJ] using hm7
    refine aD ⟨aQ rfl,?_⟩;refine nX ?_;rw [hen];refine_lift bK fun _ _ => ?_;have hW9:WrAt w0 _ b m l' (ps' ++ [(enc (x :: xs),l'.length)]):=⟨hb,hm,hbm,x7,⟨v,hB7,ho7⟩,hm8⟩;have ct:=yG hW9 (eS x) (by simp [eS];omega);refine cL (vs:=[.pointer (some ⟨b,0,none⟩),aE (eS x)]) (enters_of Tryz.func53 rfl rfl) rfl (congrArg (fun z=>[Value.pointer (some ⟨b,0,none⟩),aE z]) htk) ct ?_;rintro _ w5 ⟨rfl,h5,g5⟩;refine ⟨_,rfl,?_⟩;refine aB ?_;clear hp hsl;refine_lift aL ?_;refine ⟨⟨k + 1,l' ++ eS x,(ps' ++ [(enc (x :: xs),l'.length)]),by have:=congrArg List.length hd;simp at this;omega,by rw [hxs];exact congrArg aE hdp,h5,hK.add (II hno),by rw [hxs];simp [eS];omega,by rw [hxs];omega,hKp.trans ((x1.kp.trans (Mv.kpMap hM1 p7.mv)).trans g5),by rw [hxs];exact hg⟩,?_⟩;show (List.drop ((UInt8.ofNat x.length).toNat + 1) (UInt8.ofNat x.length :: (x ++ enc xs))).length < (enc (x :: xs)).length;rw [hdp,hlen2];omega
def cX (n:List UInt8):List (List UInt8):=(aM n).getD []
theorem fR (h:(aM n).isSome=true):(cX n).all iT=true∧enc (cX n)=n∧n.length≤254:=by
 cases hl:aM n with
 | none=>rw [hl] at h;cases h
 | some ls =>
  have:=gR hl
  simpa [cX,hl] using this
theorem sM {m:Nat} (h:WrAt w0 w b m l ps) (hk:Keys ps) (n:List UInt8) (hn:(aM n).isSome=true) (hl:l.length + 2000≤100000000000000):Calls Tryz.prog 31 #[.pointer (some ⟨b,0,none⟩),aE n] w (uX w0 w b m (aS (cX n) l ps).1 (aS (cX n) l ps).2):=by
 obtain ⟨h1,h2,h3⟩:=fR hn;have:=IJ h hk (cX n) h1 (by rw [h2];omega) hl;rw [h2] at this;exact this
theorem gS:∀ (ls:List (List UInt8)) (l:List UInt8) (ps:List (List UInt8 × Nat)),Keys ps→Keys (aS ls l ps).2:=by
 intro ls;induction ls with
 | nil=>intro l ps h;exact h
 | cons x ls ih =>
  intro l ps h;unfold aS;split
  ·split
   ·exact h
   ·exact ih _ _ h
  ·rename_i hn;exact ih _ _ (h.add hn)
theorem iW:∀ (ls:List (List UInt8)) (l:List UInt8) (ps:List (List UInt8 × Nat)),∃ t,(aS ls l ps).1=l ++ t∧t.length≤(enc ls).length + 2:=by
 intro ls;induction ls with
 | nil=>intro l ps;exact ⟨[0],rfl,bE⟩
 | cons x ls ih =>
  intro l ps;have he:(enc (x :: ls)).length=(eS x).length + (enc ls).length:=by simp [enc,eS];omega
  unfold aS;split
  ·split
   ·exact ⟨_,rfl,by simp [aK]⟩
   ·obtain ⟨t,h1,h2⟩:=ih (l ++ eS x) ps;exact ⟨eS x ++ t,by rw [h1,List.append_assoc],by rw [List.length_append];omega⟩
  ·obtain ⟨t,h1,h2⟩:=ih (l ++ eS x) (ps ++ [(enc (x :: ls),l.length)]);exact ⟨eS x ++ t,by rw [h1,List.append_assoc],by rw [List.length_append];omega⟩
def bP (r:Rec) (l:List UInt8) (ps:List (List UInt8 × Nat)):List UInt8 × List (List UInt8 × Nat) :=
 if r.kind=6 then ((aS (cX (dX r.data).mail) (aS (cX (dX r.data).main) l ps).1 (aS (cX (dX r.data).main) l ps).2).1 ++ r.data.drop (r.data.length - 20),(aS (cX (dX r.data).mail) (aS (cX (dX r.data).main) l ps).1 (aS (cX (dX r.data).main) l ps).2).2)
 else if (aR r.kind r.data).2=0∧r.kind≠33 then aS (cX (aR r.kind r.data).1) (l ++ r.data.take (r.data.length - (aR r.kind r.data).1.length - 1)) ps
 else (l ++ r.data,ps)
def iX (r:Rec) (l:List UInt8) (ps:List (List UInt8 × Nat)):List UInt8 × List (List UInt8 × Nat) :=
 (l ++ aK ((bP r (l ++ aK 0) ps).1.length - l.length - 2) ++ (bP r (l ++ aK 0) ps).1.drop (l.length + 2),(bP r (l ++ aK 0) ps).2)
theorem tN {k:Int} (h:(aR k d).2=0):(aM (aR k d).1).isSome=true∧(aR k d).1.length + 1≤d.length:=by
 unfold aR at h ⊢;split at h
 ·cases h
 ·split at h
  ·cases h
  ·rename_i c1 c2;rw [if_neg c1,if_neg c2];cases hh:jF (d.drop (fU k).toNat) with
   | none=>rw [hh] at h;cases h
   | some n =>
    obtain ⟨e1,e2⟩:=nL hh;have:=congrArg List.length e1;simp at this;exact ⟨e2,by simp;omega⟩
theorem sN (r:Rec) (l2:List UInt8) (ps:List (List UInt8 × Nat)) (hd:r.data.length≤4000) (hS:r.kind=6→(aM (dX r.data).main).isSome=true∧(aM (dX r.data).mail).isSome=true∧20≤r.data.length):∃ y,(bP r l2 ps).1=l2 ++ y∧y.length≤5000:=by
 unfold bP;split
 ·rename_i c6;obtain ⟨s1',s2',s3'⟩:=hS c6;obtain ⟨y7,e7,n7⟩:=iW (cX (dX r.data).main) l2 ps;obtain ⟨y8,e8,n8⟩:=iW (cX (dX r.data).mail) (aS (cX (dX r.data).main) l2 ps).1 (aS (cX (dX r.data).main) l2 ps).2;have a1:=fR s1';have a2:=fR s2';rw [a1.2.1] at n7;rw [a2.2.1] at n8;refine ⟨y7 ++ (y8 ++ r.data.drop (r.data.length - 20)),?_,?_⟩
  ·dsimp only;rw [e8,e7];simp
  ·simp only [List.length_append,List.length_drop];omega
 ·split
  ·rename_i c0;obtain ⟨k1,k2⟩:=tN c0.1;obtain ⟨y7,e7,n7⟩:=iW (cX (aR r.kind r.data).1) (l2 ++ r.data.take (r.data.length - (aR r.kind r.data).1.length - 1)) ps;have a1:=fR k1;rw [a1.2.1] at n7;refine ⟨r.data.take (r.data.length - (aR r.kind r.data).1.length - 1) ++ y7,by rw [e7,List.append_assoc],?_⟩;simp only [List.length_append,List.length_take];omega
  ·exact ⟨r.data,rfl,aC⟩
theorem VH (l:List UInt8) (k:Nat) (a:UInt8):(aJ l).set k [.int .u8 ((a.toNat:Nat):Int)]=aJ (l.set k a):=by simp [aJ,List.map_set]
theorem NF (l y:List UInt8) (n:Nat):((aJ (l ++ aK 0 ++ y)).set l.length [.int .u8 (IntKind.u8.wrap ((n:Int) / 2 ^ Int.toNat 8))]).set (l.length + 1) [.int .u8 (IntKind.u8.wrap (n:Int))]=aJ (l ++ aK n ++ y):=by
 rw [show ((n:Int) / 2 ^ Int.toNat 8)=((n / 256:Nat):Int) by simp,kZ,kZ,VH,VH]
 congr 1
 simp [aK,List.set_append]
theorem PV {m:Nat} (h:WrAt w0 w b m l ps) (hk:Keys ps) (r:Rec) (hd:r.data.length≤4000) (hS:r.kind=6→(aM (dX r.data).main).isSome=true∧(aM (dX r.data).mail).isSome=true∧20≤r.data.length) (hl:l.length + 10000≤100000000000000):Calls Tryz.prog 33 #[.pointer (some ⟨b,0,none⟩),ST r] w (uX w0 w b m (iX r l ps).1 (iX r l ps).2):=by
 unfold iX;have hh:=tN (k:=r.kind) (d:=r.data);have hpre:=sN r (l ++ aK 0) ps hd hS;go_enter Tryz.func33,Tryz.ntmps33
 refine_lift lQ fun _ _ => ?_;refine jS (vs:=[aE r.name, .int .i64 r.kind, .int .i64 r.ttl,aE r.data]) fun w1 x1 s1 hb1 => ?_;refine aB ?_;obtain ⟨hb,hm,hbm,hx,⟨v,hB,ho⟩,hM⟩:=h;have hp:=aA (cs:=CV v m) (x1.at hB);have hsl:=(ho.ext x1).sl;have hW1:WrAt w0 w1 b m l ps:=⟨hb,hm,hbm,hx.trans x1,⟨v,x1.at hB,ho.ext x1⟩,hM.at (fun o h=>x1.at h)⟩;refine_lift bK fun _ _ => ?_;have cw:=jM hW1 0 aC aC;refine dJ cw fun w2 h2 g2 => ?_;clear hp;have hc2:=g2 _ _ _ _ aH aH hb1;have hpc2:=aA (cs:=[aE r.name, .int .i64 r.kind, .int .i64 r.ttl,aE r.data]) hc2;have hl2:(l ++ aK 0).length=l.length + 2:=by simp [aK]
 generalize hL2:l ++ aK 0=l2 at *;refine_lift bK fun _ _ => ?_;refine bX (WF r.kind r.data _ aC) fun w3 x3 => ?_;have hpc3:=hpc2.ext x3;have hc3:=x3.at hc2;obtain ⟨f1,f2,f3,f4,⟨v2,f5,f6⟩,f7⟩:=h2;have h3:WrAt w0 w3 b m l2 ps:=⟨f1,f2,f3,f4.trans x3,⟨v2,x3.at f5,f6.ext x3⟩,f7.at (fun o h=>x3.at h)⟩;clear hpc2;have hDe:bP r l2 ps=bP r l2 ps:=rfl
 conv at hDe=>rhs;unfold bP
 obtain ⟨ht,hte⟩:∃ y,y=aR r.kind r.data:=⟨_,rfl⟩;rw [← hte] at hh hDe;rw [← hte]
 (repeat' first | ((with_reducible refine eN ?_);go_step) | ((with_reducible refine cB ?_);first | refine iF ?_ | (refine fA ?_ ?_ <;> intro hc)) | fail)
 all_goals first
  | (have c6:¬ r.kind=6:=by assumption
     have c0:¬ (ht.2=0∧r.kind≠33):=by
      first
       | (have:¬ ht.2=0:=by assumption
          exact fun h=>this h.1)
       | (have:r.kind=33:=by simpa using ‹(!decide (r.kind=33))=false›
          exact fun h=>h.2 this)
     have ct:=yG h3 r.data aC;refine dJ ct fun w9 h9 g9 => ?_;have hZ:WrAt w0 w9 b m (bP r l2 ps).1 (bP r l2 ps).2:=by
      rw [hDe,if_neg c6,if_neg c0];exact h9
     have gZ:Kp w3 w9:=g9)
  | (have c6:¬ r.kind=6:=by assumption
     have c0:ht.2=0∧r.kind≠33:=⟨by assumption,by simpa using ‹(!decide (r.kind=33))=true›⟩;obtain ⟨k1,k2⟩:=hh c0.1;have ct:=yG h3 (r.data.take (r.data.length - ht.1.length - 1)) (by rw [List.length_take];omega);refine cL (vs:=[.pointer (some ⟨b,0,none⟩),aE (r.data.take (r.data.length - ht.1.length - 1))]) (enters_of Tryz.func53 rfl rfl) rfl (congrArg (fun z=>[Value.pointer (some ⟨b,0,none⟩),aE (r.data.take z)]) aC) ct ?_;rintro _ w8 ⟨rfl,h8,g8⟩;refine ⟨_,rfl,?_⟩;refine aB ?_;have hpc8:=aA (cs:=[aE r.name, .int .i64 r.kind, .int .i64 r.ttl,aE r.data]) (g8 _ _ _ _ aH aH hc3);clear hpc3;refine_lift aL ?_;have cn:=sM h8 hk ht.1 k1 (by rw [List.length_append,List.length_take];omega);refine dJ cn fun w9 h9 g9 => ?_;have hZ:WrAt w0 w9 b m (bP r l2 ps).1 (bP r l2 ps).2:=by
      rw [hDe,if_neg c6,if_pos c0];exact h9
     have gZ:Kp w3 w9:=g8.trans g9)
  | skip
 ·have c6:r.kind=6:=by assumption
  obtain ⟨s1',s2',s3'⟩:=hS c6;refine bX (EG r.data _ aC) fun w4 x4 => ?_;refine_lift aL ?_;refine eX (z:=dO) fun w5 x5 s5 h5 => ?_;refine aB ?_;refine fG (v:=.agg (dX r.data).cells.toArray) h5 (ME _) fun w6 p6 => ?_;have x46:=eC x5 p6;have x36:=x4.trans x46;have hb6:w6.heap[w4.heap.size]? = some (.cells (dX r.data).cells.toArray 128 (0,0)):=p6.this;have hs6:=aA (cs:=(dX r.data).cells) hb6;obtain ⟨f1,f2,f3,f4,⟨v3,f5,f6⟩,f7⟩:=h3;have h6:WrAt w0 w6 b m l2 ps:=⟨f1,f2,f3,f4.trans x36,⟨v3,x36.at f5,f6.ext x36⟩,f7.at (fun o h=>x36.at h)⟩;have hc6:=x36.at hc3;clear p6 h5;generalize w4.heap.size=d at *;refine_lift bK fun _ _ => ?_;have cn:=sM h6 hk (dX r.data).main s1' aC;have hk7:=gS (cX (dX r.data).main) l2 ps hk;obtain ⟨y7,e7,n7⟩:=iW (cX (dX r.data).main) l2 ps;refine dJ cn fun w7 h7 g7 => ?_;have hb7:=g7 _ _ _ _ aH aH hb6;have hs7:=aA (cs:=(dX r.data).cells) hb7;have hc7:=g7 _ _ _ _ aH aH hc6;clear hs6;refine_lift bK fun _ _ => ?_;have cn2:=sM h7 hk7 (dX r.data).mail s2' (by rw [e7,List.length_append];have:=(fR s1').2.1;rw [this] at n7;have:=(fR s1').2.2;omega);obtain ⟨y8,e8,n8⟩:=iW (cX (dX r.data).mail) (aS (cX (dX r.data).main) l2 ps).1 (aS (cX (dX r.data).main) l2 ps).2;refine dJ cn2 fun w8 h8 g8 => ?_;have hc8:=g8 _ _ _ _ aH aH hc7;have hpc8:=aA (cs:=[aE r.name, .int .i64 r.kind, .int .i64 r.ttl,aE r.data]) hc8;clear hpc3 hs7;refine_lift aL ?_;have ct:=yG h8 (r.data.drop (r.data.length - 20)) (by rw [e8,e7,List.length_drop,List.length_append,List.length_append];rw [(fR s1').2.1] at n7;rw [(fR s2').2.1] at n8;have:=(fR s1').2.2;have:=(fR s2').2.2;omega);refine cL (vs:=[.pointer (some ⟨b,0,none⟩),aE (r.data.drop (r.data.length - 20))]) (enters_of Tryz.func53 rfl rfl) rfl (congrArg (fun z=>[Value.pointer (some ⟨b,0,none⟩),aE (r.data.drop z)]) aC) ct ?_;rintro _ w9 ⟨rfl,h9,g9⟩;refine ⟨_,rfl,?_⟩;refine aB ?_;have hZ:WrAt w0 w9 b m (bP r l2 ps).1 (bP r l2 ps).2:=by
   rw [hDe,if_pos c6];exact h9
  have gZ:Kp w3 w9:=((x36.kp.trans g7).trans g8).trans g9;clear hpc8;obtain ⟨y,ey,ny⟩:=hpre;generalize bP r l2 ps=Z at *;obtain ⟨e1,e2,e3,e4,⟨vz,e5,e6⟩,e7⟩:=hZ;have hpz:=aA (cs:=CV vz m) e5;have hslz:=e6.sl;have hbz:(aJ Z.1).length=Z.1.length:=by simp [aJ]
  have hbl:(aJ l).length=l.length:=by simp [aJ]
  have hlz:Z.1.length=l.length + 2 + y.length:=by rw [ey,List.length_append,hl2]
  refine_lift aL ?_;have hn:((aJ Z.1).length:Int) - (aJ l).length - 2=((Z.1.length - l.length - 2:Nat):Int):=aC;rw [hn];refine aV 19 (fun w'=>Pts w' (.pointer (some ⟨b,0,none⟩)) (CV vz m)∧∃ es:List (List Value),es.length=Z.1.length∧Sl 1 w' vz es) zDk ?_;intro wA xA _;refine ⟨⟨hpz.ext xA,aJ Z.1,hbz,hslz.ext xA⟩,?_⟩;refine bH 0 ?_;refine bH 1 ?_;refine bH 2 ?_;refine BG (i:=3) (v:=vz) rfl rfl (fun w' hF=>by obtain ⟨hF,_⟩:=hF;exact DF) ?_;refine aB ?_;refine bH 4 ?_;refine bH 5 ?_;refine bH 6 ?_;refine bH 7 ?_;refine BG (i:=8) (v:=vz) rfl rfl (fun w' hF=>by obtain ⟨hF,_⟩:=hF;exact DF) ?_;refine aB ?_;refine bH 9 ?_;refine bH 10 ?_;refine bH 11 ?_;refine bH 12 ?_;refine bH 13 ?_;refine bH 14 ?_;refine bH 15 ?_;refine BG (i:=16) (v:=eG vz (l.length * 1)) rfl rfl (fun w' hF=>by obtain ⟨_,es,h1,h2⟩:=hF;rw [← hbl];exact Runs.idxT rfl h2 aC zDk) ?_;refine aB ?_;refine eF 17 ?_;refine gU (c:=.int .u8 (IntKind.u8.wrap (((Z.1.length - l.length - 2:Nat):Int) / 2 ^ Int.toNat 8))) (i:=l.length) rfl rfl rfl (e6.ext xA) aC zDk rfl ?_;intro wB oB mB;have pB:=aA (cs:=CV vz m) (mB.at (xA.at e5) (fun e=>(e6.neBlock e5 aH) e.symm));refine aD ⟨aZ ⟨pB,_,by rw [List.length_set];exact hbz,oB.sl⟩,?_⟩;have hslB:=oB.sl;have hlB:((aJ Z.1).set l.length [.int .u8 (IntKind.u8.wrap (((Z.1.length - l.length - 2:Nat):Int) / 2 ^ Int.toNat 8))]).length=Z.1.length:=by rw [List.length_set];exact hbz
  refine eF 18 ?_;refine aG (v:=eG vz ((l.length + 1) * 1)) (by rw [← hbl];exact Runs.idxT rfl hslB aC zDk) ?_;refine aB ?_;refine aD ⟨aZ ⟨pB,_,hlB,hslB⟩,?_⟩;refine eF 19 ?_;refine gU (c:=.int .u8 (IntKind.u8.wrap ((Z.1.length - l.length - 2:Nat):Int))) (i:=l.length + 1) rfl rfl rfl oB aC zDk rfl ?_;intro wC oC mC;refine aD ⟨aQ rfl,?_⟩;refine nX ?_;refine_lift aL ?_
  go_end0
  have hBb:=mB.at (xA.at e5) (fun e=>(e6.neBlock e5 aH) e.symm);have hCb:=mC.at hBb (fun e=>(oB.neBlock hBb aH) e.symm);have xC:Ext w0 wC:=((e4.trans xA).move mB (fun k e=>((e6.ext xA).block k e).1)).move mC (fun k e=>(oB.block k e).1);have mapC:=((e7.at (fun o h=>xA.at h)).mvr mB (e6.ext xA) rfl).mvr mC oB rfl;have oC':Own w0.heap.size 1 5 wC vz (aJ (l ++ aK (Z.1.length - l.length - 2) ++ Z.1.drop (l.length + 2))):=by
   have e0:Z.1.drop (l.length + 2)=y:=by rw [ey,← hl2,List.drop_left]
   rw [e0,← NF];rw [hL2,← ey];exact oC
  exact ⟨rfl,⟨e1,e2,e3,xC,⟨vz,hCb,oC'⟩,mapC⟩,(((((x1.kp.trans g2).trans x3.kp).trans gZ).trans xA.kp).trans (Mv.kpRow (e6.ext xA) mB)).trans (Mv.kpRow oB mC)⟩
 all_goals obtain ⟨y,ey,ny⟩:=hpre
 all_goals generalize bP r l2 ps=Z at *
 all_goals obtain ⟨e1,e2,e3,e4,⟨vz,e5,e6⟩,e7⟩:=hZ
 all_goals have hpz:=aA (cs:=CV vz m) e5
 all_goals have hslz:=e6.sl
 all_goals have hbz:(aJ Z.1).length=Z.1.length:=by simp [aJ]
 all_goals have hbl:(aJ l).length=l.length:=by simp [aJ]
 all_goals have hlz:Z.1.length=l.length + 2 + y.length:=by rw [ey,List.length_append,hl2]
 all_goals refine_lift aL ?_
 all_goals have hn:((aJ Z.1).length:Int) - (aJ l).length - 2=((Z.1.length - l.length - 2:Nat):Int):=aC
 all_goals rw [hn]
 all_goals refine aV 19 (fun w'=>Pts w' (.pointer (some ⟨b,0,none⟩)) (CV vz m)∧∃ es:List (List Value),es.length=Z.1.length∧Sl 1 w' vz es) zDk ?_
 all_goals intro wA xA _
 all_goals refine ⟨⟨hpz.ext xA,aJ Z.1,hbz,hslz.ext xA⟩,?_⟩
 all_goals refine bH 0 ?_;refine bH 1 ?_;refine bH 2 ?_
 all_goals refine BG (i:=3) (v:=vz) rfl rfl (fun w' hF=>by obtain ⟨hF,_⟩:=hF;exact DF) ?_
 all_goals refine aB ?_
 all_goals refine bH 4 ?_;refine bH 5 ?_;refine bH 6 ?_;refine bH 7 ?_
 all_goals refine BG (i:=8) (v:=vz) rfl rfl (fun w' hF=>by obtain ⟨hF,_⟩:=hF;exact DF) ?_
 all_goals refine aB ?_
 all_goals refine bH 9 ?_;refine bH 10 ?_;refine bH 11 ?_;refine bH 12 ?_;refine bH 13 ?_;refine bH 14 ?_;refine bH 15 ?_
 all_goals refine BG (i:=16) (v:=eG vz (l.length * 1)) rfl rfl (fun w' hF=>by obtain ⟨_,es,h1,h2⟩:=hF;rw [← hbl];exact Runs.idxT rfl h2 aC zDk) ?_
 all_goals refine aB ?_
 all_goals refine eF 17 ?_
 all_goals refine gU (c:=.int .u8 (IntKind.u8.wrap (((Z.1.length - l.length - 2:Nat):Int) / 2 ^ Int.toNat 8))) (i:=l.length) rfl rfl rfl (e6.ext xA) aC zDk rfl ?_
 all_goals intro wB oB mB
 all_goals have pB:=aA (cs:=CV vz m) (mB.at (xA.at e5) (fun e=>(e6.neBlock e5 aH) e.symm))
 all_goals refine aD ⟨aZ ⟨pB,_,by rw [List.length_set];exact hbz,oB.sl⟩,?_⟩
 all_goals have hslB:=oB.sl
 all_goals have hlB:((aJ Z.1).set l.length [.int .u8 (IntKind.u8.wrap (((Z.1.length - l.length - 2:Nat):Int) / 2 ^ Int.toNat 8))]).length=Z.1.length:=by rw [List.length_set];exact hbz
 all_goals refine eF 18 ?_
 all_goals refine aG (v:=eG vz ((l.length + 1) * 1)) (by rw [← hbl];exact Runs.idxT rfl hslB aC zDk) ?_
 all_goals refine aB ?_
 all_goals refine aD ⟨aZ ⟨pB,_,hlB,hslB⟩,?_⟩
 all_goals refine eF 19 ?_
 all_goals refine gU (c:=.int .u8 (IntKind.u8.wrap ((Z.1.length - l.length - 2:Nat):Int))) (i:=l.length + 1) rfl rfl rfl oB aC zDk rfl ?_
 all_goals intro wC oC mC
 all_goals refine aD ⟨aQ rfl,?_⟩
 all_goals refine nX ?_
 all_goals refine_lift aL ?_
 all_goals go_end0
 all_goals have hBb:=mB.at (xA.at e5) (fun e=>(e6.neBlock e5 aH) e.symm)
 all_goals have hCb:=mC.at hBb (fun e=>(oB.neBlock hBb aH) e.symm)
 all_goals have xC:Ext w0 wC:=((e4.trans xA).move mB (fun k e=>((e6.ext xA).block k e).1)).move mC (fun k e=>(oB.block k e).1)
 all_goals have mapC:=((e7.at (fun o h=>xA.at h)).mvr mB (e6.ext xA) rfl).mvr mC oB rfl
 all_goals have oC':Own w0.heap.size 1 5 wC vz (aJ (l ++ aK (Z.1.length - l.length - 2) ++ Z.1.drop (l.length + 2))):=by rw [show Z.1.drop (l.length + 2)=y by rw [ey,← hl2,List.drop_left],← NF,hL2,← ey];exact oC
 all_goals exact ⟨rfl,⟨e1,e2,e3,xC,⟨vz,hCb,oC'⟩,mapC⟩,(((((x1.kp.trans g2).trans x3.kp).trans gZ).trans xA.kp).trans (Mv.kpRow (e6.ext xA) mB)).trans (Mv.kpRow oB mC)⟩
structure RecOk (r:Rec):Prop where
 nm:(aM r.name).isSome=true
 k0:1≤r.kind
 k1:r.kind≤65535
 t0:0≤r.ttl
 t1:r.ttl≤2147483647
 d:r.data.length≤4000
 soa:r.kind=6→(aM (dX r.data).main).isSome=true∧(aM (dX r.data).mail).isSome=true∧20≤r.data.length
theorem zB {o:Option (List UInt8)} (h:o.isSome=true):∃ n,o=some n∧o.getD []=n:=by
 cases o with
 | none=>cases h
 | some n=>exact ⟨n,rfl,rfl⟩
theorem uY (h:(bF s).2.2=true):(aM (bF s).1).isSome=true∧(bF s).2.1.length≤s.length:=by
 unfold bF at h ⊢;split
 ·rename_i c;rw [if_pos c] at h;cases h
 ·rename_i c;rw [if_neg c] at h;dsimp only at h ⊢;obtain ⟨n,h1,h2⟩:=zB h;rw [h2];exact ⟨(nL h1).2,by rw [List.length_drop];omega⟩
theorem KI (h:(cA d).isSome=true):(aM (dX d).main).isSome=true∧(aM (dX d).mail).isSome=true∧20≤d.length:=by
 unfold dX;unfold cA at h ⊢;dsimp only at h ⊢;split at h
 ·rename_i c;rw [if_pos c];obtain ⟨c1,c2,c3,c4⟩:=c;have a:=uY c1;have b:=uY c2;refine ⟨a.1,b.1,aC⟩
 ·cases h
theorem tO {r:Rec} (h:aW r=0):RecOk r:=by
 unfold aW at h;split at h
 ·cases h
 ·split at h
  ·cases h
  ·rename_i c1 c2;split at h
   ·rename_i c3;refine ⟨c3,aC,aC,aC,aC,aC,fun e => ?_⟩;have hf:fits r.kind r.data=true:=by
     cases hf:fits r.kind r.data with
     | true=>rfl
     | false=>exact absurd (by simp [hf]) c2
    rw [e] at hf;exact KI (by simpa [fits] using hf)
   ·cases h
def flagN (is:Bool) (n:Nat):Nat:=if is=true then n else 0
def gG (m:MsgR):Nat:=(((((flagN m.resp 32768 ||| m.op.toNat * 2048) ||| flagN m.auth 1024) ||| flagN m.trunc 512) ||| flagN m.want 256) ||| flagN m.avail 128) ||| m.rcode.toNat
abbrev AV:=List UInt8 × List (List UInt8 × Nat)
def qW (x:AV) (q:gE):AV:=((aS (cX q.1) x.1 x.2).1 ++ aK q.2.toNat ++ aK 1,(aS (cX q.1) x.1 x.2).2)
def fC (x:AV) (r:Rec):AV:=iX r ((aS (cX r.name) x.1 x.2).1 ++ aK r.kind.toNat ++ aK 1 ++ fK r.ttl.toNat) (aS (cX r.name) x.1 x.2).2
def fE (m:MsgR):List UInt8:=aK m.id.toNat ++ aK (gG m) ++ aK m.qs.length ++ aK m.an.length ++ aK m.au.length ++ aK (m.ex.length + flagN (!decide (m.size=0)) 1)
def sO (m:MsgR):List UInt8:=if m.size=0 then [] else [0] ++ aK 41 ++ aK m.size.toNat ++ fK 0 ++ aK 0
def gY (m:MsgR):AV:=m.ex.foldl fC (m.au.foldl fC (m.an.foldl fC (m.qs.foldl qW (fE m,[]))))
def iA (m:MsgR):List UInt8:=(gY m).1 ++ sO m
def aT (m:MsgR):List UInt8 × Int:=if bZ m≠0 then ([],bZ m) else if 65535 < (iA m).length then ([],4) else (iA m,0)
theorem PW (x:AV) (q:gE) (h:Keys x.2):Keys (qW x q).2:=gS _ _ _ h
theorem EQ (r:Rec) (l:List UInt8) (ps:List (List UInt8 × Nat)) (h:Keys ps):Keys (iX r l ps).2:=by
 unfold iX bP;dsimp only;split
 ·exact gS _ _ _ (gS _ _ _ h)
 ·split
  ·exact gS _ _ _ h
  ·exact h
theorem KJ (x:AV) (r:Rec) (h:Keys x.2):Keys (fC x r).2:=EQ _ _ _ (gS _ _ _ h)
theorem sP (h:(aM n).isSome=true) (x:AV):∃ t,(aS (cX n) x.1 x.2).1=x.1 ++ t∧t.length≤256:=by
 obtain ⟨t,h1,h2⟩:=iW (cX n) x.1 x.2;have:=fR h;rw [this.2.1] at h2;exact ⟨t,h1,aC⟩
theorem NG {q:gE} (h:mD q=true) (x:AV):(qW x q).1.length≤x.1.length + 260:=by
 have hs:(aM q.1).isSome=true:=by
  simp only [mD,fN,Bool.and_eq_true,decide_eq_true_eq] at h;have h:=h.1.1;split at h
  ·assumption
  ·cases h
 obtain ⟨t,h1,h2⟩:=sP hs x;simp [qW,h1,aK];omega
theorem yH {r:Rec} (h:RecOk r) (l:List UInt8) (ps:List (List UInt8 × Nat)):∃ y,(iX r l ps).1=l ++ y∧y.length≤5002:=by
 obtain ⟨y,h1,h2⟩:=sN r (l ++ aK 0) ps h.d h.soa;unfold iX;dsimp only;rw [h1];refine ⟨aK ((l ++ aK 0 ++ y).length - l.length - 2) ++ y,?_,by simp [aK];omega⟩;rw [show (l ++ aK 0 ++ y).drop (l.length + 2)=y by rw [show l.length + 2=(l ++ aK 0).length by simp [aK],List.drop_left]];rw [List.append_assoc]
theorem NH {r:Rec} (h:RecOk r) (x:AV):(fC x r).1.length≤x.1.length + 6000:=by
 obtain ⟨t,h1,h2⟩:=sP h.nm x;obtain ⟨y,h3,h4⟩:=yH h ((aS (cX r.name) x.1 x.2).1 ++ aK r.kind.toNat ++ aK 1 ++ fK r.ttl.toNat) (aS (cX r.name) x.1 x.2).2;unfold fC;rw [h3,h1];simp [aK,fK];omega
structure MsgOk (m:MsgR):Prop where
 id:0≤m.id∧m.id≤65535
 op:0≤m.op∧m.op≤15
 rc:0≤m.rcode∧m.rcode≤15
 sz:m.size=0∨(512≤m.size∧m.size≤65535)
 ql:m.qs.length≤10
 qs:∀ q ∈ m.qs,mD q=true
 nl:m.an.length≤200
 an:∀ r ∈ m.an,aW r=0
 ul:m.au.length≤200
 au:∀ r ∈ m.au,aW r=0
 el:m.ex.length≤200
 ex:∀ r ∈ m.ex,aW r=0
theorem rD {l:List Rec} (h:fT l=true):l.length≤200∧∀ r ∈ l,aW r=0:=by
 simp only [fT,Bool.and_eq_true,decide_eq_true_eq,Bool.not_eq_true',List.any_eq_false] at h;refine ⟨h.1,fun r hr => ?_⟩
 simpa using h.2 r hr
theorem iY {m:MsgR} (h:bZ m=0):MsgOk m:=by
 unfold bZ at h;split at h
 ·rename_i c;simp only [Bool.and_eq_true,fO,decide_eq_true_eq,Bool.or_eq_true,List.all_eq_true] at c;obtain ⟨⟨⟨⟨⟨c1,c2⟩,c3⟩,c4⟩,c5,c6⟩,⟨c7,c8⟩,c9⟩:=c;have c7:=rD c7;have c8:=rD c8;have c9:=rD c9;exact ⟨c1,c2,c3,c4,c5,c6,c7.1,c7.2,c8.1,c8.2,c9.1,c9.2⟩
 ·cases h
theorem kM (is:Bool) (n:Nat):flagN is n≤n:=by unfold flagN;split <;> omega
theorem KK (ha:a < 65536) (hb:b < 65536):a ||| b < 65536:=Nat.or_lt_two_pow (x:=a) (y:=b) (n:=16) ha hb
def yI (m:MsgR):List Nat:=[m.qs.length,m.an.length,m.au.length,m.ex.length + flagN (!decide (m.size=0)) 1]
theorem yJ {q:gE} (h:mD q=true):(aM q.1).isSome=true∧1≤q.2∧q.2≤65535:=by
 simp only [mD,fN,Bool.and_eq_true,decide_eq_true_eq] at h;obtain ⟨⟨h1,h2,h3⟩,_⟩:=h;refine ⟨?_,h2,h3⟩;split at h1
 ·assumption
 ·cases h1
theorem NI (v:Value) (l:List gE) (w:World) (hv:Sl 2 w v (cG l)) (hl:l.length≤1000000):Calls Tryz.prog 129 #[v] w (pX w fun v' w'=>Own w.heap.size 2 28 w' v' (cG l)):=by
 have hlen:=dR l;go_enter Tryz.func129,Tryz.ntmps129
 (repeat' first | ((with_reducible refine eN ?_);go_step) | ((with_reducible refine cB ?_);first | refine iF ?_ | (refine fA ?_ ?_ <;> intro hc)) | fail)
 ·have hn:=‹zI v=true›;go_ret;have:cG l=[]:=hv.isNil hn;refine ⟨_,rfl,Ext.refl _,?_⟩;rw [this];exact Own.nil _ _ _ _
 ·refine nA (t:=22) (e:=28) (k:=2) (bytes:=24) zDk rfl ?_;intro v2 w2 x2 s2 o2;refine aB ?_;refine_lift aL ?_;refine dA (B:=w.heap.size) (e:=28) rfl o2 rfl (hv.ext x2) GO x2.size (by simp;omega) ?_;intro v3 w3 o3 m3 _;have x3:=o2.mvx m3 x2 (Nat.le_refl _);refine aB ?_;refine_lift aL ?_;go_ret;exact ⟨_,rfl,x3,by simpa using o3⟩
def cI:Value:=.slice none 0 0
theorem NJ (is:Bool) (n:Int) (w:World):Calls Tryz.prog 30 #[.bool is, .int .i64 n] w (bG w (.int .i64 (if is=true then n else 0))):=by
 go_enter Tryz.func30,Tryz.ntmps30
 cases is with
 | true =>
  refine_lift aL ?_;go_ret;exact ⟨rfl,Ext.refl _⟩
 | false =>
  refine_lift aL ?_;go_ret;exact ⟨rfl,Ext.refl _⟩
structure RecW where
 name:List UInt8
 kind:Nat
 cls:Nat
 r3:RdS
def eQ (s:List UInt8) (r:RdS):RecW :=
 ⟨(fJ s r).1,((fJ s r).2.number s 2).1,(((fJ s r).2.number s 2).2.number s 2).1,(((fJ s r).2.number s 2).2.number s 2).2⟩
def CG (s:List UInt8) (last:Bool) (n i:Nat) (x:RecW):RdS :=
 ((x.r3.number s 4).2.number s 2).2.want (last && (decide ((i:Int)=(n:Int) - 1) && (decide (x.name=[]) && (decide ((512:Int)≤(x.cls:Nat)) && (decide (((x.r3.number s 4).1:Int)=0) && decide ((((x.r3.number s 4).2.number s 2).1:Int)=0)))))) 2
def lH (s:List UInt8) (x:RecW):Nat × RdS:=(x.r3.want (decide (((x.cls:Nat):Int)=1)) 2).number s 4
def nQ (s:List UInt8) (x:RecW):List UInt8 × RdS:=((lH s x).2.number s 2).2.data s x.kind ((lH s x).2.number s 2).1
def tP (s:List UInt8) (x:RecW):Rec:=⟨x.name,x.kind,(lH s x).1,(nQ s x).1⟩
def sQ (s:List UInt8) (i:Nat) (x:RecW):RdS:=(nQ s x).2.want (decide ((i:Int) < 200) && decide (aW (tP s x)=0)) 2
def lC (s:List UInt8) (last:Bool) (n:Nat):Nat→Nat→List Rec→RdS→List Rec × Nat × RdS
 | 0,_,l,r=>(l,0,r)
 | f + 1,i,l,r=>if r.e≠0 then (l,0,r) else
   if (eQ s r).kind=41∧(eQ s r).r3.e=0 then (l,(eQ s r).cls,CG s last n i (eQ s r))
   else lC s last n f (i + 1) (l ++ [tP s (eQ s r)]) (sQ s i (eQ s r))
def gM (s:List UInt8) (r:RdS) (n:Nat) (last:Bool):List Rec × Nat × RdS:=lC s last n n 0 [] (r.want (decide ((n:Int)≤200 + (if last=true then 1 else 0))) 2)
def CH (w:World) (b:Nat) (s:List UInt8) (o:List Rec × Nat × RdS) (e:Ending) (w':World):Prop:=∃ v,e=.returned (.tuple #[v, .int .i64 (o.2.1:Nat)])∧Own w.heap.size 4 61 w' v (aF o.1)∧cV w' b s o.2.2∧Mv (some b) w w'
theorem IK {r:RdS} (hr:r.Ok s) (hs:s.length≤100000000) (kind:Int) {n:Int} (hn:0≤n):(r.data s kind n).2.Ok s:=by
 have hw:=hr.want (decide (r.at_ + n≤(s.length:Int))) (er:=3) aH;unfold RdS.data;dsimp only;split
 ·exact hw
 ·refine RdS.Ok.want ?_ _ aH;split
  ·exact (kY hw hs).2
  ·split
   ·exact (kY (hw.take hs aC) hs).2
   ·split
    ·exact (kY (kY hw hs).2 hs).2.take hs aC
    ·exact hw.take hs hn
theorem nR {r:RdS} (hr:r.Ok s) (hs:s.length≤100000000):(eQ s r).r3.Ok s:=bY (bY (pD hr hs).2 hs aC) hs aC
theorem GZ {x:RecW} (hr:x.r3.Ok s) (hs:s.length≤100000000) (i:Nat):(sQ s i x).Ok s:=by
 unfold sQ nQ lH;exact RdS.Ok.want (IK (bY (bY (hr.want _ aH) hs aC) hs aC) hs _ (Int.natCast_nonneg _)) _ aH
theorem tQ {r:RdS} (h:cV w b s r) (hr:r.Ok s) (hs:s.length≤1000000) (n:Nat) (hn1:n≤65535) (last:Bool):Calls Tryz.prog 41 #[.pointer (some ⟨b,0,none⟩), .int .i64 n, .bool last] w (CH w b s (gM s r n last)):=by
 have hs8:s.length≤100000000:=aC;have hwr:=hr.want (decide ((n:Int)≤200 + (if last=true then 1 else 0))) (er:=2) aH;have hgo:lC s last n n 0 [] (r.want (decide ((n:Int)≤200 + (if last=true then 1 else 0))) 2)=gM s r n last:=rfl;generalize gM s r n last=RES at *;go_enter Tryz.func41,Tryz.ntmps41
 refine_lift bK fun _ _ => ?_;refine bX (NJ last 1 _) fun w1 x1 => ?_;have h1:cV w1 b s r:=x1.at h;have hcw:=gB h1 (decide ((n:Int)≤200 + (if last=true then 1 else 0))) 2;have hfl:(if last=true then (1:Int) else 0)≤1∧0≤(if last=true then (1:Int) else 0):=by split <;> decide
 generalize hF:(if last=true then (1:Int) else 0)=F at *;generalize r.want (decide ((n:Int)≤200 + F)) 2=r0 at *;refine_lift aL ?_;refine dJ hcw fun w2 h2 m2 => ?_;have m02:=(x1.mv (some b)).trans m2;have hbw:b < w.heap.size:=(Array.getElem?_eq_some_iff.1 h).1;refine_lift bK fun _ _ => ?_;go_loopw [6,7,8,9,10,11,12] (fun lv sz iv _ _ _ _ wr=>∃ (i:Nat) (l:List Rec) (r':RdS),i≤n∧iv=.int .i64 i∧sz=.int .i64 0∧Own w.heap.size 4 61 wr lv (aF l)∧l.length=i∧cV wr b s r'∧r'.Ok s∧Mv (some b) w wr∧lC s last n (n - i) i l r'=RES) (fun _ _ iv _ _ _ _ _=>n - (intOf iv).toNat)
 case atStart=>exact ⟨0,[],r0,Nat.zero_le _,rfl,rfl,Own.nil _ _ _ _,rfl,h2,hwr,m02,hgo⟩
 case round =>
  obtain ⟨i,l,r',hi,rfl,rfl,ho,hli,hR,hok,hm,hg⟩:=hrel;have hpr:=aA (cs:=vV s r') hR;by_cases c1:i < n
  ·by_cases c2:r'.e=0
   ·obtain ⟨f',hf'⟩:∃ f',n - i=f' + 1:=⟨n - i - 1,aC⟩;rw [hf'] at hg;unfold lC at hg;rw [if_neg (by simpa using c2)] at hg;have hX:=nR hok hs8;have hXe:eQ s r'=⟨(fJ s r').1,((fJ s r').2.number s 2).1,(((fJ s r').2.number s 2).2.number s 2).1,(((fJ s r').2.number s 2).2.number s 2).2⟩:=rfl;obtain ⟨hn1',hn2'⟩:=pD hok hs8;have hcn:=GY hR hok hs8;generalize hN:fJ s r'=N at *;obtain ⟨nm,q1⟩:=N;dsimp only at *;have hq2:=bY (n:=2) hn2' hs8 aC;have hk1:=dH s q1 2 aC;have hc1:=fun w' (h':cV w' b s q1)=>eE h' hn2' hs8 2 aC aC;generalize q1.number s 2=K at *;obtain ⟨kind,q2⟩:=K;dsimp only at *;have hq3:=bY (n:=2) hq2 hs8 aC;have hk2:=dH s q2 2 aC;have hc2:=fun w' (h':cV w' b s q2)=>eE h' hq2 hs8 2 aC aC;generalize q2.number s 2=C at *;obtain ⟨cls,q3⟩:=C;dsimp only at *;rw [hXe] at hg;have hk1':kind < 65536:=by simpa using hk1
    have hk2':cls < 65536:=by simpa using hk2
    (repeat' first | ((with_reducible refine eN ?_);go_step) | ((with_reducible refine cB ?_);first | refine iF ?_ | (refine fA ?_ ?_ <;> intro hc)) | fail)
    all_goals first
     | (exfalso;omega)
     | skip
    refine dJ hcn fun w3 h3 m3 => ?_;have ho3:=ho.mv m3 (.inr (ho.neBlock hR aH));refine_lift aL ?_;refine aG (v:=.agg #[aE nm, .int .i64 0, .int .i64 0,aE []]) (Runs.build rfl (by kernel_rfl)) ?_;refine aB ?_;refine eX (z:=gW) fun w4 x4 s4 h4 => ?_;refine aB ?_;refine fG (v:=.agg #[aE nm, .int .i64 0, .int .i64 0,aE []]) h4 (oH rfl rfl rfl rfl) fun w5 p5 => ?_;have x5:=eC x4 p5;have hx5:w5.heap[w3.heap.size]? = some (.cells [aE nm, .int .i64 0, .int .i64 0,aE []].toArray 61 (0,0)):=p5.this;have hb5:cV w5 b s q1:=x5.at h3;have ho5:=ho3.ext x5;have hv5:=GT ho3 w3.heap.size (Nat.le_refl _);have hm5:=(hm.trans m3).trans (x5.mv (some b));have hbn:b < w3.heap.size:=(Array.getElem?_eq_some_iff.1 h3).1;have hne:some w3.heap.size≠some b:=by intro e;have:=Option.some.inj e;omega
    have hwc:w.heap.size≤w3.heap.size:=(hm.trans m3).size;generalize w3.heap.size=c at *;clear h4 p5 x4 hpr hcn;refine_lift bK fun _ _ => ?_;refine dJ (hc1 _ hb5) fun w6 h6 m6 => ?_;have hx6:=m6.at hx5 hne;have hpx6:=aA hx6;have ho6:=ho5.mv m6 (.inr (ho5.neBlock hb5 aH));refine_lift aL ?_;refine fZ 1 (.int .i64 (kind:Nat)) hx6 rfl fun w7 p7 => ?_;have hx7:w7.heap[c]? = some (.cells [aE nm, .int .i64 (kind:Nat), .int .i64 0,aE []].toArray 61 (0,0)):=p7.this;have h7:cV w7 b s q2:=p7.mv.at h6 (by intro e;exact hne e.symm);have ho7:=ho6.mv p7.mv hv5;have hm7:=(hm5.trans m6).fresh p7.mv hwc;clear hpx6;refine_lift bK fun _ _ => ?_;refine dJ (hc2 _ h7) fun w8 h8 m8 => ?_;have hx8:=m8.at hx7 hne;have hpx8:=aA hx8;have hp8:=aA (cs:=vV s q3) h8;have ho8:=ho7.mv m8 (.inr (ho7.neBlock h7 aH));have hm8:=hm7.trans m8;by_cases ck:kind=41∧q3.e=0
    ·obtain ⟨ck,ce⟩:=ck;rw [if_pos ⟨ck,ce⟩] at hg
     (repeat' first | ((with_reducible refine eN ?_);go_step) | ((with_reducible refine cB ?_);first | refine iF ?_ | (refine fA ?_ ?_ <;> intro hc)) | fail)
     all_goals first
      | (exfalso;omega)
      | skip
     have hq4:=bY (n:=4) hq3 hs8 aC;have hk3:=dH s q3 4 aC;have hc3:=eE h8 hq3 hs8 4 aC aC;generalize hT:q3.number s 4=T at *;obtain ⟨ttl,q4⟩:=T;dsimp only at *;have hk4:=dH s q4 2 aC;have hc4:=fun w' (h':cV w' b s q4)=>eE h' hq4 hs8 2 aC aC;generalize hD:q4.number s 2=D at *;obtain ⟨dl,q5⟩:=D;dsimp only at *;refine dJ hc3 fun w9 h9 m9 => ?_;have hx9:=m9.at hx8 hne;have ho9:=ho8.mv m9 (.inr (ho8.neBlock h8 aH));have hm9:=hm8.trans m9;refine_lift aL ?_;refine dJ (hc4 _ h9) fun w10 h10 m10 => ?_;have hx10:=m10.at hx9 hne;have hpx10:=aA hx10;have ho10:=ho9.mv m10 (.inr (ho9.neBlock h9 aH));have hm10:=hm9.trans m10;clear hpx8 hp8;have hcw2:=gB h10 (last && (decide ((i:Int)=(n:Int) - 1) && (decide (nm=[]) && (decide ((512:Int)≤(cls:Nat)) && (decide ((ttl:Int)=0) && decide ((dl:Int)=0)))))) 2;have hg2:(l,cls,q5.want (last && (decide ((i:Int)=(n:Int) - 1) && (decide (nm=[]) && (decide ((512:Int)≤(cls:Nat)) && (decide ((ttl:Int)=0) && decide ((dl:Int)=0)))))) 2)=RES:=by rw [← hg];simp only [CG,hT,hD]
     generalize q5.want (last && (decide ((i:Int)=(n:Int) - 1) && (decide (nm=[]) && (decide ((512:Int)≤(cls:Nat)) && (decide ((ttl:Int)=0) && decide ((dl:Int)=0)))))) 2=qe at *;clear hg
     (repeat' first | ((with_reducible refine eN ?_);go_step) | ((with_reducible refine cB ?_);first | refine iF ?_ | (refine fA ?_ ?_ <;> intro hc)) | fail)
     all_goals refine cL (vs:=[.pointer (some ⟨b,0,none⟩), .bool (last && (decide ((i:Int)=(n:Int) - 1) && (decide (nm=[]) && (decide ((512:Int)≤(cls:Nat)) && (decide ((ttl:Int)=0) && decide ((dl:Int)=0)))))), .int .i64 2]) (enters_of Tryz.func38 rfl rfl) rfl ?_ hcw2 ?_
     all_goals first
      | (refine congrArg (fun z=>[Value.pointer (some ⟨b,0,none⟩),Value.bool z, .int .i64 2]) ?_;simp only [*,decide_true,decide_false,Bool.and_true,Bool.true_and,Bool.and_false,Bool.false_and,and_self,not_false_eq_true];done)
      | skip
     all_goals rintro _ w11 ⟨rfl,h11,m11⟩
     all_goals refine ⟨_,rfl,?_⟩
     all_goals refine aB ?_
     all_goals have ho11:=ho10.mv m11 (.inr (ho10.neBlock h10 aH))
     all_goals have hm11:=hm10.trans m11
     all_goals refine_lift aL ?_
     all_goals go_ret2
     all_goals rw [← hg2]
     all_goals exact ⟨_,rfl,ho11,h11,hm11⟩
    ·rw [if_neg ck] at hg;have hw3:=hq3.want (decide ((cls:Int)=1)) (er:=2) aH;have hcw3:=gB h8 (decide ((cls:Int)=1)) 2;have hN9:sQ s i ⟨nm,kind,cls,q3⟩=(nQ s ⟨nm,kind,cls,q3⟩).2.want (decide ((i:Int) < 200) && decide (aW (tP s ⟨nm,kind,cls,q3⟩)=0)) 2:=rfl;have hR9:tP s ⟨nm,kind,cls,q3⟩=⟨nm,kind,(lH s ⟨nm,kind,cls,q3⟩).1,(nQ s ⟨nm,kind,cls,q3⟩).1⟩:=rfl;have hD9:nQ s ⟨nm,kind,cls,q3⟩=((lH s ⟨nm,kind,cls,q3⟩).2.number s 2).2.data s kind ((lH s ⟨nm,kind,cls,q3⟩).2.number s 2).1:=rfl;have hT9:lH s ⟨nm,kind,cls,q3⟩=(q3.want (decide ((cls:Int)=1)) 2).number s 4:=rfl;generalize q3.want (decide ((cls:Int)=1)) 2=y1 at *;have hy2:=bY (n:=4) hw3 hs8 aC;have hk3:=dH s y1 4 aC;have hc3:=fun w' (h':cV w' b s y1)=>eE h' hw3 hs8 4 aC aC;generalize y1.number s 4=T at *;obtain ⟨ttl,y2⟩:=T;rw [hT9] at hD9 hR9;dsimp only at *;have hy3:=bY (n:=2) hy2 hs8 aC;have hk4:=dH s y2 2 aC;have hc4:=fun w' (h':cV w' b s y2)=>eE h' hy2 hs8 2 aC aC;generalize y2.number s 2=D at *;obtain ⟨dl,y3⟩:=D;dsimp only at *;have hk4':dl < 65536:=by simpa using hk4
     have hy4:=IK hy3 hs8 kind (n:=(dl:Nat)) (Int.natCast_nonneg _);have hc5:=fun w' (h':cV w' b s y3)=>TE h' hy3 hs kind (dl:Nat) (Int.natCast_nonneg _) aC;generalize y3.data s kind (dl:Nat)=E9 at *;obtain ⟨dat,y4⟩:=E9;rw [hD9] at hR9 hN9;dsimp only at *;rw [hR9] at hN9 hg;rw [hN9] at hg;clear hN9 hR9 hD9 hT9;have hy5:=hy4.want (decide ((i:Int) < 200) && decide (aW ⟨nm,kind,ttl,dat⟩=0)) (er:=2) aH;have hc6:=fun w' (h':cV w' b s y4)=>gB h' (decide ((i:Int) < 200) && decide (aW ⟨nm,kind,ttl,dat⟩=0)) 2;generalize y4.want (decide ((i:Int) < 200) && decide (aW ⟨nm,kind,ttl,dat⟩=0)) 2=y5 at *
     (repeat' first | ((with_reducible refine eN ?_);go_step) | ((with_reducible refine cB ?_);first | refine iF ?_ | (refine fA ?_ ?_ <;> intro hc)) | fail)
     all_goals first
      | (exfalso;omega)
      | skip
     all_goals refine fY hcw3 ?_
     all_goals rintro _ w9 ⟨rfl,h9,m9⟩
     all_goals refine ⟨_,rfl,?_⟩
     all_goals refine aB ?_
     all_goals have hx9:=m9.at hx8 hne
     all_goals have hpx9:=aA hx9
     all_goals have ho9:=ho8.mv m9 (.inr (ho8.neBlock h8 aH))
     all_goals have hm9:=hm8.trans m9
     all_goals clear hpx8 hp8
     all_goals refine_lift bK fun _ _ => ?_
     all_goals refine fY (hc3 _ h9) ?_
     all_goals rintro _ w10 ⟨rfl,h10,m10⟩
     all_goals refine ⟨_,rfl,?_⟩
     all_goals refine aB ?_
     all_goals have hx10:=m10.at hx9 hne
     all_goals have hpx10:=aA hx10
     all_goals have ho10:=ho9.mv m10 (.inr (ho9.neBlock h9 aH))
     all_goals have hm10:=hm9.trans m10
     all_goals clear hpx9
     all_goals refine_lift aL ?_
     all_goals refine fZ 2 (.int .i64 (ttl:Nat)) hx10 rfl ?_
     all_goals intro w11 p11
     all_goals have hx11:w11.heap[c]? = some (.cells [aE nm, .int .i64 (kind:Nat), .int .i64 (ttl:Nat),aE []].toArray 61 (0,0)):=p11.this
     all_goals have h11:cV w11 b s y2:=p11.mv.at h10 (by intro e;exact hne e.symm)
     all_goals have ho11:=ho10.mv p11.mv hv5
     all_goals have hm11:=hm10.fresh p11.mv hwc
     all_goals clear hpx10
     all_goals refine_lift bK fun _ _ => ?_
     all_goals refine aV 5 (fun w'=>Pts w' (.pointer (some ⟨c,0,none⟩)) [aE nm, .int .i64 (kind:Nat), .int .i64 (ttl:Nat),aE []]) zDk ?_
     all_goals intro w12 x12 _
     all_goals have hx12:=x12.at hx11
     all_goals have h12:cV w12 b s y2:=x12.at h11
     all_goals have ho12:=ho11.ext x12
     all_goals have hm12:=hm11.trans (x12.mv _)
     all_goals refine ⟨aA hx12,?_⟩
     all_goals refine bH 0 ?_;refine bH 1 ?_;refine bH 2 ?_;refine bH 3 ?_
     all_goals refine eF 4 ?_
     all_goals refine fY (hc4 _ h12) ?_
     all_goals rintro _ w13 ⟨rfl,h13,m13⟩
     all_goals refine ⟨_,rfl,?_⟩
     all_goals refine aB ?_
     all_goals have hx13:=m13.at hx12 hne
     all_goals have ho13:=ho12.mv m13 (.inr (ho12.neBlock h12 aH))
     all_goals have hm13:=hm12.trans m13
     all_goals refine aD ⟨aZ (aA hx13),?_⟩
     all_goals refine eF 5 ?_
     all_goals refine fY (hc5 _ h13) ?_
     all_goals rintro _ w14 ⟨rfl,h14,m14⟩
     all_goals refine ⟨_,rfl,?_⟩
     all_goals refine aB ?_
     all_goals have hx14:=m14.at hx13 hne
     all_goals have hpx14:=aA hx14
     all_goals have ho14:=ho13.mv m14 (.inr (ho13.neBlock h13 aH))
     all_goals have hm14:=hm13.trans m14
     all_goals refine aD ⟨aQ rfl,?_⟩
     all_goals refine eF 6 ?_
     all_goals ((with_reducible refine cB ?_);(first | (refine jO ?_;refine fX ?_) | (refine nC ?_;refine pI ?_;(with_reducible refine cB ?_);refine jO ?_;refine fX ?_)))
     all_goals refine aD ⟨aQ rfl,?_⟩
     all_goals refine eF 7 ?_
     all_goals refine fZ 3 (aE dat) hx14 rfl ?_
     all_goals intro w15 p15
     all_goals have hx15:w15.heap[c]? = some (.cells [aE nm, .int .i64 (kind:Nat), .int .i64 (ttl:Nat),aE dat].toArray 61 (0,0)):=p15.this
     all_goals have hpx15:=aA hx15
     all_goals have h15:cV w15 b s y4:=p15.mv.at h14 (by intro e;exact hne e.symm)
     all_goals have ho15:=ho14.mv p15.mv hv5
     all_goals have hm15:=hm14.fresh p15.mv hwc
     all_goals clear hpx14
     all_goals refine aD ⟨aQ rfl,?_⟩
     all_goals refine nX ?_
     all_goals refine_lift FU (fun _ _ hc => ?_) (fun _ _ hc => ?_)
     all_goals first
      | (refine bX (UL ⟨nm,kind,ttl,dat⟩ _) fun w16 x16 => ?_
         have h16:=x16.at h15;have hx16:=x16.at hx15;have hpx16:=aA hx16;have ho16:=ho15.ext x16;have hm16:=hm15.trans (x16.mv _);refine_lift aL ?_)
      | (have h16:=h15
         have hx16:=hx15;have hpx16:=hpx15;have ho16:=ho15;have hm16:=hm15)
     all_goals clear hpx15
     all_goals refine cL (vs:=[.pointer (some ⟨b,0,none⟩), .bool (decide ((i:Int) < 200) && decide (aW ⟨nm,kind,ttl,dat⟩=0)), .int .i64 2]) (enters_of Tryz.func38 rfl rfl) rfl ?_ (hc6 _ h16) ?_
     all_goals first
      | (refine congrArg (fun z=>[Value.pointer (some ⟨b,0,none⟩),Value.bool z, .int .i64 2]) ?_;simp [*];done)
      | skip
     all_goals rintro _ w17 ⟨rfl,h17,m17⟩
     all_goals refine ⟨_,rfl,?_⟩
     all_goals refine aB ?_
     all_goals have hpx17:Pts w17 (.pointer (some ⟨c,0,none⟩)) [aE nm, .int .i64 (kind:Nat), .int .i64 (ttl:Nat),aE dat]:=aA (m17.at hx16 hne)
     all_goals have ho17:=ho16.mv m17 (.inr (ho16.neBlock h16 aH))
     all_goals have hm17:=hm16.trans m17
     all_goals clear hpx16
     all_goals refine_lift aL ?_
     all_goals refine qP (e:=61) (k:=4) (bytes:=48) (xs:=[.agg #[aE nm, .int .i64 (kind:Nat), .int .i64 (ttl:Nat),aE dat]]) (by simp [Value.cells]) ?_
     all_goals intro u18 w18 x18 _ sl18 o18
     all_goals refine aB ?_
     all_goals have h18:cV w18 b s y5:=x18.at h17
     all_goals have ho18:=ho17.ext x18
     all_goals have hm18:=hm17.trans (x18.mv _)
     all_goals refine dA (v0:=u6) (es:=aF l) (fs:=[[aE nm, .int .i64 (kind:Nat), .int .i64 (ttl:Nat),aE dat]]) rfl ho18 rfl sl18 (by simp [aE,Value.oneCell']) hm18.size (by simp [aF];omega) ?_
     all_goals intro v19 w19 o19 m19 _
     all_goals refine aB ?_
     all_goals have h19:cV w19 b s y5:=m19.at h18 (fun e=>(ho18.neBlock h18 aH) e.symm)
     all_goals have hm19:=hm18.fresh' m19 (fun c hc=>(ho18.block c hc).1)
     all_goals refine_lift aL ?_
     all_goals refine ⟨⟨i + 1,l ++ [⟨nm,kind,ttl,dat⟩],y5,aC,by go_num,rfl,by simpa [aF,Rec.cells] using o19,by simp [hli],h19,hy5,hm19,?_⟩,by simp [intOf];omega⟩
     all_goals rw [show n - (i + 1)=f' by omega]
     all_goals exact hg
   ·obtain ⟨f',hf'⟩:∃ f',n - i=f' + 1:=⟨n - i - 1,aC⟩;rw [hf'] at hg;unfold lC at hg;rw [if_pos c2] at hg;refine_lift SK (fun hc => ?_) (fun hc _ => ?_)
    all_goals first
     | (exfalso;omega)
     | skip
    go_ret2;rw [← hg];exact ⟨_,rfl,ho,hR,hm⟩
  ·have hn0:n - i=0:=aC;rw [hn0] at hg;unfold lC at hg;refine_lift lS fun hc => ?_
   all_goals first
    | (exfalso;omega)
    | skip
   go_ret2;rw [← hg];exact ⟨_,rfl,ho,hR,hm⟩
end Go.Proofs.X
