/- Laws and walks that the proof of the statement is made of (part 9). -/
import Derived.Test.YtdblpgbielpngaaGreatRows
import Derived.Test.YtdblpgbielpngaaGreatP8
set_option linter.unusedSimpArgs false
set_option linter.unusedVariables false
set_option maxRecDepth 100000
set_option maxHeartbeats 20000000
namespace Go.Proofs.X
open Go.RowKit
variable {cs:Array Value} {held:Bool} {qt:Int} {ps rs:List (List UInt8 × Nat)} {ls:List (List UInt8)} {css css0 es:List (List Value)} {d l m n o qn s t x y z:List UInt8} {B a b base c e fuel i j k p q:Nat} {fz:Nat × Nat} {row:Option Nat} {r u v:Value} {w w' w0 w1 w2:World}
section
variable {P:Program} {w w0:World} {ts:List Value} {df:List Deferred} {d:Option Nat} {ty:TypeId} {ps:String} {af:Array Edge} {g:Option (Nat × Bool)}
end
theorem Own.same (h:Own B k e w v es) (hs:∀ r,v.ownBlock=some r→w'.heap[r]? = w.heap[r]?):Own B k e w' v es:=by
 obtain ⟨⟨h1,h2⟩,h3⟩:=h;refine ⟨⟨h1,?_⟩,h3⟩;rcases h2 with h2 | ⟨gg,cap,cur,fz,rfl,hb,hg,r⟩
 ·exact .inl h2
 ·exact .inr ⟨gg,cap,cur,fz,rfl,hb,by rw [hs gg rfl];exact hg,r⟩
structure RdS where
 at_:Int
 e:Int
 deriving DecidableEq
def jX (s:List UInt8) (r:RdS):List Value:=[aI s, .int .i64 r.at_, .int .i64 r.e]
def dT (w:World) (b:Nat) (s:List UInt8) (r:RdS):Prop:=w.heap[b]? = some (.cells (jX s r).toArray 89 (0,0))
def nQ (w:World) (b:Nat) (s:List UInt8) (v:Value) (r:RdS) (e:Ending) (w':World):Prop:=e=.returned v∧dT w' b s r∧Mv (some b) w w'
def RdS.want (r:RdS) (is:Bool) (er:Int):RdS:=if r.e=0∧is=false then ⟨r.at_,er⟩ else r
theorem iU {r:RdS} (h:dT w b s r) (is:Bool) (er:Int):Calls Tryz.prog 39 #[.pointer (some ⟨b,0,none⟩), .bool is, .int .i64 er] w (nQ w b s (.bool (decide ((r.want is er).e=0))) (r.want is er)):=by
 have hp:=aA (cs:=jX s r) h;go_enter Tryz.func39,Tryz.ntmps39
 by_cases c1:r.e=0
 ·cases is with
  | false =>
   have hE:r.want false er=⟨r.at_,er⟩:=by unfold RdS.want;rw [if_pos ⟨c1,rfl⟩]
   refine_lift LP (fun hc => ?_) (fun _ _ hc => ?_)
   all_goals first
    | (exfalso;omega)
    | skip
   refine eS 2 (.int .i64 er) h rfl fun w1 p1 => ?_;have h1:dT w1 b s ⟨r.at_,er⟩:=p1.this;have hp1:=aA (cs:=jX s ⟨r.at_,er⟩) h1;clear hp;refine_lift aX ?_;go_ret;rw [hE];exact ⟨rfl,h1,p1.mv⟩
  | true =>
   have hE:r.want true er=r:=by unfold RdS.want;rw [if_neg (by rintro ⟨_,h⟩;cases h)]
   refine_lift tK (fun hc => ?_) (fun hc => ?_)
   all_goals first
    | (exfalso;omega)
    | skip
   go_ret;rw [hE];exact ⟨rfl,h,Mv.refl _ _⟩
 ·have hE:r.want is er=r:=by unfold RdS.want;rw [if_neg (fun h=>c1 h.1)]
  refine_lift jS fun hc => ?_
  all_goals first
   | (exfalso;omega)
   | skip
  go_ret;rw [hE];exact ⟨rfl,h,Mv.refl _ _⟩
def RdS.take (s:List UInt8) (r:RdS) (n:Int):List UInt8 × RdS :=
 if r.e≠0 then ([],r) else if (s.length:Int) - r.at_ < n then ([],⟨r.at_,3⟩) else ((s.drop r.at_.toNat).take n.toNat,⟨r.at_ + n,0⟩)
structure RdS.Ok (s:List UInt8) (r:RdS):Prop where
 lo:0≤r.at_
 hi:r.e=0→r.at_≤s.length
 far:r.at_≤100000000
theorem RdS.Ok.want {r:RdS} (h:r.Ok s) (is:Bool) {er:Int} (he:er≠0):(r.want is er).Ok s:=by
 unfold RdS.want;split
 ·exact ⟨h.lo,fun e=>absurd e he,h.far⟩
 ·exact h
theorem RdS.Ok.take {r:RdS} (h:r.Ok s) (hs:s.length≤100000000) {n:Int} (hn:0≤n):(r.take s n).2.Ok s:=by
 unfold RdS.take;have:=h.lo;split
 ·exact h
 ·split
  ·exact ⟨h.lo,fun e=>(by cases e),h.far⟩
  ·exact ⟨by dsimp only;omega,fun _=>by dsimp only;omega,by dsimp only;omega⟩
theorem CH {r:RdS} (h:dT w b s r) (hr:r.Ok s) (hs:s.length≤100000000) (n:Int) (h0:0≤n) (h1:n≤100000000):Calls Tryz.prog 85 #[.pointer (some ⟨b,0,none⟩), .int .i64 n] w (nQ w b s (aI (r.take s n).1) (r.take s n).2):=by
 have hp:=aA (cs:=jX s r) h;have a0:=hr.lo;have a1:=hr.hi;have a2:=hr.far;go_enter Tryz.func85,Tryz.ntmps85
 refine_lift qQ fun _ _ _ _ => ?_;refine bE 13 (Ext w) aR ?_;intro w1 x1 _;refine ⟨x1,?_⟩;refine cI 0 ?_;refine cI 1 ?_;refine cI 2 ?_;refine cI 3 ?_;refine cI 4 ?_;refine cI 5 ?_;refine cI 6 ?_;refine cI 7 ?_;refine cI 8 ?_;refine cI 9 ?_;refine cI 10 ?_;refine cI 11 ?_;refine cI 12 ?_;have hw1:dT w1 b s r:=x1.at h;have hcw:=iU hw1 (decide (n≤(s.length:Int) - r.at_)) 3;by_cases c1:r.e=0∧n≤(s.length:Int) - r.at_
 ·obtain ⟨c1,c2⟩:=c1;have hR:r.take s n=((s.drop r.at_.toNat).take n.toNat,⟨r.at_ + n,0⟩):=by unfold RdS.take;rw [if_neg aE,if_neg aE]
  have hW:r.want (decide (n≤(s.length:Int) - r.at_)) 3=r:=by rw [decide_eq_true c2];unfold RdS.want;rw [if_neg (by rintro ⟨_,h⟩;cases h)]
  rw [hW,decide_eq_true c1] at hcw;refine fR 13 ?_;refine bK hcw fun w2 h2 m2 => ?_;refine aG ⟨bF rfl,?_⟩;refine fR 14 ?_
  ((with_reducible refine bM ?_);(first | (refine iX ?_;refine fG ?_) | (refine nV ?_;refine oW ?_;(with_reducible refine bM ?_);refine iX ?_;refine fG ?_)))
  refine aG ⟨bF rfl,?_⟩;refine qR ?_;have hp2:=aA (cs:=jX s r) h2;have m02:=(x1.mv (some b)).trans m2;clear hp;refine_lift cC fun _ _ => ?_;refine eS 1 (.int .i64 (r.at_ + n)) h2 rfl fun w3 p3 => ?_;have h3:dT w3 b s ⟨r.at_ + n,r.e⟩:=p3.this;have hp3:=aA (cs:=jX s ⟨r.at_ + n,r.e⟩) h3;have m03:=m02.trans p3.mv;clear hp2;have a3:=a1 c1;refine_lift cC fun _ _ => ?_;refine bS aR aR ?_;refine_lift oR ?_;intro w4 x4;refine_lift aX ?_;go_ret;rw [hR];refine ⟨?_,by rw [← c1];exact x4.at h3,m03.trans (x4.mv _)⟩;have e:List.drop (r.at_ + n - n).toNat (List.take (r.at_ + n).toNat s)=(s.drop r.at_.toNat).take n.toNat:=by
   rw [show r.at_ + n - n=r.at_ by omega,List.drop_take,show (r.at_ + n).toNat - r.at_.toNat=n.toNat by omega]
  show Ending.returned (aI _)=_;rw [e]
 ·have hne:(r.want (decide (n≤(s.length:Int) - r.at_)) 3).e≠0:=by
   unfold RdS.want;split
   ·exact fun e=>by cases e
   ·rename_i c;intro e;exact c1 ⟨e,by
     by_cases h9:n≤(s.length:Int) - r.at_
     ·exact h9
     ·exact absurd ⟨e,decide_eq_false h9⟩ c⟩
  have hR:r.take s n=([],r.want (decide (n≤(s.length:Int) - r.at_)) 3):=by
   unfold RdS.take RdS.want;by_cases h8:r.e=0
   ·have h9:¬ n≤(s.length:Int) - r.at_:=fun h=>c1 ⟨h8,h⟩;rw [if_neg aE,if_pos aE,if_pos ⟨h8,decide_eq_false h9⟩]
   ·rw [if_pos h8,if_neg (fun h=>h8 h.1)]
  rw [decide_eq_false hne] at hcw;refine fR 13 ?_;refine bK hcw fun w2 h2 m2 => ?_;refine aG ⟨bF rfl,?_⟩;refine fR 14 ?_
  ((with_reducible refine bM ?_);(first | (refine iX ?_;refine fG ?_) | (refine nV ?_;refine oW ?_;(with_reducible refine bM ?_);refine iX ?_;refine fG ?_)))
  refine aG ⟨bF rfl,?_⟩;refine qR ?_;refine_lift aX ?_;go_ret;rw [hR];exact ⟨rfl,h2,(x1.mv (some b)).trans m2⟩
def numN (l:List UInt8):Nat:=l.foldl (fun n c=>n * 256 + c.toNat) 0
theorem FQ (h:k < l.length):numN (l.take (k + 1))=numN (l.take k) * 256 + l[k].toNat:=by
 rw [numN,List.take_succ_eq_append_getElem h,List.foldl_append];rfl
theorem HH (l:List UInt8):∀ k,k≤l.length→numN (l.take k) < 256 ^ k
 | 0,_=>by simp [numN]
 | k + 1,h=>by
   rw [FQ aE];have:=HH l k aE;have h2:l[k].toNat < 256:=UInt8.toNat_lt _;rw [Nat.pow_succ];omega
def RdS.number (s:List UInt8) (r:RdS) (k:Int):Nat × RdS:=(numN (r.take s k).1,(r.take s k).2)
theorem gJ (s:List UInt8) (r:RdS) (n:Int):(r.take s n).1.length≤n.toNat:=by
 unfold RdS.take;split
 ·exact Nat.zero_le _
 ·split
  ·exact Nat.zero_le _
  ·rw [List.length_take];omega
theorem bQ (s:List UInt8) (r:RdS) (n:Nat) (hn:n≤4):(r.number s n).1 < 256 ^ n:=by
 unfold RdS.number;have h1:=gJ s r n;have h2:=HH (r.take s n).1 (r.take s n).1.length (Nat.le_refl _);rw [List.take_length] at h2;refine Nat.lt_of_lt_of_le h2 (Nat.pow_le_pow_right aE (by simpa using h1))
theorem fC {r:RdS} (h:dT w b s r) (hr:r.Ok s) (hs:s.length≤100000000) (n:Int) (h0:0≤n) (h1:n≤4):Calls Tryz.prog 38 #[.pointer (some ⟨b,0,none⟩), .int .i64 n] w (nQ w b s (.int .i64 ((r.number s n).1:Nat)) (r.number s n).2):=by
 have htl:=gJ s r n;have hct:=fun w h=>CH (w:=w) (b:=b) h hr hs n h0 aE;unfold RdS.number;generalize r.take s n=T at *;obtain ⟨l,r'⟩:=T;dsimp only at *;go_enter Tryz.func38,Tryz.ntmps38
 refine_lift qQ fun _ _ _ _ => ?_;refine bK (hct w h) fun w1 h1' m1 => ?_;refine sP (l:=l) (e:=5) rfl rfl aR aR aE ?_;intro v2 w2 x2 o2;refine aD ?_;have hs2:=o2.sl;have h2:dT w2 b s r':=x2.at h1';have hbl:(aL l).length=l.length:=List.length_map ..;have m2:=m1.trans (x2.mv (some b));refine_lift aX ?_;have htl:l.length≤4:=aE;go_loopw [5,7,13] (fun m _ i wr=>∃ k:Nat,k≤l.length∧i=.int .i64 k∧m=.int .i64 (numN (l.take k):Nat)∧Ext w2 wr) (fun _ _ i _=>l.length - (intOf i).toNat)
 case atStart=>exact ⟨0,Nat.zero_le _,rfl,rfl,Ext.refl _⟩
 case round =>
  obtain ⟨k,hk,rfl,rfl,hx⟩:=hrel;have hsx:=hs2.ext hx;by_cases hlt:k < l.length
  ·have hn:=HH l k aE;have hn2:numN (l.take k) * 256 < 4294967296:=by
    have:256 ^ k≤256 ^ 3:=Nat.pow_le_pow_right aE aE;omega
   have hb:l[k].toNat < 256:=UInt8.toNat_lt _;have hst:=FQ hlt;have hpe:=hsx.elem (i:=k) (e:=[.int .u8 (l[k].toNat:Nat)]) (by rw [aL,List.getElem?_map,List.getElem?_eq_getElem hlt];rfl);refine_lift jS fun _ => ?_;exact ⟨⟨k + 1,aE,by go_num,by rw [hst],hx⟩,by simp [intOf];omega⟩
  ·have:k=l.length:=aE;subst this;rw [List.take_length];refine_lift jS fun _ => ?_;go_ret;exact ⟨rfl,hx.at h2,m2.trans (hx.mv _)⟩
section
variable {P:Program} {w:World} {a:Act} {d:Option Nat} {ty:TypeId} {ps:String} {af:Array Edge} {g:Option (Nat × Bool)}
theorem Runs.andN {t u:TypeId} {x y:Operand} {m n:Nat} (hx:a.eval x=.int .i64 (m:Nat)) (hy:a.eval y=.int .i64 (n:Nat)) (hm:m < 4611686018427387904) (hn:n < 4611686018427387904) :
 Runs P (Oper.mk d (.binOp .and t x y u) ty ps af g) a w (.int .i64 ((m &&& n:Nat):Int)):=by
 have hle:m &&& n≤m:=Nat.and_le_left;have e:(BitVec.ofInt 64 (m:Int) &&& BitVec.ofInt 64 (n:Int)).toNat=m &&& n:=by
  rw [BitVec.toNat_and,BitVec.ofInt_natCast,BitVec.ofInt_natCast,BitVec.toNat_ofNat,BitVec.toNat_ofNat,Nat.mod_eq_of_lt aE,Nat.mod_eq_of_lt aE]
 have e2:IntKind.i64.wrap ((m &&& n:Nat):Int)=((m &&& n:Nat):Int):=IntWalk.i64_in _ aE;constructor;have hb:(Op.intBits .and .i64 (m:Nat) (n:Nat))=Sem.pure (.int .i64 ((m &&& n:Nat):Int)):=by
  show Sem.pure (Value.int .i64 (IntKind.i64.wrap ((BitVec.ofInt 64 (m:Int) &&& BitVec.ofInt 64 (n:Int)).toNat:Nat)))=_;rw [e,e2]
 simp only [execOp,hx,hy,eqGuard,binOp,hb,Sem.run_bind,Sem.run_pure,Result.andThen_ok];simp [Sem.run]
theorem Runs.orN {t u:TypeId} {x y:Operand} {m n:Nat} (hx:a.eval x=.int .i64 (m:Nat)) (hy:a.eval y=.int .i64 (n:Nat)) (hm:m < 4611686018427387904) (hn:n < 4611686018427387904) :
 Runs P (Oper.mk d (.binOp .or t x y u) ty ps af g) a w (.int .i64 ((m ||| n:Nat):Int)):=by
 have hlt:m ||| n < 2 ^ 62:=Nat.or_lt_two_pow aE aE
 have e:(BitVec.ofInt 64 (m:Int) ||| BitVec.ofInt 64 (n:Int)).toNat=m ||| n:=by
  rw [BitVec.toNat_or,BitVec.ofInt_natCast,BitVec.ofInt_natCast,BitVec.toNat_ofNat,BitVec.toNat_ofNat,Nat.mod_eq_of_lt aE,Nat.mod_eq_of_lt aE]
 have e2:IntKind.i64.wrap ((m ||| n:Nat):Int)=((m ||| n:Nat):Int):=IntWalk.i64_in _ aE;constructor;have hb:(Op.intBits .or .i64 (m:Nat) (n:Nat))=Sem.pure (.int .i64 ((m ||| n:Nat):Int)):=by
  show Sem.pure (Value.int .i64 (IntKind.i64.wrap ((BitVec.ofInt 64 (m:Int) ||| BitVec.ofInt 64 (n:Int)).toNat:Nat)))=_;rw [e,e2]
 simp only [execOp,hx,hy,eqGuard,binOp,hb,Sem.run_bind,Sem.run_pure,Result.andThen_ok];simp [Sem.run]
end
structure NmS where
 n:List UInt8
 begin_:Int
 back:Int
 r:RdS
def nmTo (s:List UInt8) (r1:RdS) (k:Nat):Nat:=k * 256 % 16384 + ((r1.want (decide (192≤k)) 2).number s 1).1
def rD (s:List UInt8) (r1:RdS) (k:Nat) (begin_:Int):RdS:=((r1.want (decide (192≤k)) 2).number s 1).2.want (decide ((nmTo s r1 k:Int) < begin_)) 2
def dK (s:List UInt8) (x:NmS) (k:Nat) (r1:RdS):NmS :=
 if k≤63 then ⟨x.n ++ (UInt8.ofNat k :: (r1.take s k).1),x.begin_,x.back,(r1.take s k).2.want (decide ((x.n ++ (UInt8.ofNat k :: (r1.take s k).1)).length < 255)) 2⟩
 else ⟨x.n,nmTo s r1 k,if x.back < 0 then (rD s r1 k x.begin_).at_ else x.back,⟨nmTo s r1 k,(rD s r1 k x.begin_).e⟩⟩
def wL (x:NmS) (r1:RdS):List UInt8 × RdS:=(if r1.e≠0 then [] else x.n,if 0≤x.back then ⟨x.back,r1.e⟩ else r1)
def CI (s:List UInt8):Nat→NmS→List UInt8 × RdS
 | 0,x=>([],x.r)
 | f + 1,x=>if (x.r.number s 1).2.e≠0∨(x.r.number s 1).1=0 then wL x (x.r.number s 1).2 else CI s f (dK s x (x.r.number s 1).1 (x.r.number s 1).2)
def IA (s:List UInt8) (x:NmS):Nat:=if x.r.e≠0 then 0 else x.begin_.toNat * (s.length + 2) + (s.length + 2 - x.r.at_.toNat)
def eT (s:List UInt8) (r:RdS):List UInt8 × RdS:=CI s (r.at_.toNat * (s.length + 2) + s.length + 3) ⟨[],r.at_,-1,r⟩
structure NmOk (s:List UInt8) (x:NmS):Prop where
 r:x.r.Ok s
 b0:0≤x.begin_
 b1:x.begin_≤100000000
 k0:-1≤x.back
 k1:x.back≤100000000
 n0:x.r.e=0→x.n.length≤254
 n1:x.n.length≤400
 bL:x.r.e=0→x.begin_≤s.length
 kL:x.r.e=0→x.back≤s.length
theorem iV {r:RdS} {n:Int} (h:(r.number s n).2.e=0):r.e=0∧n≤(s.length:Int) - r.at_∧(r.number s n).2=⟨r.at_ + n,0⟩:=by
 unfold RdS.number RdS.take at *;dsimp only at *;split at h
 ·rename_i c;exact absurd h c
 ·rename_i c;split at h
  ·cases h
  ·rename_i c2;rw [if_neg c,if_neg c2];exact ⟨by simpa using c,aE,rfl⟩
theorem bH {r:RdS} (h:r.Ok s) (hs:s.length≤100000000) {n:Int} (hn:0≤n):(r.number s n).2.Ok s:=h.take hs hn
theorem NV {r:RdS} {is:Bool} {er:Int}:(r.want is er).at_=r.at_:=by unfold RdS.want;split <;> rfl
theorem kJ {r:RdS} {is:Bool} {er:Int} (he:er≠0) (h:(r.want is er).e=0):r.e=0∧is=true:=by
 unfold RdS.want at h;split at h
 ·exact absurd h he
 ·rename_i c;refine ⟨h,?_⟩;cases is with
  | true=>rfl
  | false=>exact absurd ⟨h,rfl⟩ c
theorem HI {r1:RdS}:nmTo s r1 k < 16640:=by
 unfold nmTo;have:=bQ s (r1.want (decide (192≤k)) 2) 1 aE;have h2:k * 256 % 16384 < 16384:=Nat.mod_lt _ aE;simp at this;omega
theorem NmOk.next {x:NmS} (h:NmOk s x) (hs:s.length≤100000000) (he:(x.r.number s 1).2.e=0):NmOk s (dK s x (x.r.number s 1).1 (x.r.number s 1).2)∧IA s (dK s x (x.r.number s 1).1 (x.r.number s 1).2) < IA s x:=by
 obtain ⟨e0,e1,e2⟩:=iV he;have hr1:=bH (n:=1) h.r hs aE;have hM:IA s x=x.begin_.toNat * (s.length + 2) + (s.length + 2 - x.r.at_.toNat):=by unfold IA;rw [if_neg aE]
 have hlo:=h.r.lo;have hb0:=h.b0;generalize (x.r.number s 1).1=k at *;have hat:(x.r.number s 1).2.at_=x.r.at_ + 1:=by rw [e2]
 generalize (x.r.number s 1).2=r1 at *;unfold dK;have htl:=gJ s r1 k;split
 ·rename_i hk;have hn':(x.n ++ (UInt8.ofNat k :: (r1.take s k).1)).length≤254 + 64:=by
   rw [List.length_append,List.length_cons];have:=h.n0 e0;simp at htl;omega
  have hw:=(hr1.take hs (n:=(k:Int)) aE).want (decide ((x.n ++ (UInt8.ofNat k :: (r1.take s k).1)).length < 255)) (er:=2) bG;refine ⟨⟨hw,h.b0,h.b1,h.k0,h.k1,fun e => ?_,by dsimp only;omega,fun _=>h.bL e0,fun _=>h.kL e0⟩,?_⟩
  ·obtain ⟨_,q⟩:=kJ bG e;have:=of_decide_eq_true q;dsimp only;omega
  ·rw [hM];unfold IA;dsimp only;split
   ·omega
   ·rename_i c;have c':((r1.take s k).2.want (decide ((x.n ++ (UInt8.ofNat k :: (r1.take s k).1)).length < 255)) 2).e=0:=by simpa using c
    obtain ⟨q,_⟩:=kJ bG c';rw [NV];have hta:(r1.take s k).2.at_=r1.at_ + k:=by
     unfold RdS.take at q ⊢;split at q
     ·rename_i c9;exact absurd q c9
     ·split at q
      ·cases q
      ·rename_i c8 c9;rw [if_neg c8,if_neg c9]
    rw [hta,hat];omega
 ·have hto:=HI (s:=s) (r1:=r1) (k:=k);have hw:=((bH (n:=1) (hr1.want (decide (192≤k)) (er:=2) bG) hs aE)).want (decide ((nmTo s r1 k:Int) < x.begin_)) (er:=2) bG;refine ⟨⟨⟨by dsimp only;omega,fun e => ?_,by dsimp only;omega⟩,by dsimp only;omega,by dsimp only;omega,?_,?_,fun _=>h.n0 e0,h.n1,fun e => ?_,fun e => ?_⟩,?_⟩
  ·obtain ⟨_,q⟩:=kJ (r:=((r1.want (decide (192≤k)) 2).number s 1).2) bG e;have:=of_decide_eq_true q;have:=h.bL e0;dsimp only;omega
  ·dsimp only;split
   ·have:=hw.lo;show -1≤(rD s r1 k x.begin_).at_;unfold rD;omega
   ·exact h.k0
  ·dsimp only;split
   ·have:=hw.far;show (rD s r1 k x.begin_).at_≤_;unfold rD;omega
   ·exact h.k1
  ·obtain ⟨_,q⟩:=kJ (r:=((r1.want (decide (192≤k)) 2).number s 1).2) bG e;have:=of_decide_eq_true q;have:=h.bL e0;dsimp only;omega
  ·dsimp only;split
   ·exact hw.hi e
   ·exact h.kL e0
  ·rw [hM];unfold IA;dsimp only;split
   ·omega
   ·rename_i c;have c':(rD s r1 k x.begin_).e=0:=by simpa using c
    obtain ⟨_,q⟩:=kJ (r:=((r1.want (decide (192≤k)) 2).number s 1).2) bG c';have hlt:=of_decide_eq_true q;simp only [Int.toNat_natCast];have h5:nmTo s r1 k + 1≤x.begin_.toNat:=aE;have h6:(nmTo s r1 k + 1) * (s.length + 2)≤x.begin_.toNat * (s.length + 2):=Nat.mul_le_mul_right _ h5;rw [Nat.succ_mul] at h6;omega
theorem NW (hs:s.length≤100000000):∀ (f:Nat) (x:NmS),NmOk s x→IA s x < f→(CI s f x).1.length≤254∧(CI s f x).2.Ok s
 | 0,x,_,h=>absurd h (Nat.not_lt_zero _)
 | f + 1,x,h,hf=>by
   have hr1:=bH (n:=1) h.r hs aE;unfold CI;split
   ·unfold wL;dsimp only;by_cases he:(x.r.number s 1).2.e=0
    ·rw [if_neg (by simpa using he)];obtain ⟨e0,_⟩:=iV he;refine ⟨h.n0 e0,?_⟩;split
     ·rename_i hb;exact ⟨hb,fun _=>h.kL e0,h.k1⟩
     ·exact hr1
    ·rw [if_pos he];refine ⟨Nat.zero_le _,?_⟩;split
     ·rename_i hb;exact ⟨hb,fun e=>absurd e he,h.k1⟩
     ·exact hr1
   ·rename_i c;have he:(x.r.number s 1).2.e=0:=by
     by_cases h:(x.r.number s 1).2.e=0
     ·exact h
     ·exact absurd (.inl h) c
    obtain ⟨h1,h2⟩:=h.next hs he;exact NW hs f _ h1 aE
theorem qH {r:RdS} (hr:r.Ok s):NmOk s ⟨[],r.at_,-1,r⟩∧IA s ⟨[],r.at_,-1,r⟩ < r.at_.toNat * (s.length + 2) + s.length + 3:=by
 refine ⟨⟨hr,hr.lo,hr.far,(by show (-1:Int)≤-1;omega),(by show (-1:Int)≤100000000;omega),fun _=>Nat.zero_le _,Nat.zero_le _,hr.hi,fun _=>(by show (-1:Int)≤_;omega)⟩,?_⟩;unfold IA;dsimp only;split <;> omega
theorem lL {r:RdS} (hr:r.Ok s) (hs:s.length≤100000000):(eT s r).1.length≤254∧(eT s r).2.Ok s :=
 NW hs _ _ (qH hr).1 (qH hr).2
def ZM (s:List UInt8) (b:Nat) (bg:Value) (w:World):Nat:=match w.heap[b]? with
 | some (.cells cs _ _)=>IA s ⟨[],intOf bg,0,⟨intOf (cs[1]?.getD undef),intOf (cs[2]?.getD undef)⟩⟩
 | _=>0
theorem xZ {x:NmS} (h:dT w b s x.r):ZM s b (.int .i64 x.begin_) w=IA s x:=by
 unfold dT at h;unfold ZM;rw [h];simp [jX,intOf,IA]
def Ao (s:List UInt8) (r:RdS) (b:Nat) (w:World) (x:NmS) (wr:World):Prop:=NmOk s x∧dT wr b s x.r∧Mv (some b) w wr∧∃ f,IA s x < f∧CI s f x=eT s r
theorem WE (k k2:Nat) (h:k2 < 256):(k * 256 &&& 16383) ||| k2=k * 256 % 16384 + k2:=by
 have e1:k * 256 &&& 16383=k * 256 % 16384:=Nat.and_two_pow_sub_one_eq_mod (k * 256) 14;have e2:k * 256 % 16384=(k % 64) * 256:=aE;rw [e1,e2,DT _ _ h]
theorem MN {r:RdS} (h:dT w b s r) (hr:r.Ok s) (hs:s.length≤100000000):Calls Tryz.prog 40 #[.pointer (some ⟨b,0,none⟩)] w (nQ w b s (aI (eT s r).1) (eT s r).2):=by
 have hp:=aA (cs:=jX s r) h;have h0:Ao s r b w ⟨[],r.at_,-1,r⟩ w:=by
  refine ⟨⟨hr,hr.lo,hr.far,(by show (-1:Int)≤-1;omega),(by show (-1:Int)≤100000000;omega),fun _=>Nat.zero_le _,Nat.zero_le _,hr.hi,fun _=>(by show (-1:Int)≤_;omega)⟩,h,Mv.refl _ _,_,?_,rfl⟩;unfold IA;dsimp only;split <;> omega
 go_enter Tryz.func40,Tryz.ntmps40
 refine_lift aX ?_;go_loopw [2,3,4,5,6] (fun n bg bk _ _ wr=>∃ x:NmS,n=aI x.n∧bg=.int .i64 x.begin_∧bk=.int .i64 x.back∧Ao s r b w x wr) (fun _ bg _ _ _ wr=>ZM s b bg wr)
 case atStart=>exact ⟨_,rfl,rfl,rfl,h0⟩
 case round =>
  obtain ⟨x,rfl,rfl,rfl,hok,hx,hm,f,hf,hgo⟩:=hrel;have hcn:=fC hx hok.r hs 1 aE aE;have hk4:=bQ s x.r 1 aE;have hstep:∀ f',f=f' + 1→(if (x.r.number s 1).2.e≠0∨(x.r.number s 1).1=0 then wL x (x.r.number s 1).2 else CI s f' (dK s x (x.r.number s 1).1 (x.r.number s 1).2))=eT s r:=by
   rintro f' rfl;exact hgo
  have hnx:=fun he=>hok.next hs he;have hr1:=bH (n:=1) hok.r hs aE;generalize hT:x.r.number s 1=T at *;obtain ⟨k,r1⟩:=T;dsimp only at *;refine_lift rI ?_;intro _ _ _;refine bK hcn fun w1 h1 m1 => ?_;have hp1:=aA (cs:=jX s r1) h1;have hm1:=hm.trans m1;obtain ⟨f',rfl⟩:∃ f',f=f' + 1:=⟨f - 1,aE⟩;have hst:=hstep f' rfl;clear hstep hgo hp hcn;obtain ⟨at1,e1⟩:=r1;dsimp only at *;by_cases ce:e1=0
  ·subst ce;by_cases ck:k=0
   ·subst ck;rw [if_pos (.inr rfl)] at hst;unfold wL at hst;dsimp only at hst;rw [if_neg bG] at hst;by_cases cb:0≤x.back
    ·rw [if_pos cb] at hst;refine_lift DI fun _ _ _ _ _ _ => ?_
     all_goals first
      | (exfalso;omega)
      | skip
     refine eS 1 (.int .i64 x.back) h1 rfl fun w2 p2 => ?_;have h2:dT w2 b s ⟨x.back,0⟩:=p2.this;have hp2:=aA (cs:=jX s ⟨x.back,0⟩) h2;clear hp1;refine_lift aX ?_
     all_goals first
      | (exfalso;omega)
      | skip
     go_ret;rw [← hst];exact ⟨rfl,h2,hm1.trans p2.mv⟩
    ·rw [if_neg cb] at hst;refine_lift cC fun _ _ => ?_
     all_goals first
      | (exfalso;omega)
      | skip
     go_ret;rw [← hst];exact ⟨rfl,h1,hm1⟩
   ·rw [if_neg (by rintro (h | h);exact h rfl;exact ck h)] at hst;obtain ⟨hok2,hlt2⟩:=hnx rfl;by_cases c63:k≤63
    ·refine_lift DI fun _ _ _ _ _ _ => ?_
     all_goals first
      | (exfalso;omega)
      | skip
     have hk256:k < 256:=aE;have hn1:=hok.n1;have htl:=gJ s ⟨at1,0⟩ k;have hr2:=hr1.take hs (n:=(k:Int)) aE;have hNx:dK s x k ⟨at1,0⟩=⟨x.n ++ (UInt8.ofNat k :: (RdS.take s ⟨at1,0⟩ k).1),x.begin_,x.back,(RdS.take s ⟨at1,0⟩ k).2.want (decide ((x.n ++ (UInt8.ofNat k :: (RdS.take s ⟨at1,0⟩ k).1)).length < 255)) 2⟩:=by unfold dK;rw [if_pos c63]
     have hcT:=fun w' (h':dT w' b s ⟨at1,0⟩)=>CH h' hr1 hs (k:Int) aE aE;generalize RdS.take s ⟨at1,0⟩ k=T at *;obtain ⟨t,r2⟩:=T;dsimp only at *;refine dV (S:=fun w'=>Mv (some b) w1 w') aR ?_;intro w2 x2 _;have hS2:Mv (some b) w1 w2:=x2.mv _;refine jI 0 ?_;refine aD ?_;refine jI 1 ?_;refine aD ?_;refine jI 2 ?_;refine aD ?_;refine jI 5 ?_;refine aD ?_;refine jI 6 ?_;refine aD ?_;rw [vP k];refine ZO 3 4 7 41 42 45 (fun b1 b2 b3=>(!b2 || b1)) (fun b1 b2 b3 => !b2) (fun b1 b2 b3=>b1) (fun b1 b2 b3=>true) (fun b1 b2 b3 v1 v2 v3 w'=>Mv (some b) w1 w'∧(b1=true→Own w1.heap.size 1 5 w' v1 (aL [UInt8.ofNat k]))∧(b2=true→v2=aI [UInt8.ofNat k])∧dT w' b s (bif b3 then r2 else ⟨at1,0⟩)∧(b3=true→v3=aI t)) ?_ ?_ ?_ ?_ ?_
     ·exact ⟨hS2,bP,bP,x2.at h1,bP⟩
     ·rintro b1 b2 b3 v1 v2 v3 w3 hq ⟨m3,f1,f2,f3,f4⟩;have hb2:b2=false:=by revert hq;cases b2 <;> simp
      subst hb2;refine aD ?_;refine nG (k:=1) (e:=5) (bytes:=1) (xs:=[.int .u8 ((UInt8.ofNat k).toNat:Nat)]) (by simp [Value.cells]) fun v4 w4 x4 _ _ o4 => ?_;refine aD ?_;have o4':Own w1.heap.size 1 5 w4 v4 (aL [UInt8.ofNat k]):=(show Own w3.heap.size 1 5 w4 v4 (aL [UInt8.ofNat k]) from o4).weaken m3.size;refine aG ⟨m3.trans (x4.mv _),_,rfl,m3.trans (x4.mv _),fun _=>o4',bP,x4.at f3,f4⟩
     ·rintro b1 b2 b3 v1 v2 v3 w3 hq ⟨m3,f1,f2,f3,f4⟩;have hb1:b1=true:=by revert hq;cases b1 <;> simp
      subst hb1;refine aD ?_;have s1:=(f1 rfl).sl
      ((with_reducible refine bM ?_);(first | (refine iX ?_;refine fG ?_) | (refine nV ?_;refine oW ?_;(with_reducible refine bM ?_);refine iX ?_;refine fG ?_)))
      refine aG ⟨m3,_,rfl,m3,fun _=>f1 rfl,fun _=>rfl,f3,f4⟩
     ·rintro b1 b2 b3 v1 v2 v3 w3 hq ⟨m3,f1,f2,f3,f4⟩;refine aD ?_;refine bK (hcT _ f3) fun w4 h4 m4 => ?_;refine aG ⟨m3.trans m4,_,rfl,m3.trans m4,fun e=>(f1 e).mv m4 (.inr ((f1 e).neBlock f3 bG)),f2,h4,fun _=>rfl⟩
     ·rintro v1 v2 v3 w3 ⟨m3,f1,f2,f3,f4⟩;obtain rfl:=f2 rfl;obtain rfl:=f4 rfl;refine jI 8 ?_;refine aD ?_;refine jI 9 ?_;refine aD ?_;refine jI 10 ?_;refine aD ?_;refine dR aR ?_;rw [show x.n ++ ([UInt8.ofNat k] ++ t)=x.n ++ (UInt8.ofNat k :: t) from rfl];have h3:dT w3 b s r2:=f3;have hlen2:(x.n ++ (UInt8.ofNat k :: t)).length≤1000:=by rw [List.length_append,List.length_cons];simp at htl;omega
      have hcw:=iU h3 (decide ((x.n ++ (UInt8.ofNat k :: t)).length < 255)) 2;have hd5:decide (((x.n ++ (UInt8.ofNat k :: t)).length:Int) < 255)=decide ((x.n ++ (UInt8.ofNat k :: t)).length < 255):=by by_cases h:(x.n ++ (UInt8.ofNat k :: t)).length < 255 <;> simp only [h,decide_true,decide_false,decide_eq_true_eq,decide_eq_false_iff_not] <;> omega
      generalize hN:x.n ++ (UInt8.ofNat k :: t)=N at *;generalize hR5:r2.want (decide (N.length < 255)) 2=r5 at *;refine_lift cC fun _ _ => ?_;rw [hd5];refine bK hcw fun w5 h5 m5 => ?_;refine_lift aX ?_;refine ⟨⟨dK s x k ⟨at1,0⟩,?_,?_,?_,hok2,?_,hm1.trans (m3.trans m5),f',aE,hst⟩,?_⟩
      ·rw [hNx]
      ·rw [hNx]
      ·rw [hNx]
      ·rw [hNx];exact h5
      ·rw [xZ hx,show Value.int .i64 x.begin_=.int .i64 (dK s x k ⟨at1,0⟩).begin_ by rw [hNx],xZ (by rw [hNx];exact h5)];exact hlt2
    ·refine_lift qQ fun _ _ _ _ => ?_
     all_goals first
      | (exfalso;omega)
      | skip
     have hk256:k < 256:=by simpa using hk4
     have hcw:=iU h1 (decide (192≤k)) 2;have hdk:decide ((192:Int)≤(k:Nat))=decide (192≤k):=by by_cases h:192≤k <;> simp [h] <;> omega
     have hw2:=hr1.want (decide (192≤k)) (er:=2) bG;rw [hdk];refine bK hcw fun w2 h2 m2 => ?_;have hcn:=fC h2 hw2 hs 1 aE aE;have hk2:=bQ s ((⟨at1,0⟩:RdS).want (decide (192≤k)) 2) 1 aE;have hr3:=bH (n:=1) hw2 hs aE;have hnT:nmTo s ⟨at1,0⟩ k=k * 256 % 16384 + (((⟨at1,0⟩:RdS).want (decide (192≤k)) 2).number s 1).1:=rfl;have hn4:∀ bg,rD s ⟨at1,0⟩ k bg=(((⟨at1,0⟩:RdS).want (decide (192≤k)) 2).number s 1).2.want (decide ((nmTo s ⟨at1,0⟩ k:Int) < bg)) 2:=fun _=>rfl;have hto:=HI (s:=s) (r1:=⟨at1,0⟩) (k:=k);generalize ((⟨at1,0⟩:RdS).want (decide (192≤k)) 2).number s 1=T at *;obtain ⟨k2,r3⟩:=T;dsimp only at *;have hk2':k2 < 256:=by simpa using hk2
     refine_lift cC fun _ _ => ?_;refine aS (Runs.andN (m:=k * 256) (n:=16383) rfl rfl aE bG) ?_;refine aD ?_;refine_lift aX ?_;refine bK hcn fun w3 h3 m3 => ?_;have hle:k * 256 &&& 16383≤k * 256:=Nat.and_le_left;refine aS (Runs.orN (m:=k * 256 &&& 16383) (n:=k2) rfl rfl aE aE) ?_;rw [WE k k2 hk2',← hnT];refine aD ?_;have hcw4:=iU h3 (decide ((nmTo s ⟨at1,0⟩ k:Int) < x.begin_)) 2;rw [← hn4] at hcw4;have hw4:=hr3.want (decide ((nmTo s ⟨at1,0⟩ k:Int) < x.begin_)) (er:=2) bG;rw [← hn4] at hw4;have hNx:dK s x k ⟨at1,0⟩=⟨x.n,nmTo s ⟨at1,0⟩ k,if x.back < 0 then (rD s ⟨at1,0⟩ k x.begin_).at_ else x.back,⟨nmTo s ⟨at1,0⟩ k,(rD s ⟨at1,0⟩ k x.begin_).e⟩⟩:=by unfold dK;rw [if_neg c63]
     generalize rD s ⟨at1,0⟩ k x.begin_=r4 at *;generalize nmTo s ⟨at1,0⟩ k=to at *;refine_lift cC fun _ _ => ?_;refine bK hcw4 fun w4 h4 m4 => ?_;have hp4:=aA (cs:=jX s r4) h4;have hm4:=hm1.trans (m2.trans (m3.trans m4));clear hp1;by_cases cb:x.back < 0
     ·rw [if_pos cb] at hNx;refine_lift jS fun _ => ?_
      all_goals first
       | (exfalso;omega)
       | skip
      refine eS 1 (.int .i64 (to:Nat)) h4 rfl fun w5 p5 => ?_;have h5:dT w5 b s ⟨to,r4.e⟩:=p5.this;refine_lift aX ?_;refine ⟨⟨dK s x k ⟨at1,0⟩,?_,?_,?_,hok2,?_,hm4.trans p5.mv,f',aE,hst⟩,?_⟩
      ·rw [hNx]
      ·rw [hNx]
      ·rw [hNx]
      ·rw [hNx];exact h5
      ·rw [xZ hx,show Value.int .i64 ((to:Nat):Int)=.int .i64 (dK s x k ⟨at1,0⟩).begin_ by rw [hNx],xZ (by rw [hNx];exact h5)];exact hlt2
     ·rw [if_neg cb] at hNx;refine_lift jS fun _ => ?_
      all_goals first
       | (exfalso;omega)
       | skip
      refine eS 1 (.int .i64 (to:Nat)) h4 rfl fun w5 p5 => ?_;have h5:dT w5 b s ⟨to,r4.e⟩:=p5.this;refine_lift aX ?_;refine ⟨⟨dK s x k ⟨at1,0⟩,?_,?_,?_,hok2,?_,hm4.trans p5.mv,f',aE,hst⟩,?_⟩
      ·rw [hNx]
      ·rw [hNx]
      ·rw [hNx]
      ·rw [hNx];exact h5
      ·rw [xZ hx,show Value.int .i64 ((to:Nat):Int)=.int .i64 (dK s x k ⟨at1,0⟩).begin_ by rw [hNx],xZ (by rw [hNx];exact h5)];exact hlt2
  ·rw [if_pos (.inl ce)] at hst;unfold wL at hst;dsimp only at hst;rw [if_pos ce] at hst;by_cases cb:0≤x.back
   ·rw [if_pos cb] at hst
    (repeat' first | ((with_reducible refine cQ ?_);go_step) | ((with_reducible refine bM ?_);first | refine gR ?_ | (refine cV ?_ ?_ <;> intro hc)) | fail)
    all_goals first
     | (exfalso;omega)
     | (exfalso;have hh:=‹(!decide (e1=0))=false›;simp [ce] at hh;done)
     | skip
    refine eS 1 (.int .i64 x.back) h1 rfl fun w2 p2 => ?_;have h2:dT w2 b s ⟨x.back,e1⟩:=p2.this;have hp2:=aA (cs:=jX s ⟨x.back,e1⟩) h2;clear hp1;refine_lift tK (fun _ => ?_) (fun _ => ?_)
    all_goals first
     | (exfalso;omega)
     | (exfalso;have hh:=‹(!decide (e1=0))=false›;simp [ce] at hh;done)
     | skip
    go_ret;rw [← hst];exact ⟨rfl,h2,hm1.trans p2.mv⟩
   ·rw [if_neg cb] at hst
    (repeat' first | ((with_reducible refine cQ ?_);go_step) | ((with_reducible refine bM ?_);first | refine gR ?_ | (refine cV ?_ ?_ <;> intro hc)) | fail)
    all_goals first
     | (exfalso;omega)
     | (exfalso;have hh:=‹(!decide (e1=0))=false›;simp [ce] at hh;done)
     | skip
    go_ret;rw [← hst];exact ⟨rfl,h1,hm1⟩
def NX (n:List UInt8):List UInt8:=if (aP n).isSome=true then n ++ [0] else []
def RdS.host (s:List UInt8) (r:RdS):List UInt8 × RdS:=(NX (eT s r).1,(eT s r).2)
theorem HJ {r:RdS} (h:dT w b s r) (hr:r.Ok s) (hs:s.length≤100000000):Calls Tryz.prog 150 #[.pointer (some ⟨b,0,none⟩)] w (nQ w b s (aI (r.host s).1) (r.host s).2):=by
 obtain ⟨n1,n2⟩:=lL hr hs;have hH:=fun w=>Be (eT s r).1 w aE;have hcn:=MN h hr hs;unfold RdS.host NX;generalize eT s r=N at *;go_enter Tryz.func150,Tryz.ntmps150
 refine_lift cC fun _ _ => ?_;refine bK hcn fun w1 h1 m1 => ?_;by_cases hl:(aP N.1).isSome=true
 ·rw [if_pos hl] at hH;refine_lift aX ?_;refine cY (hH _) fun w2 x2 => ?_;refine_lift aX ?_;go_ret;rw [if_pos hl];exact ⟨rfl,x2.at h1,m1.trans (x2.mv _)⟩
 ·rw [if_neg hl] at hH;refine_lift aX ?_;refine cY (hH _) fun w2 x2 => ?_;refine_lift aX ?_;go_ret;rw [if_neg hl];exact ⟨rfl,x2.at h1,m1.trans (x2.mv _)⟩
theorem gS {r:RdS} (hr:r.Ok s) (hs:s.length≤100000000):(r.host s).1.length≤255∧(r.host s).2.Ok s:=by
 obtain ⟨n1,n2⟩:=lL hr hs;unfold RdS.host NX;refine ⟨?_,n2⟩;dsimp only;split
 ·rw [List.length_append];simp;omega
 ·exact Nat.zero_le _
def RdS.data (s:List UInt8) (r:RdS) (kind n:Int):List UInt8 × RdS :=
 let r0:=r.want (decide (r.at_ + n≤(s.length:Int))) 3
 if r0.e≠0 then ([],r0) else
 let o:List UInt8 × RdS:=if kind=2∨kind=5∨kind=12 then r0.host s
  else if kind=15 then ((r0.take s 2).1 ++ ((r0.take s 2).2.host s).1,((r0.take s 2).2.host s).2)
  else if kind=6 then ((r0.host s).1 ++ ((r0.host s).2.host s).1 ++ (((r0.host s).2.host s).2.take s 20).1,(((r0.host s).2.host s).2.take s 20).2)
  else r0.take s n
 (o.1,o.2.want (decide (o.2.at_=r.at_ + n)) 2)
theorem YS {r:RdS} (h:dT w b s r) (hr:r.Ok s) (hs:s.length≤1000000) (kind n:Int) (hn0:0≤n) (hn1:n≤65535):Calls Tryz.prog 86 #[.pointer (some ⟨b,0,none⟩), .int .i64 kind, .int .i64 n] w (nQ w b s (aI (r.data s kind n).1) (r.data s kind n).2):=by
 have hp:=aA (cs:=jX s r) h;have a0:=hr.lo;have a2:=hr.far;have hs8:s.length≤100000000:=aE;have hcw:=iU h (decide (r.at_ + n≤(s.length:Int))) 3;have hw:=hr.want (decide (r.at_ + n≤(s.length:Int))) (er:=3) bG;unfold RdS.data;generalize r.want (decide (r.at_ + n≤(s.length:Int))) 3=r0 at *;dsimp only;generalize hend:r.at_ + n=en at *;have hen:en≤200000000:=aE;go_enter Tryz.func86,Tryz.ntmps86
 refine_lift qQ fun _ _ _ _ => ?_;rw [hend];refine bK hcw fun w1 h1 m1 => ?_;by_cases c0:r0.e=0
 ·rw [decide_eq_true c0];by_cases c1:kind=2∨kind=5∨kind=12
  ·have hb2:=gS hw hs8
   (repeat' first | ((with_reducible refine cQ ?_);go_step) | ((with_reducible refine bM ?_);first | refine gR ?_ | (refine cV ?_ ?_ <;> intro hc)) | fail)
   all_goals first
    | (exfalso;omega)
    | skip
   all_goals (
    refine bK (HJ h1 hw hs8) fun w2 h2 m2 => ?_;have hK:=h2;have mK:=m1.trans m2;have hpK:=aA (cs:=jX s (r0.host s).2) hK;have hwK:=iU hK (decide (((r0.host s).2).at_=en)) 2;refine_lift cC fun _ _ => ?_;refine bK hwK fun w9 h9 m9 => ?_;refine_lift aX ?_;go_ret;rw [if_neg (by simpa using c0),if_pos c1];exact ⟨rfl,h9,mK.trans m9⟩
   )
  ·by_cases c2:kind=15
   ·have ht2:=gJ s r0 2;have hb2:=hw.take hs8 (n:=2) aE;have hb3:=gS hb2 hs8
    (repeat' first | ((with_reducible refine cQ ?_);go_step) | ((with_reducible refine bM ?_);first | refine gR ?_ | (refine cV ?_ ?_ <;> intro hc)) | fail)
    all_goals first
     | (exfalso;omega)
     | skip
    refine bK (CH h1 hw hs8 2 aE aE) fun w2 h2 m2 => ?_;refine_lift aX ?_;refine bK (HJ h2 hb2 hs8) fun w3 h3 m3 => ?_;have hK:=h3;have mK:=m1.trans (m2.trans m3);have hpK:=aA (cs:=jX s ((r0.take s 2).2.host s).2) hK;have hwK:=iU hK (decide ((((r0.take s 2).2.host s).2).at_=en)) 2;refine_lift cC fun _ _ => ?_;refine bK hwK fun w9 h9 m9 => ?_;refine_lift aX ?_;go_ret;rw [if_neg (by simpa using c0),if_neg c1,if_pos c2];exact ⟨rfl,h9,mK.trans m9⟩
   ·by_cases c3:kind=6
    ·have hb2:=gS hw hs8;have hb3:=gS hb2.2 hs8;have ht4:=gJ s ((r0.host s).2.host s).2 20
     (repeat' first | ((with_reducible refine cQ ?_);go_step) | ((with_reducible refine bM ?_);first | refine gR ?_ | (refine cV ?_ ?_ <;> intro hc)) | fail)
     all_goals first
      | (exfalso;omega)
      | skip
     refine bK (HJ h1 hw hs8) fun w2 h2 m2 => ?_;refine_lift cC fun _ _ => ?_;refine bK (HJ h2 hb2.2 hs8) fun w3 h3 m3 => ?_;refine_lift aX ?_;refine bK (CH h3 hb3.2 hs8 20 aE aE) fun w4 h4 m4 => ?_;have hK:=h4;have mK:=m1.trans (m2.trans (m3.trans m4));have hpK:=aA (cs:=jX s (((r0.host s).2.host s).2.take s 20).2) hK;have hwK:=iU hK (decide (((((r0.host s).2.host s).2.take s 20).2).at_=en)) 2;refine_lift cC fun _ _ => ?_;refine bK hwK fun w9 h9 m9 => ?_;refine_lift aX ?_;go_ret;rw [if_neg (by simpa using c0),if_neg c1,if_neg c2,if_pos c3];exact ⟨rfl,h9,mK.trans m9⟩
    ·refine_lift Bc fun _ _ _ _ _ _ _ => ?_
     all_goals first
      | (exfalso;omega)
      | skip
     refine bK (CH h1 hw hs8 n aE aE) fun w2 h2 m2 => ?_;have hK:=h2;have mK:=m1.trans m2;have hpK:=aA (cs:=jX s (r0.take s n).2) hK;have hwK:=iU hK (decide (((r0.take s n).2).at_=en)) 2;refine_lift cC fun _ _ => ?_;refine bK hwK fun w9 h9 m9 => ?_;refine_lift aX ?_;go_ret;rw [if_neg (by simpa using c0),if_neg c1,if_neg c2,if_neg c3];exact ⟨rfl,h9,mK.trans m9⟩
 ·rw [decide_eq_false c0];refine_lift aX ?_;go_ret;rw [if_pos (by simpa using c0)];exact ⟨rfl,h1,m1⟩
section
variable {P:Program} {ops:Array Oper} {Q:Exit→Act→World→Prop} {w:World} {rest:List Oper} {ts:List Value} {df:List Deferred} {ty:TypeId} {ps:String} {af:Array Edge} {g:Option (Nat × Bool)}
theorem jN (s:List UInt8):Lib.strCells ⟨s.toArray⟩=(aL s).flatten:=by
 induction s with
 | nil=>rfl
 | cons x s ih =>
  simp only [Lib.strCells,aL,List.map_cons,List.flatten_cons] at ih ⊢;rw [ih];rfl
theorem HK (t u ty e:TypeId) (i:TypeInfo) (ht:P.underlying t=some (.slice e)) (hu:P.underlying u=some .string) (hi:P.info? e=some i) (hs1:i.size=1)
 (g sLen sCap:Nat) (cur:Array Value) (fz:Nat × Nat) (hg:w.heap[g]? = some (.cells cur e fz)) (hfz:fz.2≤fz.1∨cur.size≤fz.1) (s:ByteArray)
 (hroom:sLen + s.size≤sCap) (hfit:sLen + s.size≤cur.size) :
 (Builtin.append_ #[t,u] ty #[.slice (some ⟨g,0,none⟩) sLen sCap, .string s]).run P w =
   .ok (.slice (some ⟨g,0,none⟩) (sLen + s.size) sCap) (w.setRow g (cur.toList.take sLen ++ Lib.strCells s ++ cur.toList.drop (sLen + s.size)).toArray):=by
 have hf:=Lib.run_firstCells_string (P:=P) w 1 s;have hst:=fD P g sLen e fz (Lib.strCells s) 0 cur w hg hfz (by simpa [Lib.strCells_length] using hfit) (Lib.strCells_oneCell s);simp only [Nat.add_zero,Lib.strCells_length] at hst;simp [Builtin.append_,run_underlying ht,run_underlying hu,sizeOf,typeInfo,hi,hs1,Builtin.lenOf,hroom,hf,Addr.add_lit,hst]
theorem DN {t u:Nat} {ty:TypeId} (ht:nA P t e 1 1=true) (hu:P.underlying u=some .string) (h:Own B 1 e w v (aL l))
 (hB:B≤w.heap.size) (hm:l.length + s.length≤140737488355328) :
 ∃ v' w',(Builtin.append_ #[t,u] ty #[v,aI s]).run P w=.ok v' w'∧Own B 1 e w' v' (aL (l ++ s))∧Mv v.ownBlock w w':=by
 obtain ⟨hut,i,z,hi,hz,hzc,hs,hby,_⟩:=kS ht;obtain ⟨⟨hx1,hrow⟩,heach⟩:=h;have hbl:∀ l:List UInt8,(aL l).length=l.length:=fun l=>by simp [aL]
 have hbf:∀ l:List UInt8,(aL l).flatten.length=l.length:=fun l=>by rw [← jN,Lib.strCells_length];rfl
 have happ:(aL (l ++ s)).flatten=(aL l).flatten ++ (aL s).flatten:=by simp [aL]
 have hone:∀ x ∈ aL (l ++ s),x.length=1:=by intro x hx;simp only [aL,List.mem_map] at hx;obtain ⟨_,_,rfl⟩:=hx;rfl
 have hss:(⟨s.toArray⟩:ByteArray).size=s.length:=rfl;have hsmall:l.length + s.length≤9223372036854775807:=aE;have hmax:l.length + s.length≤maxLen:=by unfold maxLen;omega
 rw [hbl] at hrow;rcases hrow with ⟨rfl,hn0⟩ | ⟨g,cap,cur,fz,rfl,hbg,hg,hfz,hnc,hcm,hcs,htake⟩
 ·have hl0:l=[]:=List.eq_nil_of_length_eq_zero hn0;subst hl0;by_cases hm0:s.length=0
  ·refine ⟨.slice none 0 0,w,?_,by rw [List.eq_nil_of_length_eq_zero hm0];exact Own.nil _ _ _ _,Mv.refl _ _⟩;have hf:=Lib.run_firstCells_string (P:=P) w 1 ⟨s.toArray⟩;have hn:Lib.strCells ⟨s.toArray⟩=[]:=by rw [jN,List.eq_nil_of_length_eq_zero hm0];rfl
   rw [hn] at hf;have hz0:(⟨s.toArray⟩:ByteArray).size=0:=hm0;unfold aI;generalize (⟨s.toArray⟩:ByteArray)=sb at *;rw [hz0] at hf;simp [Builtin.append_,run_underlying hut,run_underlying hu,sizeOf,typeInfo,hi,hs,Builtin.lenOf,hz0,hf]
  ·have hr:=run_append_nil_string (P:=P) w t u ty e i z hut hu hi hz ⟨s.toArray⟩ (by rw [hss];omega) (by rw [hss];simp at hm;omega) (by rw [hby,hss];simp at hm;omega);have hge:=grownCap_ge w s.length 0 e;have hcm':grownCap w s.length 0 e≤maxLen:=grownCap_le_maxLen w s.length 0 e (by simpa using hmax);have e1:((⟨s.toArray⟩:ByteArray).data.map fun b=>Value.int .u8 b.toNat)=(aL s).flatten.toArray:=by
    rw [← jN];apply Array.ext';simp [Lib.strCells]
   rw [e1,hss] at hr;refine ⟨_,_,hr,⟨⟨?_, .inr ⟨w.heap.size,grownCap w s.length 0 e,_,(0,0),?_,hB,heap_alloc_new w.drew _, .inl (Nat.le_refl _),?_,hcm',?_,?_⟩⟩,hone⟩,⟨rfl,rfl,rfl,bP,fun k hk _=>(Ext.alloc w.drew _).block k hk,Nat.le_succ _⟩⟩
   ·rw [hbf,hbl];simp
   ·rw [hbl];simp
   ·rw [hbl];simpa using hge
   ·simp only [Array.size_append,List.size_toArray,size_zeroCells,hzc,hbf];omega
   ·rw [hbl];simp only [Array.toList_append,List.nil_append];have:s.length * 1=(aL s).flatten.length:=by rw [hbf];omega
    rw [this];exact List.take_left
 ·have hcz:cur.size=cap:=by simpa using hcs
  have htk:cur.toList.take l.length=(aL l).flatten:=by simpa using htake
  by_cases hroom:l.length + s.length≤cap
  ·have hr:=HK (P:=P) (w:=w) t u ty e i hut hu hi hs g l.length cap cur fz hg hfz ⟨s.toArray⟩ hroom (by rw [hss];omega);refine ⟨_,_,hr,⟨⟨?_, .inr ⟨g,cap,_,fz,?_,hbg,setRow_heap w g cur _ e _ hg,?_,?_,hcm,?_,?_⟩⟩,hone⟩,⟨rfl,rfl,rfl,bP,fun k _ hk=>setRow_other w g k _ (fun e=>hk (by simp [Value.ownBlock,e])),Nat.le_refl _⟩⟩
   ·rw [hbf,hbl];simp
   ·rw [hbl,hss];simp
   ·simp only [List.size_toArray,List.length_append,List.length_take,List.length_drop,Array.length_toList,Lib.strCells_length,hss];omega
   ·rw [hbl];simpa using hroom
   ·simp only [List.size_toArray,List.length_append,List.length_take,List.length_drop,Array.length_toList,Lib.strCells_length,hss];omega
   ·rw [htk,jN,← happ,hbl];have:(l ++ s).length * 1=(aL (l ++ s)).flatten.length:=by rw [hbf];omega
    rw [this];simp only [List.append_assoc];exact List.take_left
  ·have holds:∀ j u,(aL l).flatten[j]? = some u→w.cell? ((⟨g,0,none⟩:Addr).add j)=some u:=by
    intro j u hj;rw [eI,cell_of_row w g _ cur _ fz hg];rw [← htk,List.getElem?_take] at hj;split at hj
    ·rw [Nat.zero_add];simpa using hj
    ·cases hj
   have hr:=Lib.run_append_grow_string (P:=P) w t u ty e i z hut hu hi hz ⟨g,0,none⟩ l.length cap (aL l).flatten (by rw [hs,hbf];omega) holds ⟨s.toArray⟩ (by rw [hss];omega) (by rw [hss];omega) (by rw [hby,hss];exact growslice_fits aE aE);rw [hss] at hr;have hge:=grownCap_ge w (l.length + s.length) cap e;have hcm':grownCap w (l.length + s.length) cap e≤maxLen:=grownCap_le_maxLen w (l.length + s.length) cap e hmax;refine ⟨_,_,hr,⟨⟨?_, .inr ⟨w.heap.size,grownCap w (l.length + s.length) cap e,_,(0,0),?_,hB,heap_alloc_new w.drew _, .inl (Nat.le_refl _),?_,hcm',?_,?_⟩⟩,hone⟩,⟨rfl,rfl,rfl,bP,fun k hk _=>(Ext.alloc w.drew _).block k hk,Nat.le_succ _⟩⟩
   ·rw [hbf,hbl];simp
   ·rw [hbl];simp
   ·rw [hbl];simpa using hge
   ·simp only [Array.size_append,List.size_toArray,size_zeroCells,hzc,hbf,Lib.strCells_length,hss];omega
   ·rw [hbl];simp only [Array.toList_append,List.append_assoc,jN];have:(l ++ s).length * 1=((aL l).flatten ++ (aL s).flatten).length:=by rw [← happ,hbf];omega
    rw [this,← List.append_assoc,happ];exact List.take_left
theorem tR {t u d:Nat} {x0 y:Operand} {v0:Value} (h0:(Act.mk ts.toArray df).eval x0=v0)
 (h:Own B 1 e w v0 (aL l)) (hy:(Act.mk ts.toArray df).eval y=aI s) (hB:B≤w.heap.size) (hm:l.length + s.length≤140737488355328)
 (hk:∀ v' w',Own B 1 e w' v' (aL (l ++ s))→Mv v0.ownBlock w w'→wpList P ops Q rest (Act.mk (ts.set d v').toArray df) w')
 (ht:nA P t e 1 1=true:=by decide +kernel) (hu:P.underlying u=some .string:=by decide +kernel) :
 wpList P ops Q (Oper.mk (some d) (.call ⟨.builtin .append,#[x0,y],#[t,u]⟩) ty ps af none :: rest) (Act.mk ts.toArray df) w:=by
 obtain ⟨v',w',hr,ho,hmv⟩:=DN (P:=P) (ty:=ty) ht hu h hB hm;refine wpList_plain rfl fun K hK => ?_;unfold Oper.wp execOp;simp only [resolve,invoke,builtin,Sem.run_bind,Sem.run_pure,Result.andThen_ok,List.map_toArray,List.map_cons,List.map_nil,h0,hy,hr];refine hK _ _ ?_;have:=hk v' w' ho hmv
 simpa [Act.put] using this
end
def YT (ps:List (List UInt8 × Nat)):List (Value × Value):=ps.map fun p=>(aI p.1, .int .i64 (p.2:Nat))
def IB (v:Value) (m:Nat):List Value:=[v, .map (some m)]
structure WrAt (w0 w:World) (b m:Nat) (l:List UInt8) (ps:List (List UInt8 × Nat)):Prop where
 hb:w0.heap.size≤b
 hm:w0.heap.size≤m
 ne:b≠m
 ext:Ext w0 w
 blk:∃ v,w.heap[b]? = some (.cells (IB v m).toArray 79 (0,0))∧Own w0.heap.size 1 5 w v (aL l)
 map:MapAt Tryz.prog 32 w m (YT ps)
def Kp (w w':World):Prop:=∀ (k:Nat) (cs:Array Value) (t:TypeId) (fz:Nat × Nat),t≠79→t≠5→w.heap[k]? = some (.cells cs t fz)→w'.heap[k]? = some (.cells cs t fz)
theorem Kp.refl (w:World):Kp w w:=fun _ _ _ _ _ _ h=>h
theorem Kp.trans (h:Kp w w1) (k:Kp w1 w2):Kp w w2:=fun n cs t fz a c x=>k n cs t fz a c (h n cs t fz a c x)
theorem Ext.kp (h:Ext w w'):Kp w w':=fun _ _ _ _ _ _ x=>h.at x
theorem Mv.kpRow (ho:Own B k 5 w v es) (h:Mv v.ownBlock w w'):Kp w w' :=
 fun _ _ _ _ _ hu x=>h.at x (fun e=>ho.neBlock x hu e.symm)
theorem Mv.kpBox (hB:w.heap[b]? = some (.cells cs 79 fz)) (h:Mv (some b) w w'):Kp w w' :=
 fun _ _ _ _ hw _ x=>h.at x (by intro e;cases e;rw [hB] at x;simp only [Option.some.injEq,Obj.cells.injEq] at x;exact hw x.2.1.symm)
theorem Mv.kpMap {m:Nat} {ents:List (Value × Value)} {kt:TypeId} (hM:MapAt Tryz.prog kt w m ents) (h:Mv (some m) w w'):Kp w w' :=
 fun _ _ _ _ _ _ x=>h.at x (by intro e;cases e;obtain ⟨es,ck,hme,_⟩:=hM.out;rw [hme] at x;cases x)
def zG (w0 w:World) (b m:Nat) (l:List UInt8) (ps:List (List UInt8 × Nat)) (e:Ending) (w':World):Prop:=e=.returned (.tuple #[])∧WrAt w0 w' b m l ps∧Kp w w'
def aT (n:Nat):List UInt8:=[UInt8.ofNat (n / 256),UInt8.ofNat n]
theorem CJ {m:Nat} (h:WrAt w0 w b m l ps) (s:List UInt8) (hl:l.length + s.length≤100000000000000):Calls Tryz.prog 82 #[.pointer (some ⟨b,0,none⟩),aI s] w (zG w0 w b m (l ++ s) ps):=by
 obtain ⟨hb,hm,hbm,hx,⟨v,hB,ho⟩,hM⟩:=h;have hp:=aA (cs:=IB v m) hB;go_enter Tryz.func82,Tryz.ntmps82
 refine_lift aX ?_;refine tR (e:=5) (v0:=v) rfl ho rfl hx.size aE ?_ aR (by kernel_rfl);intro v1 w1 o1 m1;refine aD ?_;have hB1:=m1.at hB (fun e=>(ho.neBlock hB bG) e.symm);have hM1:=hM.mvr m1 ho rfl;have x1:Ext w0 w1:=hx.move m1 (fun k e=>(ho.block k e).1);clear hp;refine_lift aX ?_;refine eS 0 v1 hB1 o1.one fun w2 p2 => ?_;have x2:=cH x1 p2;have hB2:w2.heap[b]? = some (.cells (IB v1 m).toArray 79 (0,0)):=p2.this;have o2:=cM o1 p2 hB1;have hM2:=hM1.at (fun o h=>p2.mv.at h (by intro e;exact hbm (Option.some.inj e).symm));refine_lift aX ?_
 go_end0
 exact ⟨rfl,⟨hb,hm,hbm,x2,⟨v1,hB2,o2⟩,hM2⟩,(Mv.kpRow ho m1).trans (Mv.kpBox hB1 p2.mv)⟩
theorem jY (n:Nat):IntKind.u8.wrap ((n:Nat):Int)=(((UInt8.ofNat n).toNat:Nat):Int):=by
 simp [IntKind.wrap,IntKind.signed,IntKind.bits]
theorem lU {m:Nat} (h:WrAt w0 w b m l ps) (n:Nat) (hn:n≤100000000000000) (hl:l.length + 2≤100000000000000):Calls Tryz.prog 33 #[.pointer (some ⟨b,0,none⟩), .int .i64 n] w (zG w0 w b m (l ++ aT n) ps):=by
 obtain ⟨hb,hm,hbm,hx,⟨v,hB,ho⟩,hM⟩:=h;have hp:=aA (cs:=IB v m) hB;go_enter Tryz.func33,Tryz.ntmps33
 refine_lift aX ?_;rw [show (↑n / 2 ^ Int.toNat 8:Int)=((n / 256:Nat):Int) by simp,jY,jY];refine nG (e:=5) (k:=1) (bytes:=1) (xs:=[.int .u8 ((UInt8.ofNat (n / 256)).toNat:Nat), .int .u8 ((UInt8.ofNat n).toNat:Nat)]) (by simp [Value.cells]) fun u1 w1 y1 _ sl1 _ => ?_;refine aD ?_;have ho1:=ho.ext y1;have x1':=hx.trans y1;have hB1':=y1.at hB;have hM1':=hM.at (fun o h=>y1.at h);refine nB (B:=w0.heap.size) (k:=1) (e:=5) (bytes:=1) (x:=u1) (es:=aL l) (fs:=aL (aT n)) rfl ho1 rfl sl1 aR (by simp [aL,aT,Value.oneCell']) x1'.size (by simp [aL,aT];omega) (by simp [aL,aT];omega) ?_;intro v1 w1 o1 m1;have m1:Mv v.ownBlock _ w1:=m1;refine aD ?_;have hB1:=m1.at hB1' (fun e=>(ho1.neBlock hB1' bG) e.symm);have hM1:=hM1'.mvr m1 ho1 rfl;have x1:Ext w0 w1:=x1'.move m1 (fun k e=>(ho1.block k e).1);clear hp;refine_lift aX ?_;refine eS 0 v1 hB1 o1.one fun w2 p2 => ?_;have x2:=cH x1 p2;have hB2:w2.heap[b]? = some (.cells (IB v1 m).toArray 79 (0,0)):=p2.this;have o2:=cM o1 p2 hB1;have hM2:=hM1.at (fun o h=>p2.mv.at h (by intro e;exact hbm (Option.some.inj e).symm));refine_lift aX ?_
 go_end0
 exact ⟨rfl,⟨hb,hm,hbm,x2,⟨v1,hB2,by simpa [aL] using o2⟩,hM2⟩,(y1.kp.trans (Mv.kpRow ho1 m1)).trans (Mv.kpBox hB1 p2.mv)⟩
structure HldR where
 o:List UInt8
 l:List RSet
 org:List UInt8
 up:Bool
 deriving Inhabited
structure HldsAt (w:World) (v:Value) (hs:List HldR):Prop where
 out:∃ css,Sl 4 w v css∧css.length=hs.length∧∀ (i:Nat) (h:HldR),hs[i]? = some h→∃ x,css[i]? = some [aI h.o,x,aI h.org, .bool h.up]∧SetsAt w x h.l
theorem HldsAt.ext {hs:List HldR} (h:HldsAt w v hs) (hx:Ext w w'):HldsAt w' v hs:=by
 obtain ⟨css,h1,h2,h3⟩:=h;exact ⟨css,h1.ext hx,h2,fun i s hi=>let ⟨x,a,b⟩:=h3 i s hi;⟨x,a,b.ext hx⟩⟩
theorem HldsAt.elem {hs:List HldR} (h:HldsAt w v hs) {x:HldR} (hi:hs[i]? = some x):∃ y,Pts w (dY v (i * 4)) [aI x.o,y,aI x.org, .bool x.up]∧SetsAt w y x.l:=by
 obtain ⟨css,h1,h2,h3⟩:=h;obtain ⟨y,h4,h5⟩:=h3 i x hi;exact ⟨y,h1.elem h4,h5⟩
theorem HldsAt.sl {hs:List HldR} (h:HldsAt w v hs):∃ css:List (List Value),Sl 4 w v css∧css.length=hs.length:=by
 obtain ⟨css,h1,h2,_⟩:=h;exact ⟨css,h1,h2⟩
def yA (n:List UInt8):List HldR→Nat→Option Nat→Int→Option Nat
 | [],_,b,_=>b
 | h :: t,i,b,most=>if bO n h.org=true∧most < ((iZ h.org:Nat):Int) then yA n t (i + 1) (some i) ((iZ h.org:Nat):Int) else yA n t (i + 1) b most
def UR (hs:List HldR) (n:List UInt8):Option Nat:=yA n hs 0 none (-1)
def Bk (v:Value):Option Nat→Value
 | none=>.pointer none
 | some i=>dY v (i * 4)
theorem HL (n:List UInt8):iZ n≤1000:=by
 unfold iZ;cases h:aP n with
 | none=>simp
 | some ls =>
  have h1:=dO h;have h2:=gM ls;rw [h1.2.1] at h2;simp;omega
def Ap:List Value:=[aI [], .slice none 0 0,aI [], .bool false]
theorem Bl (v:Value) (hs:List HldR) (n:List UInt8) (w:World) (hv:HldsAt w v hs) (hl:hs.length≤1000):Calls Tryz.prog 31 #[v,aI n] w (bC w (Bk v (UR hs n))):=by
 obtain ⟨css,hsl,hcl⟩:=hv.sl;have hgo:yA n (hs.drop 0) 0 none (-1)=UR hs n:=rfl;generalize UR hs n=RES at *;go_enter Tryz.func31,Tryz.ntmps31
 refine_lift cC fun _ _ => ?_;go_loopw [5,6,7,8,9,12] (fun bv mv _ _ _ iv wr=>∃ (k:Nat) (b:Option Nat) (most:Int),k≤hs.length∧iv=.int .i64 k∧bv=Bk v b∧mv=.int .i64 most∧-1≤most∧most≤1000∧Ext w wr∧yA n (hs.drop k) k b most=RES) (fun _ _ _ _ _ iv _=>hs.length - (intOf iv).toNat)
 case atStart=>exact ⟨0,none,-1,Nat.zero_le _,rfl,rfl,rfl,aE,aE,Ext.refl _,hgo⟩
 case round =>
  obtain ⟨k,b,most,hk,rfl,rfl,rfl,hm0,hm1,hx,hg⟩:=hrel;have hsr:=hsl.ext hx;by_cases hlt:k < hs.length
  ·obtain ⟨y,h4,hy⟩:=(hv.ext hx).elem (List.getElem?_eq_getElem hlt);rw [List.drop_eq_getElem_cons hlt] at hg;unfold yA at hg;refine_lift DI ?_;intro _ _ _ _ _ _;refine fO (z:=Ap) fun w3 x3 s3 h3 => ?_;refine aD ?_;refine_lift aX ?_;refine dS (v:=.agg #[aI hs[k].o,y,aI hs[k].org, .bool hs[k].up]) h3 (fI rfl (by obtain ⟨_,hq,_⟩:=hy.sl;exact hq.one) rfl rfl) fun w4 p4 => ?_;have x4:=cH x3 p4;have h4':=aA (cs:=[aI hs[k].o,y,aI hs[k].org, .bool hs[k].up]) p4.this;clear p4 h3 x3 h4;have hsr4:=hsr.ext x4;clear hsr;refine_lift cC fun _ _ => ?_;refine EF (KA hs[k].org _) fun v5 w5 x5 o5 => ?_;have hs5:=o5.sl;have hl5:(aK ((aP hs[k].org).getD [])).length=iZ hs[k].org:=by simp [aK,iZ]
   have hln:=HL hs[k].org;have hp5:=h4'.ext x5;clear h4';refine_lift cC fun _ _ => ?_;rw [hl5];refine cY (vY n hs[k].org _) fun w6 x6 => ?_;have hsr6:=hsr4.ext (x5.trans x6);have hx6:=hx.trans (x4.trans (x5.trans x6));clear hsr4;cases hu:bO n hs[k].org with
   | false =>
    rw [if_neg (by rintro ⟨h,_⟩;rw [hu] at h;cases h)] at hg;refine_lift aX ?_;exact ⟨⟨k + 1,b,most,aE,by go_num,rfl,rfl,hm0,hm1,hx6,hg⟩,by simp [intOf];omega⟩
   | true =>
    by_cases hc:most < ((iZ hs[k].org:Nat):Int)
    ·rw [if_pos ⟨hu,hc⟩] at hg;refine_lift jS fun _ => ?_
     all_goals first
      | (exfalso;omega)
      | skip
     exact ⟨⟨k + 1,some k,_,aE,by go_num,rfl,rfl,aE,aE,hx6,hg⟩,by simp [intOf];omega⟩
    ·rw [if_neg (fun h=>hc h.2)] at hg;refine_lift jS fun _ => ?_
     all_goals first
      | (exfalso;omega)
      | skip
     exact ⟨⟨k + 1,b,most,aE,by go_num,rfl,rfl,hm0,hm1,hx6,hg⟩,by simp [intOf];omega⟩
  ·have hk2:k=hs.length:=aE;subst hk2;rw [List.drop_length] at hg;unfold yA at hg;refine_lift jS fun _ => ?_;go_ret;rw [← hg];exact ⟨rfl,hx⟩
open Go.ChangeShapes Go.WideShapes Go.ChangeAt
theorem MO {H:Type} {enc:TypeId × Value→H} {spare:Nat→Bool} {cl:List Value} {x:DataW H × List MemPlace} (h:DataW.trod enc Tryz.prog w base spare held fuel 37 cl=some x):∃ (p:HldR) (u:Value),cl=[aI p.o,u,aI p.org, .bool p.up]∧SetsAt w u p.l:=by
 obtain ⟨xs,n',_,_,hl,hxl,hf⟩:=DataW.trod_struct Tryz.underlying37 h;have c2:Tryz.prog.cellsOf 32=1:=by kernel_rfl
 have c4:Tryz.prog.cellsOf 4=1:=by kernel_rfl
 have c25:Tryz.prog.cellsOf 35=2:=by kernel_rfl
 have c8:Tryz.prog.cellsOf 37=4:=by kernel_rfl
 rw [c8] at hl
 match cl,hl,xs,hxl with
 | [a,b,d,f],_,[y0,y1,y2],_ =>
  have g0:=hf 0 _ rfl;have g1:=hf 1 _ rfl;have g2:=hf 2 _ rfl;simp [c2,c4,c25] at g0 g1 g2;obtain ⟨o,ls,u,e0,hu⟩:=PT (c:=#[a,b]) g0;obtain ⟨rfl,rfl⟩:a=aI o∧b=u:=by simpa using e0
  obtain ⟨s1,rfl,_⟩:=vJ Tryz.underlying32 g1;obtain ⟨n2,rfl⟩:=PW Tryz.underlying4 g2;exact ⟨⟨o,ls,s1,n2⟩,b,rfl,hu⟩
theorem MP {H:Type} {enc:TypeId × Value→H} {spare:Nat→Bool} {x:DataW H × List MemPlace} (h:DataW.trod enc Tryz.prog w base spare held fuel 22 [v]=some x):∃ hs:List HldR,HldsAt w v hs:=by
 obtain ⟨es,hs,he⟩:=xH Tryz.underlying22 (show Tryz.prog.cellsOf 37=4 by kernel_rfl) aE h;obtain ⟨l,rfl⟩:∃ l:List {p:HldR × Value // SetsAt w p.2 p.1.l},es=l.map fun p=>[aI p.1.1.o,p.1.2,aI p.1.1.org, .bool p.1.1.up]:=by
  refine zT fun c hc => ?_;obtain ⟨n,y,hy⟩:=he c hc;obtain ⟨p,u,rfl,hu⟩:=MO hy;exact ⟨⟨(p,u),hu⟩,rfl⟩
 refine ⟨l.map fun p=>p.1.1,_,hs,bP,?_⟩;intro i s hi;rw [List.getElem?_map] at hi;obtain ⟨p,hp,rfl⟩:=Option.map_eq_some_iff.1 hi;exact ⟨p.1.2,by rw [List.getElem?_map,hp];rfl,p.2⟩
theorem DO {P:Program} {r:Reach} {t:TypeId} (ht:P.underlying t=some .string) (h:Value.okWide P w r base t v):∃ s,v=.string s∧s.size≤9223372036854775807:=by
 simp only [Value.okWide,ht,Cell.okWide] at h;cases v <;> simp_all [Cell.ok]
 all_goals omega
def jC (n:Nat):List UInt8:=aT (n / 65536) ++ aT n
theorem TN {m:Nat} (h:WrAt w0 w b m l ps) (n:Nat) (hn:n≤100000000000000) (hl:l.length + 4≤100000000000000):Calls Tryz.prog 36 #[.pointer (some ⟨b,0,none⟩), .int .i64 n] w (zG w0 w b m (l ++ jC n) ps):=by
 go_enter Tryz.func36,Tryz.ntmps36
 refine_lift cC fun _ _ => ?_;have c1:=lU h (n / 65536) aE aE;refine cP (vs:=[.pointer (some ⟨b,0,none⟩), .int .i64 ((n / 65536:Nat):Int)]) (enters_of Tryz.func33 rfl rfl) rfl (congrArg (fun z=>[Value.pointer (some ⟨b,0,none⟩),Value.int .i64 z]) (show ((n:Int) / 2 ^ Int.toNat 16)=((n / 65536:Nat):Int) by simp)) c1 ?_;rintro _ w1 ⟨rfl,h1,g1⟩;refine ⟨_,rfl,?_⟩;refine aD ?_;have c2:=lU h1 n hn (by simp [aT];omega);refine_lift aX ?_;refine bK c2 fun w2 h2 g2 => ?_;refine_lift aX ?_
 go_end0
 exact ⟨rfl,by simpa [jC] using h2,g1.trans g2⟩
def iA (x:List UInt8):List UInt8:=UInt8.ofNat x.length :: x
def dA:List (List UInt8)→List UInt8→List (List UInt8 × Nat)→List UInt8 × List (List UInt8 × Nat)
 | [],l,ps=>(l ++ [0],ps)
 | x :: ls,l,ps=>match ps.find? (fun p=>decide (p.1=enc (x :: ls))) with
   | some p=>if p.2 < 16384 then (l ++ aT (49152 ||| p.2),ps) else dA ls (l ++ iA x) ps
   | none=>dA ls (l ++ iA x) (ps ++ [(enc (x :: ls),l.length)])
def Keys (ps:List (List UInt8 × Nat)):Prop:=ps.Pairwise fun a b=>a.1≠b.1
theorem TO (hk:Keys ps) {p:List UInt8 × Nat} (h:ps[i]? = some p):ps.find? (fun q=>decide (q.1=p.1))=some p:=by
 induction ps generalizing i with
 | nil=>simp at h
 | cons q ps ih =>
  obtain ⟨h1,h2⟩:=List.pairwise_cons.1 hk;cases i with
  | zero =>
   simp at h;subst h;simp
  | succ i =>
   simp at h;rw [List.find?_cons_of_neg (by simpa using h1 p (List.mem_of_getElem? h))];exact ih h2 h
theorem YU (h:(YT ps)[i]? = some (aI n,v)):∃ k,ps[i]? = some (n,k)∧v=.int .i64 (k:Nat):=by
 simp only [YT,List.getElem?_map] at h;cases hp:ps[i]? with
 | none=>rw [hp] at h;cases h
 | some p =>
  rw [hp] at h;simp only [Option.map_some,Option.some.injEq,Prod.mk.injEq] at h;obtain ⟨h1,h2⟩:=h;exact ⟨p.2,by rw [← (show p.1=n by simpa [aI] using h1)],h2.symm⟩
theorem NY (h:∀ (i:Nat) (e:Value × Value),(YT ps)[i]? = some e→e.1≠aI n):ps.find? (fun q=>decide (q.1=n))=none:=by
 rw [List.find?_eq_none];intro q hq e;obtain ⟨i,hi⟩:=List.getElem?_of_mem hq;have e:q.1=n:=by simpa using e
 exact h i (aI q.1, .int .i64 (q.2:Nat)) (by simp [YT,hi]) (by rw [e])
theorem Keys.add (hk:Keys ps) (h:ps.find? (fun q=>decide (q.1=n))=none):Keys (ps ++ [(n,k)]):=by
 unfold Keys;rw [List.pairwise_append];refine ⟨hk,List.pairwise_singleton _ _,?_⟩;intro a ha b hb;simp at hb;subst hb;rw [List.find?_eq_none] at h
 simpa using h a ha
def sLen:Value→Nat
 | .string s=>s.size
 | _=>0
theorem NZ {m:Nat} (h:WrAt w0 w b m l ps) (hk:Keys ps) (ls:List (List UInt8)) (hf:ls.all jD=true) (hn:(enc ls).length≤1000) (hl:l.length + 2000≤100000000000000):Calls Tryz.prog 35 #[.pointer (some ⟨b,0,none⟩),aI (enc ls)] w (zG w0 w b m (dA ls l ps).1 (dA ls l ps).2):=by
 have hgo:dA (ls.drop 0) l ps=dA ls l ps:=by rw [List.drop_zero]
 generalize dA ls l ps=RES at *;go_enter Tryz.func35,Tryz.ntmps35
 refine_lift cC fun _ _ => ?_;go_loopw [1,4,5,6] (fun nv _ _ _ wr=>∃ (k:Nat) (l':List UInt8) (ps':List (List UInt8 × Nat)),k≤ls.length∧nv=aI (enc (ls.drop k))∧WrAt w0 wr b m l' ps'∧Keys ps'∧l'.length + (enc (ls.drop k)).length≤l.length + 1000∧(enc (ls.drop k)).length≤1000∧Kp w wr∧dA (ls.drop k) l' ps'=RES) (fun nv _ _ _ _=>sLen nv)
 case atStart=>exact ⟨0,l,ps,Nat.zero_le _,by rw [List.drop_zero],h,hk,by rw [List.drop_zero];omega,by rw [List.drop_zero];exact hn,Kp.refl _,hgo⟩
 case round =>
  obtain ⟨k,l',ps',hkl,rfl,hW,hK,hle,hle2,hKp,hg⟩:=hrel;have hfd:(ls.drop k).all jD=true:=by
   rw [List.all_eq_true] at hf ⊢;exact fun x hx=>hf x (List.mem_of_mem_drop hx)
  have hdl:(ls.drop k).length=ls.length - k:=List.length_drop;obtain ⟨hb,hm,hbm,hx,⟨v,hB,ho⟩,hM⟩:=hW;have hp:=aA (cs:=IB v m) hB;have hsl:=ho.sl;cases hd:ls.drop k with
  | nil =>
   rw [hd] at hg hle hle2;unfold dA at hg;refine_lift jS fun _ => ?_
   all_goals first
    | (exfalso;simp_all [enc];done)
    | skip
   refine nG (e:=5) (k:=1) (bytes:=1) (xs:=[.int .u8 0]) (by simp [Value.cells]) fun u1 w1 y1 _ sl1 _ => ?_;refine aD ?_;have ho1:=ho.ext y1;have x1':=hx.trans y1;have hB1':=y1.at hB;have hM1':=hM.at (fun o h=>y1.at h);refine nB (B:=w0.heap.size) (k:=1) (e:=5) (bytes:=1) (x:=u1) (es:=aL l') (fs:=aL [0]) rfl ho1 rfl sl1 aR (by simp [aL,Value.oneCell']) x1'.size (by simp [aL];omega) (by simp [aL];omega) ?_;intro v1 w1 o1 m1;have m1:Mv v.ownBlock _ w1:=m1;refine aD ?_;have hB1:=m1.at hB1' (fun e=>(ho1.neBlock hB1' bG) e.symm);have hM1:=hM1'.mvr m1 ho1 rfl;have x1:Ext w0 w1:=x1'.move m1 (fun k e=>(ho1.block k e).1);clear hp;refine_lift aX ?_;refine eS 0 v1 hB1 o1.one fun w2 p2 => ?_;have x2:=cH x1 p2;have hB2:w2.heap[b]? = some (.cells (IB v1 m).toArray 79 (0,0)):=p2.this;have o2:=cM o1 p2 hB1;have hM2:=hM1.at (fun o h=>p2.mv.at h (by intro e;exact hbm (Option.some.inj e).symm));refine_lift aX ?_
   go_end0
   rw [← hg];exact ⟨rfl,⟨hb,hm,hbm,x2,⟨v1,hB2,by simpa [aL] using o2⟩,hM2⟩,hKp.trans ((y1.kp.trans (Mv.kpRow ho1 m1)).trans (Mv.kpBox hB1 p2.mv))⟩
  | cons x xs =>
   rw [hd] at hg hle hle2 hfd;have hx1:1≤x.length∧x.length≤63:=by
    have:=(List.all_eq_true.1 hfd) x bP
    simpa [jD] using this
   have hxs:ls.drop (k + 1)=xs:=by rw [← List.drop_drop,hd];rfl
   have hen:enc (x :: xs)=UInt8.ofNat x.length :: (x ++ enc xs):=by simp [enc]
   have hlen:(UInt8.ofNat x.length :: (x ++ enc xs)).length=x.length + (enc xs).length + 1:=bP;have hlen2:(enc (x :: xs)).length=x.length + (enc xs).length + 1:=by rw [hen,hlen]
   have hb0:(UInt8.ofNat x.length).toNat=x.length:=by simp;omega
   have htk:List.take ((UInt8.ofNat x.length).toNat + 1) (UInt8.ofNat x.length :: (x ++ enc xs))=iA x:=by rw [hb0];simp [iA]
   have hdp:List.drop ((UInt8.ofNat x.length).toNat + 1) (UInt8.ofNat x.length :: (x ++ enc xs))=enc xs:=by rw [hb0];simp
   obtain ⟨lx,hlx⟩:=WC (enc (x :: xs)) aE;have hzv:∀ w,(zeroValue 3).run Tryz.prog w=.ok (.int .i64 0) w:=fun w=>by kernel_rfl
   obtain ⟨bv,bb,hrl,hcase⟩:=jZ NU (aR:rM Tryz.prog 76 32 3=true) hzv hM hlx true;simp only [if_true] at hrl;have hne0:enc (x :: xs)≠[]:=by rw [hen];simp
   refine_lift qQ ?_;intro _ _ _ _
   all_goals first
    | (exfalso;exact hne0 (by simpa using ‹_›))
    | skip
   refine bZ rfl (Runs.lookup rfl rfl hrl) ?_;refine aD ?_;rcases hcase with ⟨i,hie,rfl⟩ | ⟨hno,rfl,rfl⟩
   ·obtain ⟨at_,hat,rfl⟩:=YU hie;have hfind:=TO hK hat;unfold dA at hg;dsimp only at hfind;rw [hfind] at hg;dsimp only at hg;by_cases c1:at_ < 16384
    ·rw [if_pos c1] at hg;refine_lift QV fun _ _ _ _ _ => ?_
     all_goals first
      | (exfalso;omega)
      | skip
     refine aS (Runs.orN (m:=49152) (n:=at_) rfl rfl aE aE) ?_;refine aD ?_;have cw:=lU (⟨hb,hm,hbm,hx,⟨v,hB,ho⟩,hM⟩:WrAt w0 wr b m l' ps') (49152 ||| at_) (by have:=Nat.or_lt_two_pow (x:=49152) (y:=at_) (n:=16) bG aE;omega) aE;refine bK cw fun w1 h1 g1 => ?_;refine_lift aX ?_;refine bodyPost_ret (results_none rfl _ _ _) rfl ?_;rw [← hg];exact ⟨rfl,h1,hKp.trans g1⟩
    ·rw [if_neg c1] at hg;rw [hen];refine_lift rI fun _ _ _ => ?_
     all_goals first
      | (exfalso;omega)
      | skip
     have hW9:WrAt w0 _ b m l' ps':=⟨hb,hm,hbm,hx,⟨v,hB,ho⟩,hM⟩;have ct:=CJ hW9 (iA x) (by simp [iA];omega);refine cP (vs:=[.pointer (some ⟨b,0,none⟩),aI (iA x)]) (enters_of Tryz.func82 rfl rfl) rfl (congrArg (fun z=>[Value.pointer (some ⟨b,0,none⟩),aI z]) htk) ct ?_;rintro _ w5 ⟨rfl,h5,g5⟩;refine ⟨_,rfl,?_⟩;refine aD ?_;clear hp hsl;refine_lift aX ?_;refine ⟨⟨k + 1,l' ++ iA x,ps',by have:=congrArg List.length hd;simp at this;omega,by rw [hxs];exact congrArg aI hdp,h5,hK,by rw [hxs];simp [iA];omega,by rw [hxs];omega,hKp.trans g5,by rw [hxs];exact hg⟩,?_⟩;show (List.drop ((UInt8.ofNat x.length).toNat + 1) (UInt8.ofNat x.length :: (x ++ enc xs))).length < (enc (x :: xs)).length;rw [hdp,hlen2];omega
   ·unfold dA at hg;rw [NY hno] at hg;dsimp only at hg;refine_lift cC fun _ _ => ?_
    all_goals first
     | (exfalso;simp_all;done)
     | skip
    refine bE 10 (Ext wr) aR ?_;intro w1 x1 _;refine ⟨x1,?_⟩;refine cI 0 ?_;refine cI 1 ?_;refine cI 2 ?_;refine cI 3 ?_;refine cI 4 ?_;refine cI 5 ?_;refine cI 6 ?_;refine cI 7 ?_;refine cI 8 ?_;refine cI 9 ?_;refine fR 10 ?_;have hM1:=hM.at (fun o h=>x1.at h);obtain ⟨w7,o7,hr7,p7,hm7⟩:=nD NU (aR:rM Tryz.prog 76 32 3=true) hM1 hlx (v:=.int .i64 ((aL l').length:Nat)) hno;refine oI rfl rfl rfl rfl hr7 ?_;have x7:=cH (hx.trans x1) p7;have hB7:=p7.mv.at (x1.at hB) (by intro e;exact hbm (Option.some.inj e));obtain ⟨es,ck,hme,_⟩:=hM1.out;have ho7:=(ho.ext x1).mv p7.mv (.inr ((ho.ext x1).neMap hme));have hm8:MapAt Tryz.prog 32 w7 m (YT (ps' ++ [(enc (x :: xs),l'.length)])):=by simpa [YT,aL] using hm7
    refine aG ⟨bF rfl,?_⟩;refine qR ?_;rw [hen];refine_lift cC fun _ _ => ?_;have hW9:WrAt w0 _ b m l' (ps' ++ [(enc (x :: xs),l'.length)]):=⟨hb,hm,hbm,x7,⟨v,hB7,ho7⟩,hm8⟩;have ct:=CJ hW9 (iA x) (by simp [iA];omega);refine cP (vs:=[.pointer (some ⟨b,0,none⟩),aI (iA x)]) (enters_of Tryz.func82 rfl rfl) rfl (congrArg (fun z=>[Value.pointer (some ⟨b,0,none⟩),aI z]) htk) ct ?_;rintro _ w5 ⟨rfl,h5,g5⟩;refine ⟨_,rfl,?_⟩;refine aD ?_;clear hp hsl;refine_lift aX ?_;refine ⟨⟨k + 1,l' ++ iA x,(ps' ++ [(enc (x :: xs),l'.length)]),by have:=congrArg List.length hd;simp at this;omega,by rw [hxs];exact congrArg aI hdp,h5,hK.add (NY hno),by rw [hxs];simp [iA];omega,by rw [hxs];omega,hKp.trans ((x1.kp.trans (Mv.kpMap hM1 p7.mv)).trans g5),by rw [hxs];exact hg⟩,?_⟩;show (List.drop ((UInt8.ofNat x.length).toNat + 1) (UInt8.ofNat x.length :: (x ++ enc xs))).length < (enc (x :: xs)).length;rw [hdp,hlen2];omega
def dU (n:List UInt8):List (List UInt8):=(aP n).getD []
theorem fS (h:(aP n).isSome=true):(dU n).all jD=true∧enc (dU n)=n∧n.length≤254:=by
 cases hl:aP n with
 | none=>rw [hl] at h;cases h
 | some ls =>
  have:=dO hl
  simpa [dU,hl] using this
theorem wM {m:Nat} (h:WrAt w0 w b m l ps) (hk:Keys ps) (n:List UInt8) (hn:(aP n).isSome=true) (hl:l.length + 2000≤100000000000000):Calls Tryz.prog 35 #[.pointer (some ⟨b,0,none⟩),aI n] w (zG w0 w b m (dA (dU n) l ps).1 (dA (dU n) l ps).2):=by
 obtain ⟨h1,h2,h3⟩:=fS hn;have:=NZ h hk (dU n) h1 (by rw [h2];omega) hl;rw [h2] at this;exact this
theorem jW:∀ (ls:List (List UInt8)) (l:List UInt8) (ps:List (List UInt8 × Nat)),Keys ps→Keys (dA ls l ps).2:=by
 intro ls;induction ls with
 | nil=>intro l ps h;exact h
 | cons x ls ih =>
  intro l ps h;unfold dA;split
  ·split
   ·exact h
   ·exact ih _ _ h
  ·rename_i hn;exact ih _ _ (h.add hn)
theorem mW:∀ (ls:List (List UInt8)) (l:List UInt8) (ps:List (List UInt8 × Nat)),∃ t,(dA ls l ps).1=l ++ t∧t.length≤(enc ls).length + 2:=by
 intro ls;induction ls with
 | nil=>intro l ps;exact ⟨[0],rfl,bP⟩
 | cons x ls ih =>
  intro l ps;have he:(enc (x :: ls)).length=(iA x).length + (enc ls).length:=by simp [enc,iA];omega
  unfold dA;split
  ·split
   ·exact ⟨_,rfl,by simp [aT]⟩
   ·obtain ⟨t,h1,h2⟩:=ih (l ++ iA x) ps;exact ⟨iA x ++ t,by rw [h1,List.append_assoc],by rw [List.length_append];omega⟩
  ·obtain ⟨t,h1,h2⟩:=ih (l ++ iA x) (ps ++ [(enc (x :: ls),l.length)]);exact ⟨iA x ++ t,by rw [h1,List.append_assoc],by rw [List.length_append];omega⟩
def dH (r:Rec) (l:List UInt8) (ps:List (List UInt8 × Nat)):List UInt8 × List (List UInt8 × Nat) :=
 if r.kind=6 then ((dA (dU (fL r.data).mail) (dA (dU (fL r.data).main) l ps).1 (dA (dU (fL r.data).main) l ps).2).1 ++ r.data.drop (r.data.length - 20),(dA (dU (fL r.data).mail) (dA (dU (fL r.data).main) l ps).1 (dA (dU (fL r.data).main) l ps).2).2)
 else if (aQ r.kind r.data).2=0∧r.kind≠33 then dA (dU (aQ r.kind r.data).1) (l ++ r.data.take (r.data.length - (aQ r.kind r.data).1.length - 1)) ps
 else (l ++ r.data,ps)
def qI (r:Rec) (l:List UInt8) (ps:List (List UInt8 × Nat)):List UInt8 × List (List UInt8 × Nat) :=
 (l ++ aT ((dH r (l ++ aT 0) ps).1.length - l.length - 2) ++ (dH r (l ++ aT 0) ps).1.drop (l.length + 2),(dH r (l ++ aT 0) ps).2)
theorem tA {k:Int} (h:(aQ k d).2=0):(aP (aQ k d).1).isSome=true∧(aQ k d).1.length + 1≤d.length:=by
 unfold aQ at h ⊢;split at h
 ·cases h
 ·split at h
  ·cases h
  ·rename_i c1 c2;rw [if_neg c1,if_neg c2];cases hh:fX (d.drop (eL k).toNat) with
   | none=>rw [hh] at h;cases h
   | some n =>
    obtain ⟨e1,e2⟩:=uK hh;have:=congrArg List.length e1;simp at this;exact ⟨e2,by simp;omega⟩
theorem wN (r:Rec) (l2:List UInt8) (ps:List (List UInt8 × Nat)) (hd:r.data.length≤4000) (hS:r.kind=6→(aP (fL r.data).main).isSome=true∧(aP (fL r.data).mail).isSome=true∧20≤r.data.length):∃ y,(dH r l2 ps).1=l2 ++ y∧y.length≤5000:=by
 unfold dH;split
 ·rename_i c6;obtain ⟨s1',s2',s3'⟩:=hS c6;obtain ⟨y7,e7,n7⟩:=mW (dU (fL r.data).main) l2 ps;obtain ⟨y8,e8,n8⟩:=mW (dU (fL r.data).mail) (dA (dU (fL r.data).main) l2 ps).1 (dA (dU (fL r.data).main) l2 ps).2;have a1:=fS s1';have a2:=fS s2';rw [a1.2.1] at n7;rw [a2.2.1] at n8;refine ⟨y7 ++ (y8 ++ r.data.drop (r.data.length - 20)),?_,?_⟩
  ·dsimp only;rw [e8,e7];simp
  ·simp only [List.length_append,List.length_drop];omega
 ·split
  ·rename_i c0;obtain ⟨k1,k2⟩:=tA c0.1;obtain ⟨y7,e7,n7⟩:=mW (dU (aQ r.kind r.data).1) (l2 ++ r.data.take (r.data.length - (aQ r.kind r.data).1.length - 1)) ps;have a1:=fS k1;rw [a1.2.1] at n7;refine ⟨r.data.take (r.data.length - (aQ r.kind r.data).1.length - 1) ++ y7,by rw [e7,List.append_assoc],?_⟩;simp only [List.length_append,List.length_take];omega
  ·exact ⟨r.data,rfl,aE⟩
theorem WF (l:List UInt8) (k:Nat) (a:UInt8):(aL l).set k [.int .u8 ((a.toNat:Nat):Int)]=aL (l.set k a):=by simp [aL,List.map_set]
theorem TP (l y:List UInt8) (n:Nat):((aL (l ++ aT 0 ++ y)).set l.length [.int .u8 (IntKind.u8.wrap ((n:Int) / 2 ^ Int.toNat 8))]).set (l.length + 1) [.int .u8 (IntKind.u8.wrap (n:Int))]=aL (l ++ aT n ++ y):=by
 rw [show ((n:Int) / 2 ^ Int.toNat 8)=((n / 256:Nat):Int) by simp,jY,jY,WF,WF]
 congr 1
 simp [aT,List.set_append]
theorem WG {m:Nat} (h:WrAt w0 w b m l ps) (hk:Keys ps) (r:Rec) (hd:r.data.length≤4000) (hS:r.kind=6→(aP (fL r.data).main).isSome=true∧(aP (fL r.data).mail).isSome=true∧20≤r.data.length) (hl:l.length + 10000≤100000000000000):Calls Tryz.prog 37 #[.pointer (some ⟨b,0,none⟩),oM r] w (zG w0 w b m (qI r l ps).1 (qI r l ps).2):=by
 unfold qI;have hh:=tA (k:=r.kind) (d:=r.data);have hpre:=wN r (l ++ aT 0) ps hd hS;go_enter Tryz.func37,Tryz.ntmps37
 refine_lift mS fun _ _ => ?_;refine zV (vs:=[aI r.name, .int .i64 r.kind, .int .i64 r.ttl,aI r.data]) fun w1 x1 s1 hb1 => ?_;refine aD ?_;obtain ⟨hb,hm,hbm,hx,⟨v,hB,ho⟩,hM⟩:=h;have hp:=aA (cs:=IB v m) (x1.at hB);have hsl:=(ho.ext x1).sl;have hW1:WrAt w0 w1 b m l ps:=⟨hb,hm,hbm,hx.trans x1,⟨v,x1.at hB,ho.ext x1⟩,hM.at (fun o h=>x1.at h)⟩;refine_lift cC fun _ _ => ?_;have cw:=lU hW1 0 aE aE;refine bK cw fun w2 h2 g2 => ?_;clear hp;have hc2:=g2 _ _ _ _ bG bG hb1;have hpc2:=aA (cs:=[aI r.name, .int .i64 r.kind, .int .i64 r.ttl,aI r.data]) hc2;have hl2:(l ++ aT 0).length=l.length + 2:=by simp [aT]
 generalize hL2:l ++ aT 0=l2 at *;refine_lift cC fun _ _ => ?_;refine cY (Av r.kind r.data _ aE) fun w3 x3 => ?_;have hpc3:=hpc2.ext x3;have hc3:=x3.at hc2;obtain ⟨f1,f2,f3,f4,⟨v2,f5,f6⟩,f7⟩:=h2;have h3:WrAt w0 w3 b m l2 ps:=⟨f1,f2,f3,f4.trans x3,⟨v2,x3.at f5,f6.ext x3⟩,f7.at (fun o h=>x3.at h)⟩;clear hpc2;have hDe:dH r l2 ps=dH r l2 ps:=rfl
 conv at hDe=>rhs;unfold dH
 obtain ⟨ht,hte⟩:∃ y,y=aQ r.kind r.data:=⟨_,rfl⟩;rw [← hte] at hh hDe;rw [← hte]
 (repeat' first | ((with_reducible refine cQ ?_);go_step) | ((with_reducible refine bM ?_);first | refine gR ?_ | (refine cV ?_ ?_ <;> intro hc)) | fail)
 all_goals first
  | (have c6:¬ r.kind=6:=by assumption
     have c0:¬ (ht.2=0∧r.kind≠33):=by
      first
       | (have:¬ ht.2=0:=by assumption
          exact fun h=>this h.1)
       | (have:r.kind=33:=by simpa using ‹(!decide (r.kind=33))=false›
          exact fun h=>h.2 this)
     have ct:=CJ h3 r.data aE;refine bK ct fun w9 h9 g9 => ?_;have hZ:WrAt w0 w9 b m (dH r l2 ps).1 (dH r l2 ps).2:=by
      rw [hDe,if_neg c6,if_neg c0];exact h9
     have gZ:Kp w3 w9:=g9)
  | (have c6:¬ r.kind=6:=by assumption
     have c0:ht.2=0∧r.kind≠33:=⟨by assumption,by simpa using ‹(!decide (r.kind=33))=true›⟩;obtain ⟨k1,k2⟩:=hh c0.1;have ct:=CJ h3 (r.data.take (r.data.length - ht.1.length - 1)) (by rw [List.length_take];omega);refine cP (vs:=[.pointer (some ⟨b,0,none⟩),aI (r.data.take (r.data.length - ht.1.length - 1))]) (enters_of Tryz.func82 rfl rfl) rfl (congrArg (fun z=>[Value.pointer (some ⟨b,0,none⟩),aI (r.data.take z)]) aE) ct ?_;rintro _ w8 ⟨rfl,h8,g8⟩;refine ⟨_,rfl,?_⟩;refine aD ?_;have hpc8:=aA (cs:=[aI r.name, .int .i64 r.kind, .int .i64 r.ttl,aI r.data]) (g8 _ _ _ _ bG bG hc3);clear hpc3;refine_lift aX ?_;have cn:=wM h8 hk ht.1 k1 (by rw [List.length_append,List.length_take];omega);refine bK cn fun w9 h9 g9 => ?_;have hZ:WrAt w0 w9 b m (dH r l2 ps).1 (dH r l2 ps).2:=by
      rw [hDe,if_neg c6,if_pos c0];exact h9
     have gZ:Kp w3 w9:=g8.trans g9)
  | skip
 ·have c6:r.kind=6:=by assumption
  obtain ⟨s1',s2',s3'⟩:=hS c6;refine cY (KK r.data _ aE) fun w4 x4 => ?_;refine_lift aX ?_;refine fO (z:=bD) fun w5 x5 s5 h5 => ?_;refine aD ?_;refine dS (v:=.agg (fL r.data).cells.toArray) h5 (oZ _) fun w6 p6 => ?_;have x46:=cH x5 p6;have x36:=x4.trans x46;have hb6:w6.heap[w4.heap.size]? = some (.cells (fL r.data).cells.toArray 155 (0,0)):=p6.this;have hs6:=aA (cs:=(fL r.data).cells) hb6;obtain ⟨f1,f2,f3,f4,⟨v3,f5,f6⟩,f7⟩:=h3;have h6:WrAt w0 w6 b m l2 ps:=⟨f1,f2,f3,f4.trans x36,⟨v3,x36.at f5,f6.ext x36⟩,f7.at (fun o h=>x36.at h)⟩;have hc6:=x36.at hc3;clear p6 h5;generalize w4.heap.size=d at *;refine_lift cC fun _ _ => ?_;have cn:=wM h6 hk (fL r.data).main s1' aE;have hk7:=jW (dU (fL r.data).main) l2 ps hk;obtain ⟨y7,e7,n7⟩:=mW (dU (fL r.data).main) l2 ps;refine bK cn fun w7 h7 g7 => ?_;have hb7:=g7 _ _ _ _ bG bG hb6;have hs7:=aA (cs:=(fL r.data).cells) hb7;have hc7:=g7 _ _ _ _ bG bG hc6;clear hs6;refine_lift cC fun _ _ => ?_;have cn2:=wM h7 hk7 (fL r.data).mail s2' (by rw [e7,List.length_append];have:=(fS s1').2.1;rw [this] at n7;have:=(fS s1').2.2;omega);obtain ⟨y8,e8,n8⟩:=mW (dU (fL r.data).mail) (dA (dU (fL r.data).main) l2 ps).1 (dA (dU (fL r.data).main) l2 ps).2;refine bK cn2 fun w8 h8 g8 => ?_;have hc8:=g8 _ _ _ _ bG bG hc7;have hpc8:=aA (cs:=[aI r.name, .int .i64 r.kind, .int .i64 r.ttl,aI r.data]) hc8;clear hpc3 hs7;refine_lift aX ?_;have ct:=CJ h8 (r.data.drop (r.data.length - 20)) (by rw [e8,e7,List.length_drop,List.length_append,List.length_append];rw [(fS s1').2.1] at n7;rw [(fS s2').2.1] at n8;have:=(fS s1').2.2;have:=(fS s2').2.2;omega);refine cP (vs:=[.pointer (some ⟨b,0,none⟩),aI (r.data.drop (r.data.length - 20))]) (enters_of Tryz.func82 rfl rfl) rfl (congrArg (fun z=>[Value.pointer (some ⟨b,0,none⟩),aI (r.data.drop z)]) aE) ct ?_;rintro _ w9 ⟨rfl,h9,g9⟩;refine ⟨_,rfl,?_⟩;refine aD ?_;have hZ:WrAt w0 w9 b m (dH r l2 ps).1 (dH r l2 ps).2:=by
   rw [hDe,if_pos c6];exact h9
  have gZ:Kp w3 w9:=((x36.kp.trans g7).trans g8).trans g9;clear hpc8;obtain ⟨y,ey,ny⟩:=hpre;generalize dH r l2 ps=Z at *;obtain ⟨e1,e2,e3,e4,⟨vz,e5,e6⟩,e7⟩:=hZ;have hpz:=aA (cs:=IB vz m) e5;have hslz:=e6.sl;have hbz:(aL Z.1).length=Z.1.length:=by simp [aL]
  have hbl:(aL l).length=l.length:=by simp [aL]
  have hlz:Z.1.length=l.length + 2 + y.length:=by rw [ey,List.length_append,hl2]
  refine_lift aX ?_;have hn:((aL Z.1).length:Int) - (aL l).length - 2=((Z.1.length - l.length - 2:Nat):Int):=aE;rw [hn];refine bE 19 (fun w'=>Pts w' (.pointer (some ⟨b,0,none⟩)) (IB vz m)∧∃ es:List (List Value),es.length=Z.1.length∧Sl 1 w' vz es) aR ?_;intro wA xA _;refine ⟨⟨hpz.ext xA,aL Z.1,hbz,hslz.ext xA⟩,?_⟩;refine cI 0 ?_;refine cI 1 ?_;refine cI 2 ?_;refine uG (i:=3) (v:=vz) rfl rfl (fun w' hF=>by obtain ⟨hF,_⟩:=hF;exact UX) ?_;refine aD ?_;refine cI 4 ?_;refine cI 5 ?_;refine cI 6 ?_;refine cI 7 ?_;refine uG (i:=8) (v:=vz) rfl rfl (fun w' hF=>by obtain ⟨hF,_⟩:=hF;exact UX) ?_;refine aD ?_;refine cI 9 ?_;refine cI 10 ?_;refine cI 11 ?_;refine cI 12 ?_;refine cI 13 ?_;refine cI 14 ?_;refine cI 15 ?_;refine uG (i:=16) (v:=dY vz (l.length * 1)) rfl rfl (fun w' hF=>by obtain ⟨_,es,h1,h2⟩:=hF;rw [← hbl];exact Runs.idxT rfl h2 aE aR) ?_;refine aD ?_;refine fR 17 ?_;refine eY (c:=.int .u8 (IntKind.u8.wrap (((Z.1.length - l.length - 2:Nat):Int) / 2 ^ Int.toNat 8))) (i:=l.length) rfl rfl rfl (e6.ext xA) aE aR rfl ?_;intro wB oB mB;have pB:=aA (cs:=IB vz m) (mB.at (xA.at e5) (fun e=>(e6.neBlock e5 bG) e.symm));refine aG ⟨bJ ⟨pB,_,by rw [List.length_set];exact hbz,oB.sl⟩,?_⟩;have hslB:=oB.sl;have hlB:((aL Z.1).set l.length [.int .u8 (IntKind.u8.wrap (((Z.1.length - l.length - 2:Nat):Int) / 2 ^ Int.toNat 8))]).length=Z.1.length:=by rw [List.length_set];exact hbz
  refine fR 18 ?_;refine aS (v:=dY vz ((l.length + 1) * 1)) (by rw [← hbl];exact Runs.idxT rfl hslB aE aR) ?_;refine aD ?_;refine aG ⟨bJ ⟨pB,_,hlB,hslB⟩,?_⟩;refine fR 19 ?_;refine eY (c:=.int .u8 (IntKind.u8.wrap ((Z.1.length - l.length - 2:Nat):Int))) (i:=l.length + 1) rfl rfl rfl oB aE aR rfl ?_;intro wC oC mC;refine aG ⟨bF rfl,?_⟩;refine qR ?_;refine_lift aX ?_
  go_end0
  have hBb:=mB.at (xA.at e5) (fun e=>(e6.neBlock e5 bG) e.symm);have hCb:=mC.at hBb (fun e=>(oB.neBlock hBb bG) e.symm);have xC:Ext w0 wC:=((e4.trans xA).move mB (fun k e=>((e6.ext xA).block k e).1)).move mC (fun k e=>(oB.block k e).1);have mapC:=((e7.at (fun o h=>xA.at h)).mvr mB (e6.ext xA) rfl).mvr mC oB rfl;have oC':Own w0.heap.size 1 5 wC vz (aL (l ++ aT (Z.1.length - l.length - 2) ++ Z.1.drop (l.length + 2))):=by
   have e0:Z.1.drop (l.length + 2)=y:=by rw [ey,← hl2,List.drop_left]
   rw [e0,← TP];rw [hL2,← ey];exact oC
  exact ⟨rfl,⟨e1,e2,e3,xC,⟨vz,hCb,oC'⟩,mapC⟩,(((((x1.kp.trans g2).trans x3.kp).trans gZ).trans xA.kp).trans (Mv.kpRow (e6.ext xA) mB)).trans (Mv.kpRow oB mC)⟩
 all_goals obtain ⟨y,ey,ny⟩:=hpre
 all_goals generalize dH r l2 ps=Z at *
 all_goals obtain ⟨e1,e2,e3,e4,⟨vz,e5,e6⟩,e7⟩:=hZ
 all_goals have hpz:=aA (cs:=IB vz m) e5
 all_goals have hslz:=e6.sl
 all_goals have hbz:(aL Z.1).length=Z.1.length:=by simp [aL]
 all_goals have hbl:(aL l).length=l.length:=by simp [aL]
 all_goals have hlz:Z.1.length=l.length + 2 + y.length:=by rw [ey,List.length_append,hl2]
 all_goals refine_lift aX ?_
 all_goals have hn:((aL Z.1).length:Int) - (aL l).length - 2=((Z.1.length - l.length - 2:Nat):Int):=aE
 all_goals rw [hn]
 all_goals refine bE 19 (fun w'=>Pts w' (.pointer (some ⟨b,0,none⟩)) (IB vz m)∧∃ es:List (List Value),es.length=Z.1.length∧Sl 1 w' vz es) aR ?_
 all_goals intro wA xA _
 all_goals refine ⟨⟨hpz.ext xA,aL Z.1,hbz,hslz.ext xA⟩,?_⟩
 all_goals refine cI 0 ?_;refine cI 1 ?_;refine cI 2 ?_
 all_goals refine uG (i:=3) (v:=vz) rfl rfl (fun w' hF=>by obtain ⟨hF,_⟩:=hF;exact UX) ?_
 all_goals refine aD ?_
 all_goals refine cI 4 ?_;refine cI 5 ?_;refine cI 6 ?_;refine cI 7 ?_
 all_goals refine uG (i:=8) (v:=vz) rfl rfl (fun w' hF=>by obtain ⟨hF,_⟩:=hF;exact UX) ?_
 all_goals refine aD ?_
 all_goals refine cI 9 ?_;refine cI 10 ?_;refine cI 11 ?_;refine cI 12 ?_;refine cI 13 ?_;refine cI 14 ?_;refine cI 15 ?_
 all_goals refine uG (i:=16) (v:=dY vz (l.length * 1)) rfl rfl (fun w' hF=>by obtain ⟨_,es,h1,h2⟩:=hF;rw [← hbl];exact Runs.idxT rfl h2 aE aR) ?_
 all_goals refine aD ?_
 all_goals refine fR 17 ?_
 all_goals refine eY (c:=.int .u8 (IntKind.u8.wrap (((Z.1.length - l.length - 2:Nat):Int) / 2 ^ Int.toNat 8))) (i:=l.length) rfl rfl rfl (e6.ext xA) aE aR rfl ?_
 all_goals intro wB oB mB
 all_goals have pB:=aA (cs:=IB vz m) (mB.at (xA.at e5) (fun e=>(e6.neBlock e5 bG) e.symm))
 all_goals refine aG ⟨bJ ⟨pB,_,by rw [List.length_set];exact hbz,oB.sl⟩,?_⟩
 all_goals have hslB:=oB.sl
 all_goals have hlB:((aL Z.1).set l.length [.int .u8 (IntKind.u8.wrap (((Z.1.length - l.length - 2:Nat):Int) / 2 ^ Int.toNat 8))]).length=Z.1.length:=by rw [List.length_set];exact hbz
 all_goals refine fR 18 ?_
 all_goals refine aS (v:=dY vz ((l.length + 1) * 1)) (by rw [← hbl];exact Runs.idxT rfl hslB aE aR) ?_
 all_goals refine aD ?_
 all_goals refine aG ⟨bJ ⟨pB,_,hlB,hslB⟩,?_⟩
 all_goals refine fR 19 ?_
 all_goals refine eY (c:=.int .u8 (IntKind.u8.wrap ((Z.1.length - l.length - 2:Nat):Int))) (i:=l.length + 1) rfl rfl rfl oB aE aR rfl ?_
 all_goals intro wC oC mC
 all_goals refine aG ⟨bF rfl,?_⟩
 all_goals refine qR ?_
 all_goals refine_lift aX ?_
 all_goals go_end0
 all_goals have hBb:=mB.at (xA.at e5) (fun e=>(e6.neBlock e5 bG) e.symm)
 all_goals have hCb:=mC.at hBb (fun e=>(oB.neBlock hBb bG) e.symm)
 all_goals have xC:Ext w0 wC:=((e4.trans xA).move mB (fun k e=>((e6.ext xA).block k e).1)).move mC (fun k e=>(oB.block k e).1)
 all_goals have mapC:=((e7.at (fun o h=>xA.at h)).mvr mB (e6.ext xA) rfl).mvr mC oB rfl
 all_goals have oC':Own w0.heap.size 1 5 wC vz (aL (l ++ aT (Z.1.length - l.length - 2) ++ Z.1.drop (l.length + 2))):=by rw [show Z.1.drop (l.length + 2)=y by rw [ey,← hl2,List.drop_left],← TP,hL2,← ey];exact oC
 all_goals exact ⟨rfl,⟨e1,e2,e3,xC,⟨vz,hCb,oC'⟩,mapC⟩,(((((x1.kp.trans g2).trans x3.kp).trans gZ).trans xA.kp).trans (Mv.kpRow (e6.ext xA) mB)).trans (Mv.kpRow oB mC)⟩
structure RecOk (r:Rec):Prop where
 nm:(aP r.name).isSome=true
 k0:1≤r.kind
 k1:r.kind≤65535
 t0:0≤r.ttl
 t1:r.ttl≤2147483647
 d:r.data.length≤4000
 soa:r.kind=6→(aP (fL r.data).main).isSome=true∧(aP (fL r.data).mail).isSome=true∧20≤r.data.length
theorem DP {o:Option (List UInt8)} (h:o.isSome=true):∃ n,o=some n∧o.getD []=n:=by
 cases o with
 | none=>cases h
 | some n=>exact ⟨n,rfl,rfl⟩
theorem zH (h:(cO s).2.2=true):(aP (cO s).1).isSome=true∧(cO s).2.1.length≤s.length:=by
 unfold cO at h ⊢;split
 ·rename_i c;rw [if_pos c] at h;cases h
 ·rename_i c;rw [if_neg c] at h;dsimp only at h ⊢;obtain ⟨n,h1,h2⟩:=DP h;rw [h2];exact ⟨(uK h1).2,by rw [List.length_drop];omega⟩
theorem PX (h:(cW d).isSome=true):(aP (fL d).main).isSome=true∧(aP (fL d).mail).isSome=true∧20≤d.length:=by
 unfold fL;unfold cW at h ⊢;dsimp only at h ⊢;split at h
 ·rename_i c;rw [if_pos c];obtain ⟨c1,c2,c3,c4⟩:=c;have a:=zH c1;have b:=zH c2;refine ⟨a.1,b.1,aE⟩
 ·cases h
theorem tB {r:Rec} (h:aU r=0):RecOk r:=by
 unfold aU at h;split at h
 ·cases h
 ·split at h
  ·cases h
  ·rename_i c1 c2;split at h
   ·rename_i c3;refine ⟨c3,aE,aE,aE,aE,aE,fun e => ?_⟩;have hf:fits r.kind r.data=true:=by
     cases hf:fits r.kind r.data with
     | true=>rfl
     | false=>exact absurd (by simp [hf]) c2
    rw [e] at hf;exact PX (by simpa [fits] using hf)
   ·cases h
def flagN (is:Bool) (n:Nat):Nat:=if is=true then n else 0
def iK (m:MsgR):Nat:=(((((flagN m.resp 32768 ||| m.op.toNat * 2048) ||| flagN m.auth 1024) ||| flagN m.trunc 512) ||| flagN m.want 256) ||| flagN m.avail 128) ||| m.rcode.toNat
abbrev CZ:=List UInt8 × List (List UInt8 × Nat)
def qW (x:CZ) (q:rC):CZ:=((dA (dU q.1) x.1 x.2).1 ++ aT q.2.toNat ++ aT 1,(dA (dU q.1) x.1 x.2).2)
def lM (x:CZ) (r:Rec):CZ:=qI r ((dA (dU r.name) x.1 x.2).1 ++ aT r.kind.toNat ++ aT 1 ++ jC r.ttl.toNat) (dA (dU r.name) x.1 x.2).2
def gK (m:MsgR):List UInt8:=aT m.id.toNat ++ aT (iK m) ++ aT m.qs.length ++ aT m.an.length ++ aT m.au.length ++ aT (m.ex.length + flagN (!decide (m.size=0)) 1)
def uR (m:MsgR):List UInt8:=if m.size=0 then [] else [0] ++ aT 41 ++ aT m.size.toNat ++ jC 0 ++ aT 0
def wO (m:MsgR):CZ:=m.ex.foldl lM (m.au.foldl lM (m.an.foldl lM (m.qs.foldl qW (gK m,[]))))
def jO (m:MsgR):List UInt8:=(wO m).1 ++ uR m
def bU (m:MsgR):List UInt8 × Int:=if cS m≠0 then ([],cS m) else if 65535 < (jO m).length then ([],4) else (jO m,0)
theorem WH (x:CZ) (q:rC) (h:Keys x.2):Keys (qW x q).2:=jW _ _ _ h
theorem KN (r:Rec) (l:List UInt8) (ps:List (List UInt8 × Nat)) (h:Keys ps):Keys (qI r l ps).2:=by
 unfold qI dH;dsimp only;split
 ·exact jW _ _ _ (jW _ _ _ h)
 ·split
  ·exact jW _ _ _ h
  ·exact h
theorem PY (x:CZ) (r:Rec) (h:Keys x.2):Keys (lM x r).2:=KN _ _ _ (jW _ _ _ h)
theorem wP (h:(aP n).isSome=true) (x:CZ):∃ t,(dA (dU n) x.1 x.2).1=x.1 ++ t∧t.length≤256:=by
 obtain ⟨t,h1,h2⟩:=mW (dU n) x.1 x.2;have:=fS h;rw [this.2.1] at h2;exact ⟨t,h1,aE⟩
theorem YV {q:rC} (h:qG q=true) (x:CZ):(qW x q).1.length≤x.1.length + 260:=by
 have hs:(aP q.1).isSome=true:=by
  simp only [qG,dW,Bool.and_eq_true,decide_eq_true_eq] at h;have h:=h.1.1;split at h
  ·assumption
  ·cases h
 obtain ⟨t,h1,h2⟩:=wP hs x;simp [qW,h1,aT];omega
theorem MQ {r:Rec} (h:RecOk r) (l:List UInt8) (ps:List (List UInt8 × Nat)):∃ y,(qI r l ps).1=l ++ y∧y.length≤5002:=by
 obtain ⟨y,h1,h2⟩:=wN r (l ++ aT 0) ps h.d h.soa;unfold qI;dsimp only;rw [h1];refine ⟨aT ((l ++ aT 0 ++ y).length - l.length - 2) ++ y,?_,by simp [aT];omega⟩;rw [show (l ++ aT 0 ++ y).drop (l.length + 2)=y by rw [show l.length + 2=(l ++ aT 0).length by simp [aT],List.drop_left]];rw [List.append_assoc]
theorem TQ {r:Rec} (h:RecOk r) (x:CZ):(lM x r).1.length≤x.1.length + 6000:=by
 obtain ⟨t,h1,h2⟩:=wP h.nm x;obtain ⟨y,h3,h4⟩:=MQ h ((dA (dU r.name) x.1 x.2).1 ++ aT r.kind.toNat ++ aT 1 ++ jC r.ttl.toNat) (dA (dU r.name) x.1 x.2).2;unfold lM;rw [h3,h1];simp [aT,jC];omega
structure MsgOk (m:MsgR):Prop where
 id:0≤m.id∧m.id≤65535
 op:0≤m.op∧m.op≤15
 rc:0≤m.rcode∧m.rcode≤15
 sz:m.size=0∨(512≤m.size∧m.size≤65535)
 ql:m.qs.length≤10
 qs:∀ q ∈ m.qs,qG q=true
 nl:m.an.length≤200
 an:∀ r ∈ m.an,aU r=0
 ul:m.au.length≤200
 au:∀ r ∈ m.au,aU r=0
 el:m.ex.length≤200
 ex:∀ r ∈ m.ex,aU r=0
theorem uS {l:List Rec} (h:fV l=true):l.length≤200∧∀ r ∈ l,aU r=0:=by
 simp only [fV,Bool.and_eq_true,decide_eq_true_eq,Bool.not_eq_true',List.any_eq_false] at h;refine ⟨h.1,fun r hr => ?_⟩
 simpa using h.2 r hr
theorem mX {m:MsgR} (h:cS m=0):MsgOk m:=by
 unfold cS at h;split at h
 ·rename_i c;simp only [Bool.and_eq_true,gP,decide_eq_true_eq,Bool.or_eq_true,List.all_eq_true] at c;obtain ⟨⟨⟨⟨⟨c1,c2⟩,c3⟩,c4⟩,c5,c6⟩,⟨c7,c8⟩,c9⟩:=c;have c7:=uS c7;have c8:=uS c8;have c9:=uS c9;exact ⟨c1,c2,c3,c4,c5,c6,c7.1,c7.2,c8.1,c8.2,c9.1,c9.2⟩
 ·cases h
theorem iF (is:Bool) (n:Nat):flagN is n≤n:=by unfold flagN;split <;> omega
theorem PZ (ha:a < 65536) (hb:b < 65536):a ||| b < 65536:=Nat.or_lt_two_pow (x:=a) (y:=b) (n:=16) ha hb
def CK (m:MsgR):List Nat:=[m.qs.length,m.an.length,m.au.length,m.ex.length + flagN (!decide (m.size=0)) 1]
theorem MR {q:rC} (h:qG q=true):(aP q.1).isSome=true∧1≤q.2∧q.2≤65535:=by
 simp only [qG,dW,Bool.and_eq_true,decide_eq_true_eq] at h;obtain ⟨⟨h1,h2,h3⟩,_⟩:=h;refine ⟨?_,h2,h3⟩;split at h1
 ·assumption
 ·cases h1
end Go.Proofs.X
