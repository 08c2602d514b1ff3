/- Laws and walks that the proof of the statement is made of (part 10). -/
import Derived.Test.YtfkckeaadnoeiaaGreatP9
set_option linter.unusedSimpArgs false
set_option linter.unusedVariables false
set_option maxRecDepth 100000
set_option maxHeartbeats 20000000
namespace Go.Proofs.X
open Go.RowKit
variable {cs:Array Value} {held:Bool} {qt:Int} {ps rs:List (List UInt8×Nat)} {ls:List (List UInt8)} {css css0 es:List (List Value)} {d l m n o qn s t x y z:List UInt8} {B a b base c e fuel i j k p q:Nat} {fz:Nat×Nat} {row:Option Nat} {r u v:Value} {w w' w0 w1 w2:World}
structure NmS where
 n:List UInt8
 begin_:Int
 back:Int
 r:RdS
def nmTo (s:List UInt8) (r1:RdS) (k:Nat):Nat:=k*256 % 16384+((r1.want (decide (192≤k)) 2).number s 1).1
def BG (s:List UInt8) (r1:RdS) (k:Nat) (begin_:Int):RdS:=((r1.want (decide (192≤k)) 2).number s 1).2.want (decide ((nmTo s r1 k:Int)<begin_)) 2
def iL (s:List UInt8) (x:NmS) (k:Nat) (r1:RdS):NmS :=
 if k≤63 then ⟨x.n++(UInt8.ofNat k::(r1.take s k).1),x.begin_,x.back,(r1.take s k).2.want (decide ((x.n++(UInt8.ofNat k::(r1.take s k).1)).length<255)) 2⟩
 else ⟨x.n,nmTo s r1 k,if x.back<0 then (BG s r1 k x.begin_).at_ else x.back,⟨nmTo s r1 k,(BG s r1 k x.begin_).e⟩⟩
def JC (x:NmS) (r1:RdS):List UInt8×RdS:=(if r1.e≠0 then []else x.n,if 0≤x.back then ⟨x.back,r1.e⟩else r1)
def LA (s:List UInt8):Nat→NmS→List UInt8×RdS
 | 0,x=>([],x.r)
 | f+1,x=>if (x.r.number s 1).2.e≠0∨(x.r.number s 1).1=0 then JC x (x.r.number s 1).2 else LA s f (iL s x (x.r.number s 1).1 (x.r.number s 1).2)
def MM (s:List UInt8) (x:NmS):Nat:=if x.r.e≠0 then 0 else x.begin_.toNat*(s.length+2)+(s.length+2 - x.r.at_.toNat)
def gJ (s:List UInt8) (r:RdS):List UInt8×RdS:=LA s (r.at_.toNat*(s.length+2)+s.length+3) ⟨[],r.at_,-1,r⟩
structure NmOk (s:List UInt8) (x:NmS):Prop where
 r:x.r.Ok s
 b0:0≤x.begin_
 b1:x.begin_≤100000000
 k0:-1≤x.back
 k1:x.back≤100000000
 n0:x.r.e=0→x.n.length≤254
 n1:x.n.length≤400
 bL:x.r.e=0→x.begin_≤s.length
 kL:x.r.e=0→x.back≤s.length
theorem JD {r:RdS} {n:Int} (h:(r.number s n).2.e=0):r.e=0∧n≤(s.length:Int) - r.at_∧(r.number s n).2=⟨r.at_+n,0⟩:=by
 unfold RdS.number RdS.take at *;dsimp only at *;split at h
 ·rename_i c;exact absurd h c
 ·rename_i c;split at h
  ·cases h
  ·rename_i c2;rw [if_neg c,if_neg c2];exact ⟨by simpa using c,aC,rfl⟩
theorem cE {r:RdS} (h:r.Ok s) (hs:s.length≤100000000) {n:Int} (hn:0≤n):(r.number s n).2.Ok s:=h.take hs hn
theorem WA {r:RdS} {is:Bool} {er:Int}:(r.want is er).at_=r.at_:=by unfold RdS.want;split<;>rfl
theorem rD {r:RdS} {is:Bool} {er:Int} (he:er≠0) (h:(r.want is er).e=0):r.e=0∧is=true:=by
 unfold RdS.want at h;split at h
 ·exact absurd h he
 ·rename_i c;refine ⟨h,?_⟩;cases is with
  | true=>rfl
  | false=>exact absurd ⟨h,rfl⟩ c
theorem MN {r1:RdS}:nmTo s r1 k<16640:=by
 unfold nmTo;have:=dS s (r1.want (decide (192≤k)) 2) 1 aC;have h2:k*256 % 16384<16384:=Nat.mod_lt _ aC;simp at this;omega
theorem NmOk.next {x:NmS} (h:NmOk s x) (hs:s.length≤100000000) (he:(x.r.number s 1).2.e=0):NmOk s (iL s x (x.r.number s 1).1 (x.r.number s 1).2)∧MM s (iL s x (x.r.number s 1).1 (x.r.number s 1).2)<MM s x:=by
 obtain ⟨e0,e1,e2⟩:=JD he;have hr1:=cE (n:=1) h.r hs aC;have hM:MM s x=x.begin_.toNat*(s.length+2)+(s.length+2 - x.r.at_.toNat):=by unfold MM;rw [if_neg aC]
 have hlo:=h.r.lo;have hb0:=h.b0;generalize (x.r.number s 1).1=k at *;have hat:(x.r.number s 1).2.at_=x.r.at_+1:=by rw [e2]
 generalize (x.r.number s 1).2=r1 at *;unfold iL;have htl:=oS s r1 k;split
 ·rename_i hk;have hn':(x.n++(UInt8.ofNat k::(r1.take s k).1)).length≤254+64:=by
   rw [List.length_append,List.length_cons];have:=h.n0 e0;simp at htl;omega
  have hw:=(hr1.take hs (n:=(k:Int)) aC).want (decide ((x.n++(UInt8.ofNat k::(r1.take s k).1)).length<255)) (er:=2) aK;refine ⟨⟨hw,h.b0,h.b1,h.k0,h.k1,fun e=>?_,by dsimp only;omega,fun _=>h.bL e0,fun _=>h.kL e0⟩,?_⟩
  ·obtain ⟨_,q⟩:=rD aK e;have:=of_decide_eq_true q;dsimp only;omega
  ·rw [hM];unfold MM;dsimp only;split
   ·omega
   ·rename_i c;have c':((r1.take s k).2.want (decide ((x.n++(UInt8.ofNat k::(r1.take s k).1)).length<255)) 2).e=0:=by simpa using c
    obtain ⟨q,_⟩:=rD aK c';rw [WA];have hta:(r1.take s k).2.at_=r1.at_+k:=by
     unfold RdS.take at q ⊢;split at q
     ·rename_i c9;exact absurd q c9
     ·split at q
      ·cases q
      ·rename_i c8 c9;rw [if_neg c8,if_neg c9]
    rw [hta,hat];omega
 ·have hto:=MN (s:=s) (r1:=r1) (k:=k);have hw:=((cE (n:=1) (hr1.want (decide (192≤k)) (er:=2) aK) hs aC)).want (decide ((nmTo s r1 k:Int)<x.begin_)) (er:=2) aK;refine ⟨⟨⟨by dsimp only;omega,fun e=>?_,by dsimp only;omega⟩,by dsimp only;omega,by dsimp only;omega,?_,?_,fun _=>h.n0 e0,h.n1,fun e=>?_,fun e=>?_⟩,?_⟩
  ·obtain ⟨_,q⟩:=rD (r:=((r1.want (decide (192≤k)) 2).number s 1).2) aK e;have:=of_decide_eq_true q;have:=h.bL e0;dsimp only;omega
  ·dsimp only;split
   ·have:=hw.lo;show -1≤(BG s r1 k x.begin_).at_;unfold BG;omega
   ·exact h.k0
  ·dsimp only;split
   ·have:=hw.far;show (BG s r1 k x.begin_).at_≤_;unfold BG;omega
   ·exact h.k1
  ·obtain ⟨_,q⟩:=rD (r:=((r1.want (decide (192≤k)) 2).number s 1).2) aK e;have:=of_decide_eq_true q;have:=h.bL e0;dsimp only;omega
  ·dsimp only;split
   ·exact hw.hi e
   ·exact h.kL e0
  ·rw [hM];unfold MM;dsimp only;split
   ·omega
   ·rename_i c;have c':(BG s r1 k x.begin_).e=0:=by simpa using c
    obtain ⟨_,q⟩:=rD (r:=((r1.want (decide (192≤k)) 2).number s 1).2) aK c';have hlt:=of_decide_eq_true q;simp only [Int.toNat_natCast];have h5:nmTo s r1 k+1≤x.begin_.toNat:=aC;have h6:(nmTo s r1 k+1)*(s.length+2)≤x.begin_.toNat*(s.length+2):=Nat.mul_le_mul_right _ h5;rw [Nat.succ_mul]at h6;omega
theorem MO (hs:s.length≤100000000):∀ (f:Nat) (x:NmS),NmOk s x→MM s x<f→(LA s f x).1.length≤254∧(LA s f x).2.Ok s
 | 0,x,_,h=>absurd h (Nat.not_lt_zero _)
 | f+1,x,h,hf=>by
   have hr1:=cE (n:=1) h.r hs aC;unfold LA;split
   ·unfold JC;dsimp only;by_cases he:(x.r.number s 1).2.e=0
    ·rw [if_neg (by simpa using he)];obtain ⟨e0,_⟩:=JD he;refine ⟨h.n0 e0,?_⟩;split
     ·rename_i hb;exact ⟨hb,fun _=>h.kL e0,h.k1⟩
     ·exact hr1
    ·rw [if_pos he];refine ⟨Nat.zero_le _,?_⟩;split
     ·rename_i hb;exact ⟨hb,fun e=>absurd e he,h.k1⟩
     ·exact hr1
   ·rename_i c;have he:(x.r.number s 1).2.e=0:=by
     by_cases h:(x.r.number s 1).2.e=0
     ·exact h
     ·exact absurd (.inl h) c
    obtain ⟨h1,h2⟩:=h.next hs he;exact MO hs f _ h1 aC
theorem BH {r:RdS} (hr:r.Ok s):NmOk s ⟨[],r.at_,-1,r⟩∧MM s ⟨[],r.at_,-1,r⟩<r.at_.toNat*(s.length+2)+s.length+3:=by
 refine ⟨⟨hr,hr.lo,hr.far,(by show (-1:Int)≤-1;omega),(by show (-1:Int)≤100000000;omega),fun _=>Nat.zero_le _,Nat.zero_le _,hr.hi,fun _=>(by show (-1:Int)≤_;omega)⟩,?_⟩;unfold MM;dsimp only;split<;>omega
theorem rE {r:RdS} (hr:r.Ok s) (hs:s.length≤100000000):(gJ s r).1.length≤254∧(gJ s r).2.Ok s :=
 MO hs _ _ (BH hr).1 (BH hr).2
def Es (s:List UInt8) (b:Nat) (bg:Value) (w:World):Nat:=match w.heap[b]? with
 | some (.cells cs _ _)=>MM s ⟨[],intOf bg,0,⟨intOf (cs[1]?.getD undef),intOf (cs[2]?.getD undef)⟩⟩
 | _=>0
theorem wE {x:NmS} (h:dF w b s x.r):Es s b (.int .i64 x.begin_) w=MM s x:=by
 unfold dF at h;unfold Es;rw [h];simp [yR,intOf,MM]
def Cy (s:List UInt8) (r:RdS) (b:Nat) (w:World) (x:NmS) (wr:World):Prop:=NmOk s x∧dF wr b s x.r∧Mv (some b) w wr∧∃ f,MM s x<f∧LA s f x=gJ s r
theorem WB (k k2:Nat) (h:k2<256):(k*256 &&& 16383) ||| k2=k*256 % 16384+k2:=by
 have e1:k*256 &&& 16383=k*256 % 16384:=Nat.and_two_pow_sub_one_eq_mod (k*256) 14;have e2:k*256 % 16384=(k % 64)*256:=aC;rw [e1,e2,CP _ _ h]
theorem LB {r:RdS} (h:dF w b s r) (hr:r.Ok s) (hs:s.length≤100000000):Calls Tryz.prog 86 #[.pointer (some ⟨b,0,none⟩)] w (mR w b s (aE (gJ s r).1) (gJ s r).2):=by
 have hp:=aA (cs:=yR s r) h;have h0:Cy s r b w ⟨[],r.at_,-1,r⟩ w:=by
  refine ⟨⟨hr,hr.lo,hr.far,(by show (-1:Int)≤-1;omega),(by show (-1:Int)≤100000000;omega),fun _=>Nat.zero_le _,Nat.zero_le _,hr.hi,fun _=>(by show (-1:Int)≤_;omega)⟩,h,Mv.refl _ _,_,?_,rfl⟩;unfold MM;dsimp only;split<;>omega
 go_enter Tryz.func86,Tryz.ntmps86
 refine_lift aT ?_;go_loopw [2,3,4,5,6] (fun n bg bk _ _ wr=>∃ x:NmS,n=aE x.n∧bg=.int .i64 x.begin_∧bk=.int .i64 x.back∧Cy s r b w x wr) (fun _ bg _ _ _ wr=>Es s b bg wr)
 case atStart=>exact ⟨_,rfl,rfl,rfl,h0⟩
 case round =>
  obtain ⟨x,rfl,rfl,rfl,hok,hx,hm,f,hf,hgo⟩:=hrel;have hcn:=eJ hx hok.r hs 1 aC aC;have hk4:=dS s x.r 1 aC;have hstep:∀ f',f=f'+1→(if (x.r.number s 1).2.e≠0∨(x.r.number s 1).1=0 then JC x (x.r.number s 1).2 else LA s f' (iL s x (x.r.number s 1).1 (x.r.number s 1).2))=gJ s r:=by
   rintro f' rfl;exact hgo
  have hnx:=fun he=>hok.next hs he;have hr1:=cE (n:=1) hok.r hs aC;generalize hT:x.r.number s 1=T at *;obtain ⟨k,r1⟩:=T;dsimp only at *;refine_lift lQ ?_;intro _ _ _;refine eZ hcn fun w1 h1 m1=>?_;have hp1:=aA (cs:=yR s r1) h1;have hm1:=hm.trans m1;obtain ⟨f',rfl⟩:∃ f',f=f'+1:=⟨f - 1,aC⟩;have hst:=hstep f' rfl;clear hstep hgo hp hcn;obtain ⟨at1,e1⟩:=r1;dsimp only at *;by_cases ce:e1=0
  ·subst ce;by_cases ck:k=0
   ·subst ck;rw [if_pos (.inr rfl)]at hst;unfold JC at hst;dsimp only at hst;rw [if_neg aK]at hst;by_cases cb:0≤x.back
    ·rw [if_pos cb]at hst;refine_lift rR fun _ _ _ _ _ _=>?_
     all_goals first
      | (exfalso;omega)
      | skip
     refine fA 1 (.int .i64 x.back) h1 rfl fun w2 p2=>?_;have h2:dF w2 b s ⟨x.back,0⟩:=p2.this;have hp2:=aA (cs:=yR s ⟨x.back,0⟩) h2;clear hp1;refine_lift aT ?_
     all_goals first
      | (exfalso;omega)
      | skip
     go_ret;rw [← hst];exact ⟨rfl,h2,hm1.trans p2.mv⟩
    ·rw [if_neg cb]at hst;refine_lift bU fun _ _=>?_
     all_goals first
      | (exfalso;omega)
      | skip
     go_ret;rw [← hst];exact ⟨rfl,h1,hm1⟩
   ·rw [if_neg (by rintro (h|h);exact h rfl;exact ck h)]at hst;obtain ⟨hok2,hlt2⟩:=hnx rfl;by_cases c63:k≤63
    ·refine_lift rR fun _ _ _ _ _ _=>?_
     all_goals first
      | (exfalso;omega)
      | skip
     have hk256:k<256:=aC;have hn1:=hok.n1;have htl:=oS s ⟨at1,0⟩ k;have hr2:=hr1.take hs (n:=(k:Int)) aC;have hNx:iL s x k ⟨at1,0⟩=⟨x.n++(UInt8.ofNat k::(RdS.take s ⟨at1,0⟩ k).1),x.begin_,x.back,(RdS.take s ⟨at1,0⟩ k).2.want (decide ((x.n++(UInt8.ofNat k::(RdS.take s ⟨at1,0⟩ k).1)).length<255)) 2⟩:=by unfold iL;rw [if_pos c63]
     have hcT:=fun w' (h':dF w' b s ⟨at1,0⟩)=>BF h' hr1 hs (k:Int) aC aC;generalize RdS.take s ⟨at1,0⟩ k=T at *;obtain ⟨t,r2⟩:=T;dsimp only at *;refine cQ (S:=fun w'=>Mv (some b) w1 w') zDk ?_;intro w2 x2 _;have hS2:Mv (some b) w1 w2:=x2.mv _;refine dM 0 ?_;refine aB ?_;refine dM 1 ?_;refine aB ?_;refine dM 2 ?_;refine aB ?_;refine dM 5 ?_;refine aB ?_;refine dM 6 ?_;refine aB ?_;rw [CZ k];refine By 3 4 7 41 42 45 (fun b1 b2 b3=>(!b2||b1)) (fun b1 b2 b3 => !b2) (fun b1 b2 b3=>b1) (fun b1 b2 b3=>true) (fun b1 b2 b3 v1 v2 v3 w'=>Mv (some b) w1 w'∧(b1=true→Own w1.heap.size 1 5 w' v1 (aL [UInt8.ofNat k]))∧(b2=true→v2=aE [UInt8.ofNat k])∧dF w' b s (bif b3 then r2 else ⟨at1,0⟩)∧(b3=true→v3=aE t)) ?_ ?_ ?_ ?_ ?_
     ·exact ⟨hS2,aX,aX,x2.at h1,aX⟩
     ·rintro b1 b2 b3 v1 v2 v3 w3 hq ⟨m3,f1,f2,f3,f4⟩;have hb2:b2=false:=by revert hq;cases b2<;>simp
      subst hb2;refine aB ?_;refine oD (k:=1) (e:=5) (bytes:=1) (xs:=[.int .u8 ((UInt8.ofNat k).toNat:Nat)]) (by simp [Value.cells]) fun v4 w4 x4 _ _ o4=>?_;refine aB ?_;have o4':Own w1.heap.size 1 5 w4 v4 (aL [UInt8.ofNat k]):=(show Own w3.heap.size 1 5 w4 v4 (aL [UInt8.ofNat k]) from o4).weaken m3.size;refine aD ⟨m3.trans (x4.mv _),_,rfl,m3.trans (x4.mv _),fun _=>o4',aX,x4.at f3,f4⟩
     ·rintro b1 b2 b3 v1 v2 v3 w3 hq ⟨m3,f1,f2,f3,f4⟩;have hb1:b1=true:=by revert hq;cases b1<;>simp
      subst hb1;refine aB ?_;have s1:=(f1 rfl).sl
      ((with_reducible refine aS ?_);(first|(refine gV ?_;refine eS ?_)|(refine lY ?_;refine nR ?_;(with_reducible refine aS ?_);refine gV ?_;refine eS ?_)))
      refine aD ⟨m3,_,rfl,m3,fun _=>f1 rfl,fun _=>rfl,f3,f4⟩
     ·rintro b1 b2 b3 v1 v2 v3 w3 hq ⟨m3,f1,f2,f3,f4⟩;refine aB ?_;refine eZ (hcT _ f3) fun w4 h4 m4=>?_;refine aD ⟨m3.trans m4,_,rfl,m3.trans m4,fun e=>(f1 e).mv m4 (.inr ((f1 e).neBlock f3 aK)),f2,h4,fun _=>rfl⟩
     ·rintro v1 v2 v3 w3 ⟨m3,f1,f2,f3,f4⟩;obtain rfl:=f2 rfl;obtain rfl:=f4 rfl;refine dM 8 ?_;refine aB ?_;refine dM 9 ?_;refine aB ?_;refine dM 10 ?_;refine aB ?_;refine cO zDk ?_;rw [show x.n++([UInt8.ofNat k]++t)=x.n++(UInt8.ofNat k::t) from rfl];have h3:dF w3 b s r2:=f3;have hlen2:(x.n++(UInt8.ofNat k::t)).length≤1000:=by rw [List.length_append,List.length_cons];simp at htl;omega
      have hcw:=gP h3 (decide ((x.n++(UInt8.ofNat k::t)).length<255)) 2;have hd5:decide (((x.n++(UInt8.ofNat k::t)).length:Int)<255)=decide ((x.n++(UInt8.ofNat k::t)).length<255):=by by_cases h:(x.n++(UInt8.ofNat k::t)).length<255<;>simp only [h,decide_true,decide_false,decide_eq_true_eq,decide_eq_false_iff_not]<;>omega
      generalize hN:x.n++(UInt8.ofNat k::t)=N at *;generalize hR5:r2.want (decide (N.length<255)) 2=r5 at *;refine_lift bU fun _ _=>?_;rw [hd5];refine eZ hcw fun w5 h5 m5=>?_;refine_lift aT ?_;refine ⟨⟨iL s x k ⟨at1,0⟩,?_,?_,?_,hok2,?_,hm1.trans (m3.trans m5),f',aC,hst⟩,?_⟩
      ·rw [hNx]
      ·rw [hNx]
      ·rw [hNx]
      ·rw [hNx];exact h5
      ·rw [wE hx,show Value.int .i64 x.begin_=.int .i64 (iL s x k ⟨at1,0⟩).begin_ by rw [hNx],wE (by rw [hNx];exact h5)];exact hlt2
    ·refine_lift mH fun _ _ _ _=>?_
     all_goals first
      | (exfalso;omega)
      | skip
     have hk256:k<256:=by simpa using hk4
     have hcw:=gP h1 (decide (192≤k)) 2;have hdk:decide ((192:Int)≤(k:Nat))=decide (192≤k):=by by_cases h:192≤k<;>simp [h]<;>omega
     have hw2:=hr1.want (decide (192≤k)) (er:=2) aK;rw [hdk];refine eZ hcw fun w2 h2 m2=>?_;have hcn:=eJ h2 hw2 hs 1 aC aC;have hk2:=dS s ((⟨at1,0⟩:RdS).want (decide (192≤k)) 2) 1 aC;have hr3:=cE (n:=1) hw2 hs aC;have hnT:nmTo s ⟨at1,0⟩ k=k*256 % 16384+(((⟨at1,0⟩:RdS).want (decide (192≤k)) 2).number s 1).1:=rfl;have hn4:∀ bg,BG s ⟨at1,0⟩ k bg=(((⟨at1,0⟩:RdS).want (decide (192≤k)) 2).number s 1).2.want (decide ((nmTo s ⟨at1,0⟩ k:Int)<bg)) 2:=fun _=>rfl;have hto:=MN (s:=s) (r1:=⟨at1,0⟩) (k:=k);generalize ((⟨at1,0⟩:RdS).want (decide (192≤k)) 2).number s 1=T at *;obtain ⟨k2,r3⟩:=T;dsimp only at *;have hk2':k2<256:=by simpa using hk2
     refine_lift bU fun _ _=>?_;refine aG (Runs.andN (m:=k*256) (n:=16383) rfl rfl aC aK) ?_;refine aB ?_;refine_lift aT ?_;refine eZ hcn fun w3 h3 m3=>?_;have hle:k*256 &&& 16383≤k*256:=Nat.and_le_left;refine aG (Runs.orN (m:=k*256 &&& 16383) (n:=k2) rfl rfl aC aC) ?_;rw [WB k k2 hk2',← hnT];refine aB ?_;have hcw4:=gP h3 (decide ((nmTo s ⟨at1,0⟩ k:Int)<x.begin_)) 2;rw [← hn4]at hcw4;have hw4:=hr3.want (decide ((nmTo s ⟨at1,0⟩ k:Int)<x.begin_)) (er:=2) aK;rw [← hn4]at hw4;have hNx:iL s x k ⟨at1,0⟩=⟨x.n,nmTo s ⟨at1,0⟩ k,if x.back<0 then (BG s ⟨at1,0⟩ k x.begin_).at_ else x.back,⟨nmTo s ⟨at1,0⟩ k,(BG s ⟨at1,0⟩ k x.begin_).e⟩⟩:=by unfold iL;rw [if_neg c63]
     generalize BG s ⟨at1,0⟩ k x.begin_=r4 at *;generalize nmTo s ⟨at1,0⟩ k=to at *;refine_lift bU fun _ _=>?_;refine eZ hcw4 fun w4 h4 m4=>?_;have hp4:=aA (cs:=yR s r4) h4;have hm4:=hm1.trans (m2.trans (m3.trans m4));clear hp1;by_cases cb:x.back<0
     ·rw [if_pos cb]at hNx;refine_lift jQ fun _=>?_
      all_goals first
       | (exfalso;omega)
       | skip
      refine fA 1 (.int .i64 (to:Nat)) h4 rfl fun w5 p5=>?_;have h5:dF w5 b s ⟨to,r4.e⟩:=p5.this;refine_lift aT ?_;refine ⟨⟨iL s x k ⟨at1,0⟩,?_,?_,?_,hok2,?_,hm4.trans p5.mv,f',aC,hst⟩,?_⟩
      ·rw [hNx]
      ·rw [hNx]
      ·rw [hNx]
      ·rw [hNx];exact h5
      ·rw [wE hx,show Value.int .i64 ((to:Nat):Int)=.int .i64 (iL s x k ⟨at1,0⟩).begin_ by rw [hNx],wE (by rw [hNx];exact h5)];exact hlt2
     ·rw [if_neg cb]at hNx;refine_lift jQ fun _=>?_
      all_goals first
       | (exfalso;omega)
       | skip
      refine fA 1 (.int .i64 (to:Nat)) h4 rfl fun w5 p5=>?_;have h5:dF w5 b s ⟨to,r4.e⟩:=p5.this;refine_lift aT ?_;refine ⟨⟨iL s x k ⟨at1,0⟩,?_,?_,?_,hok2,?_,hm4.trans p5.mv,f',aC,hst⟩,?_⟩
      ·rw [hNx]
      ·rw [hNx]
      ·rw [hNx]
      ·rw [hNx];exact h5
      ·rw [wE hx,show Value.int .i64 ((to:Nat):Int)=.int .i64 (iL s x k ⟨at1,0⟩).begin_ by rw [hNx],wE (by rw [hNx];exact h5)];exact hlt2
  ·rw [if_pos (.inl ce)]at hst;unfold JC at hst;dsimp only at hst;rw [if_pos ce]at hst;by_cases cb:0≤x.back
   ·rw [if_pos cb]at hst
    (repeat' first|((with_reducible refine aZ ?_);go_step)|((with_reducible refine aS ?_);first|refine dN ?_|(refine bG ?_ ?_<;>intro hc))|fail)
    all_goals first
     | (exfalso;omega)
     | (exfalso;have hh:=‹(!decide (e1=0))=false›;simp [ce]at hh;done)
     | skip
    refine fA 1 (.int .i64 x.back) h1 rfl fun w2 p2=>?_;have h2:dF w2 b s ⟨x.back,e1⟩:=p2.this;have hp2:=aA (cs:=yR s ⟨x.back,e1⟩) h2;clear hp1;refine_lift lP (fun _=>?_) (fun _=>?_)
    all_goals first
     | (exfalso;omega)
     | (exfalso;have hh:=‹(!decide (e1=0))=false›;simp [ce]at hh;done)
     | skip
    go_ret;rw [← hst];exact ⟨rfl,h2,hm1.trans p2.mv⟩
   ·rw [if_neg cb]at hst
    (repeat' first|((with_reducible refine aZ ?_);go_step)|((with_reducible refine aS ?_);first|refine dN ?_|(refine bG ?_ ?_<;>intro hc))|fail)
    all_goals first
     | (exfalso;omega)
     | (exfalso;have hh:=‹(!decide (e1=0))=false›;simp [ce]at hh;done)
     | skip
    go_ret;rw [← hst];exact ⟨rfl,h1,hm1⟩
def SG (n:List UInt8):List UInt8:=if (aM n).isSome=true then n ++ [0]else []
def RdS.host (s:List UInt8) (r:RdS):List UInt8×RdS:=(SG (gJ s r).1,(gJ s r).2)
theorem FX {r:RdS} (h:dF w b s r) (hr:r.Ok s) (hs:s.length≤100000000):Calls Tryz.prog 194 #[.pointer (some ⟨b,0,none⟩)] w (mR w b s (aE (r.host s).1) (r.host s).2):=by
 obtain ⟨n1,n2⟩:=rE hr hs;have hH:=fun w=>Ek (gJ s r).1 w aC;have hcn:=LB h hr hs;unfold RdS.host SG;generalize gJ s r=N at *;go_enter Tryz.func194,Tryz.ntmps194
 refine_lift bU fun _ _=>?_;refine eZ hcn fun w1 h1 m1=>?_;by_cases hl:(aM N.1).isSome=true
 ·rw [if_pos hl]at hH;refine_lift aT ?_;refine cB (hH _) fun w2 x2=>?_;refine_lift aT ?_;go_ret;rw [if_pos hl];exact ⟨rfl,x2.at h1,m1.trans (x2.mv _)⟩
 ·rw [if_neg hl]at hH;refine_lift aT ?_;refine cB (hH _) fun w2 x2=>?_;refine_lift aT ?_;go_ret;rw [if_neg hl];exact ⟨rfl,x2.at h1,m1.trans (x2.mv _)⟩
theorem nP {r:RdS} (hr:r.Ok s) (hs:s.length≤100000000):(r.host s).1.length≤255∧(r.host s).2.Ok s:=by
 obtain ⟨n1,n2⟩:=rE hr hs;unfold RdS.host SG;refine ⟨?_,n2⟩;dsimp only;split
 ·rw [List.length_append];simp;omega
 ·exact Nat.zero_le _
def RdS.data (s:List UInt8) (r:RdS) (kind n:Int):List UInt8×RdS :=
 let r0:=r.want (decide (r.at_+n≤(s.length:Int))) 3
 if r0.e≠0 then ([],r0) else
 let o:List UInt8×RdS:=if kind=2∨kind=5∨kind=12 then r0.host s
  else if kind=15 then ((r0.take s 2).1++((r0.take s 2).2.host s).1,((r0.take s 2).2.host s).2)
  else if kind=6 then ((r0.host s).1++((r0.host s).2.host s).1++(((r0.host s).2.host s).2.take s 20).1,(((r0.host s).2.host s).2.take s 20).2)
  else r0.take s n
 (o.1,o.2.want (decide (o.2.at_=r.at_+n)) 2)
theorem Ab {r:RdS} (h:dF w b s r) (hr:r.Ok s) (hs:s.length≤1000000) (kind n:Int) (hn0:0≤n) (hn1:n≤65535):Calls Tryz.prog 144 #[.pointer (some ⟨b,0,none⟩), .int .i64 kind, .int .i64 n] w (mR w b s (aE (r.data s kind n).1) (r.data s kind n).2):=by
 have hp:=aA (cs:=yR s r) h;have a0:=hr.lo;have a2:=hr.far;have hs8:s.length≤100000000:=aC;have hcw:=gP h (decide (r.at_+n≤(s.length:Int))) 3;have hw:=hr.want (decide (r.at_+n≤(s.length:Int))) (er:=3) aK;unfold RdS.data;generalize r.want (decide (r.at_+n≤(s.length:Int))) 3=r0 at *;dsimp only;generalize hend:r.at_+n=en at *;have hen:en≤200000000:=aC;go_enter Tryz.func144,Tryz.ntmps144
 refine_lift mH fun _ _ _ _=>?_;rw [hend];refine eZ hcw fun w1 h1 m1=>?_;by_cases c0:r0.e=0
 ·rw [decide_eq_true c0];by_cases c1:kind=2∨kind=5∨kind=12
  ·have hb2:=nP hw hs8
   (repeat' first|((with_reducible refine aZ ?_);go_step)|((with_reducible refine aS ?_);first|refine dN ?_|(refine bG ?_ ?_<;>intro hc))|fail)
   all_goals first
    | (exfalso;omega)
    | skip
   all_goals (
    refine eZ (FX h1 hw hs8) fun w2 h2 m2=>?_;have hK:=h2;have mK:=m1.trans m2;have hpK:=aA (cs:=yR s (r0.host s).2) hK;have hwK:=gP hK (decide (((r0.host s).2).at_=en)) 2;refine_lift bU fun _ _=>?_;refine eZ hwK fun w9 h9 m9=>?_;refine_lift aT ?_;go_ret;rw [if_neg (by simpa using c0),if_pos c1];exact ⟨rfl,h9,mK.trans m9⟩
   )
  ·by_cases c2:kind=15
   ·have ht2:=oS s r0 2;have hb2:=hw.take hs8 (n:=2) aC;have hb3:=nP hb2 hs8
    (repeat' first|((with_reducible refine aZ ?_);go_step)|((with_reducible refine aS ?_);first|refine dN ?_|(refine bG ?_ ?_<;>intro hc))|fail)
    all_goals first
     | (exfalso;omega)
     | skip
    refine eZ (BF h1 hw hs8 2 aC aC) fun w2 h2 m2=>?_;refine_lift aT ?_;refine eZ (FX h2 hb2 hs8) fun w3 h3 m3=>?_;have hK:=h3;have mK:=m1.trans (m2.trans m3);have hpK:=aA (cs:=yR s ((r0.take s 2).2.host s).2) hK;have hwK:=gP hK (decide ((((r0.take s 2).2.host s).2).at_=en)) 2;refine_lift bU fun _ _=>?_;refine eZ hwK fun w9 h9 m9=>?_;refine_lift aT ?_;go_ret;rw [if_neg (by simpa using c0),if_neg c1,if_pos c2];exact ⟨rfl,h9,mK.trans m9⟩
   ·by_cases c3:kind=6
    ·have hb2:=nP hw hs8;have hb3:=nP hb2.2 hs8;have ht4:=oS s ((r0.host s).2.host s).2 20
     (repeat' first|((with_reducible refine aZ ?_);go_step)|((with_reducible refine aS ?_);first|refine dN ?_|(refine bG ?_ ?_<;>intro hc))|fail)
     all_goals first
      | (exfalso;omega)
      | skip
     refine eZ (FX h1 hw hs8) fun w2 h2 m2=>?_;refine_lift bU fun _ _=>?_;refine eZ (FX h2 hb2.2 hs8) fun w3 h3 m3=>?_;refine_lift aT ?_;refine eZ (BF h3 hb3.2 hs8 20 aC aC) fun w4 h4 m4=>?_;have hK:=h4;have mK:=m1.trans (m2.trans (m3.trans m4));have hpK:=aA (cs:=yR s (((r0.host s).2.host s).2.take s 20).2) hK;have hwK:=gP hK (decide (((((r0.host s).2.host s).2.take s 20).2).at_=en)) 2;refine_lift bU fun _ _=>?_;refine eZ hwK fun w9 h9 m9=>?_;refine_lift aT ?_;go_ret;rw [if_neg (by simpa using c0),if_neg c1,if_neg c2,if_pos c3];exact ⟨rfl,h9,mK.trans m9⟩
    ·refine_lift Ej fun _ _ _ _ _ _ _=>?_
     all_goals first
      | (exfalso;omega)
      | skip
     refine eZ (BF h1 hw hs8 n aC aC) fun w2 h2 m2=>?_;have hK:=h2;have mK:=m1.trans m2;have hpK:=aA (cs:=yR s (r0.take s n).2) hK;have hwK:=gP hK (decide (((r0.take s n).2).at_=en)) 2;refine_lift bU fun _ _=>?_;refine eZ hwK fun w9 h9 m9=>?_;refine_lift aT ?_;go_ret;rw [if_neg (by simpa using c0),if_neg c1,if_neg c2,if_neg c3];exact ⟨rfl,h9,mK.trans m9⟩
 ·rw [decide_eq_false c0];refine_lift aT ?_;go_ret;rw [if_pos (by simpa using c0)];exact ⟨rfl,h1,m1⟩
section
variable {P:Program} {ops:Array Oper} {Q:Exit→Act→World→Prop} {w:World} {rest:List Oper} {ts:List Value} {df:List Deferred} {ty:TypeId} {ps:String} {af:Array Edge} {g:Option (Nat×Bool)}
theorem iE (s:List UInt8):Lib.strCells ⟨s.toArray⟩=(aL s).flatten:=by
 induction s with
 | nil=>rfl
 | cons x s ih =>
  simp only [Lib.strCells,aL,List.map_cons,List.flatten_cons]at ih ⊢;rw [ih];rfl
theorem FY (t u ty e:TypeId) (i:TypeInfo) (ht:P.underlying t=some (.slice e)) (hu:P.underlying u=some .string) (hi:P.info? e=some i) (hs1:i.size=1)
 (g sLen sCap:Nat) (cur:Array Value) (fz:Nat×Nat) (hg:w.heap[g]? = some (.cells cur e fz)) (hfz:fz.2≤fz.1∨cur.size≤fz.1) (s:ByteArray)
 (hroom:sLen+s.size≤sCap) (hfit:sLen+s.size≤cur.size) :
 (Builtin.append_ #[t,u] ty #[.slice (some ⟨g,0,none⟩) sLen sCap, .string s]).run P w =
   .ok (.slice (some ⟨g,0,none⟩) (sLen+s.size) sCap) (w.setRow g (cur.toList.take sLen++Lib.strCells s++cur.toList.drop (sLen+s.size)).toArray):=by
 have hf:=Lib.run_firstCells_string (P:=P) w 1 s;have hst:=eC P g sLen e fz (Lib.strCells s) 0 cur w hg hfz (by simpa [Lib.strCells_length]using hfit) (Lib.strCells_oneCell s);simp only [Nat.add_zero,Lib.strCells_length]at hst;simp [Builtin.append_,run_underlying ht,run_underlying hu,sizeOf,typeInfo,hi,hs1,Builtin.lenOf,hroom,hf,Addr.add_lit,hst]
theorem CH {t u:Nat} {ty:TypeId} (ht:mE P t e 1 1=true) (hu:P.underlying u=some .string) (h:Own B 1 e w v (aL l))
 (hB:B≤w.heap.size) (hm:l.length+s.length≤140737488355328) :
 ∃ v' w',(Builtin.append_ #[t,u] ty #[v,aE s]).run P w=.ok v' w'∧Own B 1 e w' v' (aL (l++s))∧Mv v.ownBlock w w':=by
 obtain ⟨hut,i,z,hi,hz,hzc,hs,hby,_⟩:=jY ht;obtain ⟨⟨hx1,hrow⟩,heach⟩:=h;have hbl:∀ l:List UInt8,(aL l).length=l.length:=fun l=>by simp [aL]
 have hbf:∀ l:List UInt8,(aL l).flatten.length=l.length:=fun l=>by rw [← iE,Lib.strCells_length];rfl
 have happ:(aL (l++s)).flatten=(aL l).flatten++(aL s).flatten:=by simp [aL]
 have hone:∀ x∈aL (l++s),x.length=1:=by intro x hx;simp only [aL,List.mem_map]at hx;obtain ⟨_,_,rfl⟩:=hx;rfl
 have hss:(⟨s.toArray⟩:ByteArray).size=s.length:=rfl;have hsmall:l.length+s.length≤9223372036854775807:=aC;have hmax:l.length+s.length≤maxLen:=by unfold maxLen;omega
 rw [hbl]at hrow;rcases hrow with ⟨rfl,hn0⟩|⟨g,cap,cur,fz,rfl,hbg,hg,hfz,hnc,hcm,hcs,htake⟩
 ·have hl0:l=[]:=List.eq_nil_of_length_eq_zero hn0;subst hl0;by_cases hm0:s.length=0
  ·refine ⟨.slice none 0 0,w,?_,by rw [List.eq_nil_of_length_eq_zero hm0];exact Own.nil _ _ _ _,Mv.refl _ _⟩;have hf:=Lib.run_firstCells_string (P:=P) w 1 ⟨s.toArray⟩;have hn:Lib.strCells ⟨s.toArray⟩=[]:=by rw [iE,List.eq_nil_of_length_eq_zero hm0];rfl
   rw [hn]at hf;have hz0:(⟨s.toArray⟩:ByteArray).size=0:=hm0;unfold aE;generalize (⟨s.toArray⟩:ByteArray)=sb at *;rw [hz0]at hf;simp [Builtin.append_,run_underlying hut,run_underlying hu,sizeOf,typeInfo,hi,hs,Builtin.lenOf,hz0,hf]
  ·have hr:=run_append_nil_string (P:=P) w t u ty e i z hut hu hi hz ⟨s.toArray⟩ (by rw [hss];omega) (by rw [hss];simp at hm;omega) (by rw [hby,hss];simp at hm;omega);have hge:=grownCap_ge w s.length 0 e;have hcm':grownCap w s.length 0 e≤maxLen:=grownCap_le_maxLen w s.length 0 e (by simpa using hmax);have e1:((⟨s.toArray⟩:ByteArray).data.map fun b=>Value.int .u8 b.toNat)=(aL s).flatten.toArray:=by
    rw [← iE];apply Array.ext';simp [Lib.strCells]
   rw [e1,hss]at hr;refine ⟨_,_,hr,⟨⟨?_, .inr ⟨w.heap.size,grownCap w s.length 0 e,_,(0,0),?_,hB,heap_alloc_new w.drew _, .inl (Nat.le_refl _),?_,hcm',?_,?_⟩⟩,hone⟩,⟨rfl,rfl,rfl,aX,fun k hk _=>(Ext.alloc w.drew _).block k hk,Nat.le_succ _⟩⟩
   ·rw [hbf,hbl];simp
   ·rw [hbl];simp
   ·rw [hbl];simpa using hge
   ·simp only [Array.size_append,List.size_toArray,size_zeroCells,hzc,hbf];omega
   ·rw [hbl];simp only [Array.toList_append,List.nil_append];have:s.length*1=(aL s).flatten.length:=by rw [hbf];omega
    rw [this];exact List.take_left
 ·have hcz:cur.size=cap:=by simpa using hcs
  have htk:cur.toList.take l.length=(aL l).flatten:=by simpa using htake
  by_cases hroom:l.length+s.length≤cap
  ·have hr:=FY (P:=P) (w:=w) t u ty e i hut hu hi hs g l.length cap cur fz hg hfz ⟨s.toArray⟩ hroom (by rw [hss];omega);refine ⟨_,_,hr,⟨⟨?_, .inr ⟨g,cap,_,fz,?_,hbg,setRow_heap w g cur _ e _ hg,?_,?_,hcm,?_,?_⟩⟩,hone⟩,⟨rfl,rfl,rfl,aX,fun k _ hk=>setRow_other w g k _ (fun e=>hk (by simp [Value.ownBlock,e])),Nat.le_refl _⟩⟩
   ·rw [hbf,hbl];simp
   ·rw [hbl,hss];simp
   ·simp only [List.size_toArray,List.length_append,List.length_take,List.length_drop,Array.length_toList,Lib.strCells_length,hss];omega
   ·rw [hbl];simpa using hroom
   ·simp only [List.size_toArray,List.length_append,List.length_take,List.length_drop,Array.length_toList,Lib.strCells_length,hss];omega
   ·rw [htk,iE,← happ,hbl];have:(l++s).length*1=(aL (l++s)).flatten.length:=by rw [hbf];omega
    rw [this];simp only [List.append_assoc];exact List.take_left
  ·have holds:∀ j u,(aL l).flatten[j]? = some u→w.cell? ((⟨g,0,none⟩:Addr).add j)=some u:=by
    intro j u hj;rw [cY,cell_of_row w g _ cur _ fz hg];rw [← htk,List.getElem?_take]at hj;split at hj
    ·rw [Nat.zero_add];simpa using hj
    ·cases hj
   have hr:=Lib.run_append_grow_string (P:=P) w t u ty e i z hut hu hi hz ⟨g,0,none⟩ l.length cap (aL l).flatten (by rw [hs,hbf];omega) holds ⟨s.toArray⟩ (by rw [hss];omega) (by rw [hss];omega) (by rw [hby,hss];exact growslice_fits aC aC);rw [hss]at hr;have hge:=grownCap_ge w (l.length+s.length) cap e;have hcm':grownCap w (l.length+s.length) cap e≤maxLen:=grownCap_le_maxLen w (l.length+s.length) cap e hmax;refine ⟨_,_,hr,⟨⟨?_, .inr ⟨w.heap.size,grownCap w (l.length+s.length) cap e,_,(0,0),?_,hB,heap_alloc_new w.drew _, .inl (Nat.le_refl _),?_,hcm',?_,?_⟩⟩,hone⟩,⟨rfl,rfl,rfl,aX,fun k hk _=>(Ext.alloc w.drew _).block k hk,Nat.le_succ _⟩⟩
   ·rw [hbf,hbl];simp
   ·rw [hbl];simp
   ·rw [hbl];simpa using hge
   ·simp only [Array.size_append,List.size_toArray,size_zeroCells,hzc,hbf,Lib.strCells_length,hss];omega
   ·rw [hbl];simp only [Array.toList_append,List.append_assoc,iE];have:(l++s).length*1=((aL l).flatten++(aL s).flatten).length:=by rw [← happ,hbf];omega
    rw [this,← List.append_assoc,happ];exact List.take_left
theorem CI {t u d:Nat} {x0 y:Operand} {v0:Value} (h0:(Act.mk ts.toArray df).eval x0=v0)
 (h:Own B 1 e w v0 (aL l)) (hy:(Act.mk ts.toArray df).eval y=aE s) (hB:B≤w.heap.size) (hm:l.length+s.length≤140737488355328)
 (hk:∀ v' w',Own B 1 e w' v' (aL (l++s))→Mv v0.ownBlock w w'→wpList P ops Q rest (Act.mk (ts.set d v').toArray df) w')
 (ht:mE P t e 1 1=true:=by decide +kernel) (hu:P.underlying u=some .string:=by decide +kernel) :
 wpList P ops Q (Oper.mk (some d) (.call ⟨.builtin .append,#[x0,y],#[t,u]⟩) ty ps af none::rest) (Act.mk ts.toArray df) w:=by
 obtain ⟨v',w',hr,ho,hmv⟩:=CH (P:=P) (ty:=ty) ht hu h hB hm;refine wpList_plain rfl fun K hK=>?_;unfold Oper.wp execOp;simp only [resolve,invoke,builtin,Sem.run_bind,Sem.run_pure,Result.andThen_ok,List.map_toArray,List.map_cons,List.map_nil,h0,hy,hr];refine hK _ _ ?_;have:=hk v' w' ho hmv
 simpa [Act.put]using this
end
def Ac (ps:List (List UInt8×Nat)):List (Value×Value):=ps.map fun p=>(aE p.1, .int .i64 (p.2:Nat))
def GX (v:Value) (m:Nat):List Value:=[v, .map (some m)]
structure WrAt (w0 w:World) (b m:Nat) (l:List UInt8) (ps:List (List UInt8×Nat)):Prop where
 hb:w0.heap.size≤b
 hm:w0.heap.size≤m
 ne:b≠m
 ext:Ext w0 w
 blk:∃ v,w.heap[b]? = some (.cells (GX v m).toArray 166 (0,0))∧Own w0.heap.size 1 5 w v (aL l)
 map:MapAt Tryz.prog 23 w m (Ac ps)
def Kp (w w':World):Prop:=∀ (k:Nat) (cs:Array Value) (t:TypeId) (fz:Nat×Nat),t≠166→t≠5→w.heap[k]? = some (.cells cs t fz)→w'.heap[k]? = some (.cells cs t fz)
theorem Kp.refl (w:World):Kp w w:=fun _ _ _ _ _ _ h=>h
theorem Kp.trans (h:Kp w w1) (k:Kp w1 w2):Kp w w2:=fun n cs t fz a c x=>k n cs t fz a c (h n cs t fz a c x)
theorem Ext.kp (h:Ext w w'):Kp w w':=fun _ _ _ _ _ _ x=>h.at x
theorem Mv.kpRow (ho:Own B k 5 w v es) (h:Mv v.ownBlock w w'):Kp w w' :=
 fun _ _ _ _ _ hu x=>h.at x (fun e=>ho.neBlock x hu e.symm)
theorem Mv.kpBox (hB:w.heap[b]? = some (.cells cs 166 fz)) (h:Mv (some b) w w'):Kp w w' :=
 fun _ _ _ _ hw _ x=>h.at x (by intro e;cases e;rw [hB]at x;simp only [Option.some.injEq,Obj.cells.injEq]at x;exact hw x.2.1.symm)
theorem Mv.kpMap {m:Nat} {ents:List (Value×Value)} {kt:TypeId} (hM:MapAt Tryz.prog kt w m ents) (h:Mv (some m) w w'):Kp w w' :=
 fun _ _ _ _ _ _ x=>h.at x (by intro e;cases e;obtain ⟨es,ck,hme,_⟩:=hM.out;rw [hme]at x;cases x)
def xT (w0 w:World) (b m:Nat) (l:List UInt8) (ps:List (List UInt8×Nat)) (e:Ending) (w':World):Prop:=e=.returned (.tuple #[])∧WrAt w0 w' b m l ps∧Kp w w'
def bQ (n:Nat):List UInt8:=[UInt8.ofNat (n / 256),UInt8.ofNat n]
theorem BI {m:Nat} (h:WrAt w0 w b m l ps) (s:List UInt8) (hl:l.length+s.length≤100000000000000):Calls Tryz.prog 134 #[.pointer (some ⟨b,0,none⟩),aE s] w (xT w0 w b m (l++s) ps):=by
 obtain ⟨hb,hm,hbm,hx,⟨v,hB,ho⟩,hM⟩:=h;have hp:=aA (cs:=GX v m) hB;go_enter Tryz.func134,Tryz.ntmps134
 refine_lift aT ?_;refine CI (e:=5) (v0:=v) rfl ho rfl hx.size aC ?_ zDk (by kernel_rfl);intro v1 w1 o1 m1;refine aB ?_;have hB1:=m1.at hB (fun e=>(ho.neBlock hB aK) e.symm);have hM1:=hM.mvr m1 ho rfl;have x1:Ext w0 w1:=hx.move m1 (fun k e=>(ho.block k e).1);clear hp;refine_lift aT ?_;refine fA 0 v1 hB1 o1.one fun w2 p2=>?_;have x2:=cJ x1 p2;have hB2:w2.heap[b]? = some (.cells (GX v1 m).toArray 166 (0,0)):=p2.this;have o2:=eM o1 p2 hB1;have hM2:=hM1.at (fun o h=>p2.mv.at h (by intro e;exact hbm (Option.some.inj e).symm));refine_lift aT ?_
 go_end0
 exact ⟨rfl,⟨hb,hm,hbm,x2,⟨v1,hB2,o2⟩,hM2⟩,(Mv.kpRow ho m1).trans (Mv.kpBox hB1 p2.mv)⟩
theorem nQ (n:Nat):IntKind.u8.wrap ((n:Nat):Int)=(((UInt8.ofNat n).toNat:Nat):Int):=by
 simp [IntKind.wrap,IntKind.signed,IntKind.bits]
theorem lF {m:Nat} (h:WrAt w0 w b m l ps) (n:Nat) (hn:n≤100000000000000) (hl:l.length+2≤100000000000000):Calls Tryz.prog 74 #[.pointer (some ⟨b,0,none⟩), .int .i64 n] w (xT w0 w b m (l++bQ n) ps):=by
 obtain ⟨hb,hm,hbm,hx,⟨v,hB,ho⟩,hM⟩:=h;have hp:=aA (cs:=GX v m) hB;go_enter Tryz.func74,Tryz.ntmps74
 refine_lift aT ?_;rw [show (↑n / 2^Int.toNat 8:Int)=((n / 256:Nat):Int) by simp,nQ,nQ];refine oD (e:=5) (k:=1) (bytes:=1) (xs:=[.int .u8 ((UInt8.ofNat (n / 256)).toNat:Nat), .int .u8 ((UInt8.ofNat n).toNat:Nat)]) (by simp [Value.cells]) fun u1 w1 y1 _ sl1 _=>?_;refine aB ?_;have ho1:=ho.ext y1;have x1':=hx.trans y1;have hB1':=y1.at hB;have hM1':=hM.at (fun o h=>y1.at h);refine jZ (B:=w0.heap.size) (k:=1) (e:=5) (bytes:=1) (x:=u1) (es:=aL l) (fs:=aL (bQ n)) rfl ho1 rfl sl1 zDk (by simp [aL,bQ,Value.oneCell']) x1'.size (by simp [aL,bQ];omega) (by simp [aL,bQ];omega) ?_;intro v1 w1 o1 m1;have m1:Mv v.ownBlock _ w1:=m1;refine aB ?_;have hB1:=m1.at hB1' (fun e=>(ho1.neBlock hB1' aK) e.symm);have hM1:=hM1'.mvr m1 ho1 rfl;have x1:Ext w0 w1:=x1'.move m1 (fun k e=>(ho1.block k e).1);clear hp;refine_lift aT ?_;refine fA 0 v1 hB1 o1.one fun w2 p2=>?_;have x2:=cJ x1 p2;have hB2:w2.heap[b]? = some (.cells (GX v1 m).toArray 166 (0,0)):=p2.this;have o2:=eM o1 p2 hB1;have hM2:=hM1.at (fun o h=>p2.mv.at h (by intro e;exact hbm (Option.some.inj e).symm));refine_lift aT ?_
 go_end0
 exact ⟨rfl,⟨hb,hm,hbm,x2,⟨v1,hB2,by simpa [aL]using o2⟩,hM2⟩,(y1.kp.trans (Mv.kpRow ho1 m1)).trans (Mv.kpBox hB1 p2.mv)⟩
structure HldR where
 o:List UInt8
 l:List RSet
 org:List UInt8
 up:Bool
 deriving Inhabited
structure HldsAt (w:World) (v:Value) (hs:List HldR):Prop where
 out:∃ css,Sl 4 w v css∧css.length=hs.length∧∀ (i:Nat) (h:HldR),hs[i]? = some h→∃ x,css[i]? = some [aE h.o,x,aE h.org, .bool h.up]∧SetsAt w x h.l
theorem HldsAt.ext {hs:List HldR} (h:HldsAt w v hs) (hx:Ext w w'):HldsAt w' v hs:=by
 obtain ⟨css,h1,h2,h3⟩:=h;exact ⟨css,h1.ext hx,h2,fun i s hi=>let ⟨x,a,b⟩:=h3 i s hi;⟨x,a,b.ext hx⟩⟩
theorem HldsAt.elem {hs:List HldR} (h:HldsAt w v hs) {x:HldR} (hi:hs[i]? = some x):∃ y,Pts w (cC v (i*4)) [aE x.o,y,aE x.org, .bool x.up]∧SetsAt w y x.l:=by
 obtain ⟨css,h1,h2,h3⟩:=h;obtain ⟨y,h4,h5⟩:=h3 i x hi;exact ⟨y,h1.elem h4,h5⟩
theorem HldsAt.sl {hs:List HldR} (h:HldsAt w v hs):∃ css:List (List Value),Sl 4 w v css∧css.length=hs.length:=by
 obtain ⟨css,h1,h2,_⟩:=h;exact ⟨css,h1,h2⟩
def FZ (n:List UInt8):List HldR→Nat→Option Nat→Int→Option Nat
 | [],_,b,_=>b
 | h::t,i,b,most=>if bW n h.org=true∧most<((qP h.org:Nat):Int)then FZ n t (i+1) (some i) ((qP h.org:Nat):Int)else FZ n t (i+1) b most
def Bu (hs:List HldR) (n:List UInt8):Option Nat:=FZ n hs 0 none (-1)
def Et (v:Value):Option Nat→Value
 | none=>.pointer none
 | some i=>cC v (i*4)
theorem WC (n:List UInt8):qP n≤1000:=by
 unfold qP;cases h:aM n with
 | none=>simp
 | some ls =>
  have h1:=fM h;have h2:=kG ls;rw [h1.2.1]at h2;simp;omega
def Eu:List Value:=[aE [], .slice none 0 0,aE [], .bool false]
theorem Ev (v:Value) (hs:List HldR) (n:List UInt8) (w:World) (hv:HldsAt w v hs) (hl:hs.length≤1000):Calls Tryz.prog 145 #[v,aE n] w (bC w (Et v (Bu hs n))):=by
 obtain ⟨css,hsl,hcl⟩:=hv.sl;have hgo:FZ n (hs.drop 0) 0 none (-1)=Bu hs n:=rfl;generalize Bu hs n=RES at *;go_enter Tryz.func145,Tryz.ntmps145
 refine_lift bU fun _ _=>?_;go_loopw [5,6,7,8,9,12] (fun bv mv _ _ _ iv wr=>∃ (k:Nat) (b:Option Nat) (most:Int),k≤hs.length∧iv=.int .i64 k∧bv=Et v b∧mv=.int .i64 most∧-1≤most∧most≤1000∧Ext w wr∧FZ n (hs.drop k) k b most=RES) (fun _ _ _ _ _ iv _=>hs.length - (intOf iv).toNat)
 case atStart=>exact ⟨0,none,-1,Nat.zero_le _,rfl,rfl,rfl,aC,aC,Ext.refl _,hgo⟩
 case round =>
  obtain ⟨k,b,most,hk,rfl,rfl,rfl,hm0,hm1,hx,hg⟩:=hrel;have hsr:=hsl.ext hx;by_cases hlt:k<hs.length
  ·obtain ⟨y,h4,hy⟩:=(hv.ext hx).elem (List.getElem?_eq_getElem hlt);rw [List.drop_eq_getElem_cons hlt]at hg;unfold FZ at hg;refine_lift rR ?_;intro _ _ _ _ _ _;refine dX (z:=Eu) fun w3 x3 s3 h3=>?_;refine aB ?_;refine_lift aT ?_;refine dL (v:=.agg #[aE hs[k].o,y,aE hs[k].org, .bool hs[k].up]) h3 (gE rfl (by obtain ⟨_,hq,_⟩:=hy.sl;exact hq.one) rfl rfl) fun w4 p4=>?_;have x4:=cJ x3 p4;have h4':=aA (cs:=[aE hs[k].o,y,aE hs[k].org, .bool hs[k].up]) p4.this;clear p4 h3 x3 h4;have hsr4:=hsr.ext x4;clear hsr;refine_lift bU fun _ _=>?_;refine sC (uR hs[k].org _) fun v5 w5 x5 o5=>?_;have hs5:=o5.sl;have hl5:(aH ((aM hs[k].org).getD [])).length=qP hs[k].org:=by simp [aH,qP]
   have hln:=WC hs[k].org;have hp5:=h4'.ext x5;clear h4';refine_lift bU fun _ _=>?_;rw [hl5];refine cB (jI n hs[k].org _) fun w6 x6=>?_;have hsr6:=hsr4.ext (x5.trans x6);have hx6:=hx.trans (x4.trans (x5.trans x6));clear hsr4;cases hu:bW n hs[k].org with
   | false =>
    rw [if_neg (by rintro ⟨h,_⟩;rw [hu]at h;cases h)]at hg;refine_lift aT ?_;exact ⟨⟨k+1,b,most,aC,by go_num,rfl,rfl,hm0,hm1,hx6,hg⟩,by simp [intOf];omega⟩
   | true =>
    by_cases hc:most<((qP hs[k].org:Nat):Int)
    ·rw [if_pos ⟨hu,hc⟩]at hg;refine_lift jQ fun _=>?_
     all_goals first
      | (exfalso;omega)
      | skip
     exact ⟨⟨k+1,some k,_,aC,by go_num,rfl,rfl,aC,aC,hx6,hg⟩,by simp [intOf];omega⟩
    ·rw [if_neg (fun h=>hc h.2)]at hg;refine_lift jQ fun _=>?_
     all_goals first
      | (exfalso;omega)
      | skip
     exact ⟨⟨k+1,b,most,aC,by go_num,rfl,rfl,hm0,hm1,hx6,hg⟩,by simp [intOf];omega⟩
  ·have hk2:k=hs.length:=aC;subst hk2;rw [List.drop_length]at hg;unfold FZ at hg;refine_lift jQ fun _=>?_;go_ret;rw [← hg];exact ⟨rfl,hx⟩
def rF (n:Nat):List UInt8:=bQ (n / 65536)++bQ n
theorem SH {m:Nat} (h:WrAt w0 w b m l ps) (n:Nat) (hn:n≤100000000000000) (hl:l.length+4≤100000000000000):Calls Tryz.prog 77 #[.pointer (some ⟨b,0,none⟩), .int .i64 n] w (xT w0 w b m (l++rF n) ps):=by
 go_enter Tryz.func77,Tryz.ntmps77
 refine_lift bU fun _ _=>?_;have c1:=lF h (n / 65536) aC aC;refine bF (vs:=[.pointer (some ⟨b,0,none⟩), .int .i64 ((n / 65536:Nat):Int)]) (enters_of Tryz.func74 rfl rfl) rfl (congrArg (fun z=>[Value.pointer (some ⟨b,0,none⟩),Value.int .i64 z]) (show ((n:Int) / 2^Int.toNat 16)=((n / 65536:Nat):Int) by simp)) c1 ?_;rintro _ w1 ⟨rfl,h1,g1⟩;refine ⟨_,rfl,?_⟩;refine aB ?_;have c2:=lF h1 n hn (by simp [bQ];omega);refine_lift aT ?_;refine eZ c2 fun w2 h2 g2=>?_;refine_lift aT ?_
 go_end0
 exact ⟨rfl,by simpa [rF]using h2,g1.trans g2⟩
def mX (x:List UInt8):List UInt8:=UInt8.ofNat x.length::x
def eE:List (List UInt8)→List UInt8→List (List UInt8×Nat)→List UInt8×List (List UInt8×Nat)
 | [],l,ps=>(l ++ [0],ps)
 | x::ls,l,ps=>match ps.find? (fun p=>decide (p.1=enc (x::ls))) with
   | some p=>if p.2<16384 then (l++bQ (49152 ||| p.2),ps)else eE ls (l++mX x) ps
   | none=>eE ls (l++mX x) (ps ++ [(enc (x::ls),l.length)])
def Keys (ps:List (List UInt8×Nat)):Prop:=ps.Pairwise fun a b=>a.1≠b.1
theorem SI (hk:Keys ps) {p:List UInt8×Nat} (h:ps[i]? = some p):ps.find? (fun q=>decide (q.1=p.1))=some p:=by
 induction ps generalizing i with
 | nil=>simp at h
 | cons q ps ih =>
  obtain ⟨h1,h2⟩:=List.pairwise_cons.1 hk;cases i with
  | zero =>
   simp at h;subst h;simp
  | succ i =>
   simp at h;rw [List.find?_cons_of_neg (by simpa using h1 p (List.mem_of_getElem? h))];exact ih h2 h
theorem Ad (h:(Ac ps)[i]? = some (aE n,v)):∃ k,ps[i]? = some (n,k)∧v=.int .i64 (k:Nat):=by
 simp only [Ac,List.getElem?_map]at h;cases hp:ps[i]? with
 | none=>rw [hp]at h;cases h
 | some p =>
  rw [hp]at h;simp only [Option.map_some,Option.some.injEq,Prod.mk.injEq]at h;obtain ⟨h1,h2⟩:=h;exact ⟨p.2,by rw [← (show p.1=n by simpa [aE]using h1)],h2.symm⟩
theorem MP (h:∀ (i:Nat) (e:Value×Value),(Ac ps)[i]? = some e→e.1≠aE n):ps.find? (fun q=>decide (q.1=n))=none:=by
 rw [List.find?_eq_none];intro q hq e;obtain ⟨i,hi⟩:=List.getElem?_of_mem hq;have e:q.1=n:=by simpa using e
 exact h i (aE q.1, .int .i64 (q.2:Nat)) (by simp [Ac,hi]) (by rw [e])
theorem Keys.add (hk:Keys ps) (h:ps.find? (fun q=>decide (q.1=n))=none):Keys (ps ++ [(n,k)]):=by
 unfold Keys;rw [List.pairwise_append];refine ⟨hk,List.pairwise_singleton _ _,?_⟩;intro a ha b hb;simp at hb;subst hb;rw [List.find?_eq_none]at h
 simpa using h a ha
def sLen:Value→Nat
 | .string s=>s.size
 | _=>0
theorem MQ {m:Nat} (h:WrAt w0 w b m l ps) (hk:Keys ps) (ls:List (List UInt8)) (hf:ls.all jB=true) (hn:(enc ls).length≤1000) (hl:l.length+2000≤100000000000000):Calls Tryz.prog 76 #[.pointer (some ⟨b,0,none⟩),aE (enc ls)] w (xT w0 w b m (eE ls l ps).1 (eE ls l ps).2):=by
 have hgo:eE (ls.drop 0) l ps=eE ls l ps:=by rw [List.drop_zero]
 generalize eE ls l ps=RES at *;go_enter Tryz.func76,Tryz.ntmps76
 refine_lift bU fun _ _=>?_;go_loopw [1,4,5,6] (fun nv _ _ _ wr=>∃ (k:Nat) (l':List UInt8) (ps':List (List UInt8×Nat)),k≤ls.length∧nv=aE (enc (ls.drop k))∧WrAt w0 wr b m l' ps'∧Keys ps'∧l'.length+(enc (ls.drop k)).length≤l.length+1000∧(enc (ls.drop k)).length≤1000∧Kp w wr∧eE (ls.drop k) l' ps'=RES) (fun nv _ _ _ _=>sLen nv)
 case atStart=>exact ⟨0,l,ps,Nat.zero_le _,by rw [List.drop_zero],h,hk,by rw [List.drop_zero];omega,by rw [List.drop_zero];exact hn,Kp.refl _,hgo⟩
 case round =>
  obtain ⟨k,l',ps',hkl,rfl,hW,hK,hle,hle2,hKp,hg⟩:=hrel;have hfd:(ls.drop k).all jB=true:=by
   rw [List.all_eq_true]at hf ⊢;exact fun x hx=>hf x (List.mem_of_mem_drop hx)
  have hdl:(ls.drop k).length=ls.length - k:=List.length_drop;obtain ⟨hb,hm,hbm,hx,⟨v,hB,ho⟩,hM⟩:=hW;have hp:=aA (cs:=GX v m) hB;have hsl:=ho.sl;cases hd:ls.drop k with
  | nil =>
   rw [hd]at hg hle hle2;unfold eE at hg;refine_lift jQ fun _=>?_
   all_goals first
    | (exfalso;simp_all [enc];done)
    | skip
   refine oD (e:=5) (k:=1) (bytes:=1) (xs:=[.int .u8 0]) (by simp [Value.cells]) fun u1 w1 y1 _ sl1 _=>?_;refine aB ?_;have ho1:=ho.ext y1;have x1':=hx.trans y1;have hB1':=y1.at hB;have hM1':=hM.at (fun o h=>y1.at h);refine jZ (B:=w0.heap.size) (k:=1) (e:=5) (bytes:=1) (x:=u1) (es:=aL l') (fs:=aL [0]) rfl ho1 rfl sl1 zDk (by simp [aL,Value.oneCell']) x1'.size (by simp [aL];omega) (by simp [aL];omega) ?_;intro v1 w1 o1 m1;have m1:Mv v.ownBlock _ w1:=m1;refine aB ?_;have hB1:=m1.at hB1' (fun e=>(ho1.neBlock hB1' aK) e.symm);have hM1:=hM1'.mvr m1 ho1 rfl;have x1:Ext w0 w1:=x1'.move m1 (fun k e=>(ho1.block k e).1);clear hp;refine_lift aT ?_;refine fA 0 v1 hB1 o1.one fun w2 p2=>?_;have x2:=cJ x1 p2;have hB2:w2.heap[b]? = some (.cells (GX v1 m).toArray 166 (0,0)):=p2.this;have o2:=eM o1 p2 hB1;have hM2:=hM1.at (fun o h=>p2.mv.at h (by intro e;exact hbm (Option.some.inj e).symm));refine_lift aT ?_
   go_end0
   rw [← hg];exact ⟨rfl,⟨hb,hm,hbm,x2,⟨v1,hB2,by simpa [aL]using o2⟩,hM2⟩,hKp.trans ((y1.kp.trans (Mv.kpRow ho1 m1)).trans (Mv.kpBox hB1 p2.mv))⟩
  | cons x xs =>
   rw [hd]at hg hle hle2 hfd;have hx1:1≤x.length∧x.length≤63:=by
    have:=(List.all_eq_true.1 hfd) x aX
    simpa [jB]using this
   have hxs:ls.drop (k+1)=xs:=by rw [← List.drop_drop,hd];rfl
   have hen:enc (x::xs)=UInt8.ofNat x.length::(x++enc xs):=by simp [enc]
   have hlen:(UInt8.ofNat x.length::(x++enc xs)).length=x.length+(enc xs).length+1:=aX;have hlen2:(enc (x::xs)).length=x.length+(enc xs).length+1:=by rw [hen,hlen]
   have hb0:(UInt8.ofNat x.length).toNat=x.length:=by simp;omega
   have htk:List.take ((UInt8.ofNat x.length).toNat+1) (UInt8.ofNat x.length::(x++enc xs))=mX x:=by rw [hb0];simp [mX]
   have hdp:List.drop ((UInt8.ofNat x.length).toNat+1) (UInt8.ofNat x.length::(x++enc xs))=enc xs:=by rw [hb0];simp
   obtain ⟨lx,hlx⟩:=MK (enc (x::xs)) aC;have hzv:∀ w,(zeroValue 3).run Tryz.prog w=.ok (.int .i64 0) w:=fun w=>by kernel_rfl
   obtain ⟨bv,bb,hrl,hcase⟩:=gM yP (zDk:eI Tryz.prog 164 23 3=true) hzv hM hlx true;simp only [if_true]at hrl;have hne0:enc (x::xs)≠[]:=by rw [hen];simp
   refine_lift mH ?_;intro _ _ _ _
   all_goals first
    | (exfalso;exact hne0 (by simpa using ‹_›))
    | skip
   refine cG rfl (Runs.lookup rfl rfl hrl) ?_;refine aB ?_;rcases hcase with ⟨i,hie,rfl⟩|⟨hno,rfl,rfl⟩
   ·obtain ⟨at_,hat,rfl⟩:=Ad hie;have hfind:=SI hK hat;unfold eE at hg;dsimp only at hfind;rw [hfind]at hg;dsimp only at hg;by_cases c1:at_<16384
    ·rw [if_pos c1]at hg;refine_lift EZ fun _ _ _ _ _=>?_
     all_goals first
      | (exfalso;omega)
      | skip
     refine aG (Runs.orN (m:=49152) (n:=at_) rfl rfl aC aC) ?_;refine aB ?_;have cw:=lF (⟨hb,hm,hbm,hx,⟨v,hB,ho⟩,hM⟩:WrAt w0 wr b m l' ps') (49152 ||| at_) (by have:=Nat.or_lt_two_pow (x:=49152) (y:=at_) (n:=16) aK aC;omega) aC;refine eZ cw fun w1 h1 g1=>?_;refine_lift aT ?_;refine bodyPost_ret (results_none rfl _ _ _) rfl ?_;rw [← hg];exact ⟨rfl,h1,hKp.trans g1⟩
    ·rw [if_neg c1]at hg;rw [hen];refine_lift lQ fun _ _ _=>?_
     all_goals first
      | (exfalso;omega)
      | skip
     have hW9:WrAt w0 _ b m l' ps':=⟨hb,hm,hbm,hx,⟨v,hB,ho⟩,hM⟩;have ct:=BI hW9 (mX x) (by simp [mX];omega);refine bF (vs:=[.pointer (some ⟨b,0,none⟩),aE (mX x)]) (enters_of Tryz.func134 rfl rfl) rfl (congrArg (fun z=>[Value.pointer (some ⟨b,0,none⟩),aE z]) htk) ct ?_;rintro _ w5 ⟨rfl,h5,g5⟩;refine ⟨_,rfl,?_⟩;refine aB ?_;clear hp hsl;refine_lift aT ?_;refine ⟨⟨k+1,l'++mX x,ps',by have:=congrArg List.length hd;simp at this;omega,by rw [hxs];exact congrArg aE hdp,h5,hK,by rw [hxs];simp [mX];omega,by rw [hxs];omega,hKp.trans g5,by rw [hxs];exact hg⟩,?_⟩;show (List.drop ((UInt8.ofNat x.length).toNat+1) (UInt8.ofNat x.length::(x++enc xs))).length<(enc (x::xs)).length;rw [hdp,hlen2];omega
   ·unfold eE at hg;rw [MP hno]at hg;dsimp only at hg;refine_lift bU fun _ _=>?_
    all_goals first
     | (exfalso;simp_all;done)
     | skip
    refine aO 10 (Ext wr) zDk ?_;intro w1 x1 _;refine ⟨x1,?_⟩;refine bE 0 ?_;refine bE 1 ?_;refine bE 2 ?_;refine bE 3 ?_;refine bE 4 ?_;refine bE 5 ?_;refine bE 6 ?_;refine bE 7 ?_;refine bE 8 ?_;refine bE 9 ?_;refine dH 10 ?_;have hM1:=hM.at (fun o h=>x1.at h);obtain ⟨w7,o7,hr7,p7,hm7⟩:=iZ yP (zDk:eI Tryz.prog 164 23 3=true) hM1 hlx (v:=.int .i64 ((aL l').length:Nat)) hno;refine eQ rfl rfl rfl rfl hr7 ?_;have x7:=cJ (hx.trans x1) p7;have hB7:=p7.mv.at (x1.at hB) (by intro e;exact hbm (Option.some.inj e));obtain ⟨es,ck,hme,_⟩:=hM1.out;have ho7:=(ho.ext x1).mv p7.mv (.inr ((ho.ext x1).neMap hme));have hm8:MapAt Tryz.prog 23 w7 m (Ac (ps' ++ [(enc (x::xs),l'.length)])):=by simpa [Ac,aL]using hm7
    refine aD ⟨aN rfl,?_⟩;refine jP ?_;rw [hen];refine_lift bU fun _ _=>?_;have hW9:WrAt w0 _ b m l' (ps' ++ [(enc (x::xs),l'.length)]):=⟨hb,hm,hbm,x7,⟨v,hB7,ho7⟩,hm8⟩;have ct:=BI hW9 (mX x) (by simp [mX];omega);refine bF (vs:=[.pointer (some ⟨b,0,none⟩),aE (mX x)]) (enters_of Tryz.func134 rfl rfl) rfl (congrArg (fun z=>[Value.pointer (some ⟨b,0,none⟩),aE z]) htk) ct ?_;rintro _ w5 ⟨rfl,h5,g5⟩;refine ⟨_,rfl,?_⟩;refine aB ?_;clear hp hsl;refine_lift aT ?_;refine ⟨⟨k+1,l'++mX x,(ps' ++ [(enc (x::xs),l'.length)]),by have:=congrArg List.length hd;simp at this;omega,by rw [hxs];exact congrArg aE hdp,h5,hK.add (MP hno),by rw [hxs];simp [mX];omega,by rw [hxs];omega,hKp.trans ((x1.kp.trans (Mv.kpMap hM1 p7.mv)).trans g5),by rw [hxs];exact hg⟩,?_⟩;show (List.drop ((UInt8.ofNat x.length).toNat+1) (UInt8.ofNat x.length::(x++enc xs))).length<(enc (x::xs)).length;rw [hdp,hlen2];omega
def iF (n:List UInt8):List (List UInt8):=(aM n).getD []
theorem gQ (h:(aM n).isSome=true):(iF n).all jB=true∧enc (iF n)=n∧n.length≤254:=by
 cases hl:aM n with
 | none=>rw [hl]at h;cases h
 | some ls =>
  have:=fM hl
  simpa [iF,hl]using this
theorem uV {m:Nat} (h:WrAt w0 w b m l ps) (hk:Keys ps) (n:List UInt8) (hn:(aM n).isSome=true) (hl:l.length+2000≤100000000000000):Calls Tryz.prog 76 #[.pointer (some ⟨b,0,none⟩),aE n] w (xT w0 w b m (eE (iF n) l ps).1 (eE (iF n) l ps).2):=by
 obtain ⟨h1,h2,h3⟩:=gQ hn;have:=MQ h hk (iF n) h1 (by rw [h2];omega) hl;rw [h2]at this;exact this
theorem iM:∀ (ls:List (List UInt8)) (l:List UInt8) (ps:List (List UInt8×Nat)),Keys ps→Keys (eE ls l ps).2:=by
 intro ls;induction ls with
 | nil=>intro l ps h;exact h
 | cons x ls ih =>
  intro l ps h;unfold eE;split
  ·split
   ·exact h
   ·exact ih _ _ h
  ·rename_i hn;exact ih _ _ (h.add hn)
theorem mD:∀ (ls:List (List UInt8)) (l:List UInt8) (ps:List (List UInt8×Nat)),∃ t,(eE ls l ps).1=l++t∧t.length≤(enc ls).length+2:=by
 intro ls;induction ls with
 | nil=>intro l ps;exact ⟨[0],rfl,aX⟩
 | cons x ls ih =>
  intro l ps;have he:(enc (x::ls)).length=(mX x).length+(enc ls).length:=by simp [enc,mX];omega
  unfold eE;split
  ·split
   ·exact ⟨_,rfl,by simp [bQ]⟩
   ·obtain ⟨t,h1,h2⟩:=ih (l++mX x) ps;exact ⟨mX x++t,by rw [h1,List.append_assoc],by rw [List.length_append];omega⟩
  ·obtain ⟨t,h1,h2⟩:=ih (l++mX x) (ps ++ [(enc (x::ls),l.length)]);exact ⟨mX x++t,by rw [h1,List.append_assoc],by rw [List.length_append];omega⟩
def eW (r:Rec) (l:List UInt8) (ps:List (List UInt8×Nat)):List UInt8×List (List UInt8×Nat) :=
 if r.kind=6 then ((eE (iF (gX r.data).mail) (eE (iF (gX r.data).main) l ps).1 (eE (iF (gX r.data).main) l ps).2).1++r.data.drop (r.data.length - 20),(eE (iF (gX r.data).mail) (eE (iF (gX r.data).main) l ps).1 (eE (iF (gX r.data).main) l ps).2).2)
 else if (aQ r.kind r.data).2=0∧r.kind≠33 then eE (iF (aQ r.kind r.data).1) (l++r.data.take (r.data.length - (aQ r.kind r.data).1.length - 1)) ps
 else (l++r.data,ps)
def rG (r:Rec) (l:List UInt8) (ps:List (List UInt8×Nat)):List UInt8×List (List UInt8×Nat) :=
 (l++bQ ((eW r (l++bQ 0) ps).1.length - l.length - 2)++(eW r (l++bQ 0) ps).1.drop (l.length+2),(eW r (l++bQ 0) ps).2)
theorem EJ {k:Int} (h:(aQ k d).2=0):(aM (aQ k d).1).isSome=true∧(aQ k d).1.length+1≤d.length:=by
 unfold aQ at h ⊢;split at h
 ·cases h
 ·split at h
  ·cases h
  ·rename_i c1 c2;rw [if_neg c1,if_neg c2];cases hh:jR (d.drop (jS k).toNat) with
   | none=>rw [hh]at h;cases h
   | some n =>
    obtain ⟨e1,e2⟩:=AJ hh;have:=congrArg List.length e1;simp at this;exact ⟨e2,by simp;omega⟩
theorem uW (r:Rec) (l2:List UInt8) (ps:List (List UInt8×Nat)) (hd:r.data.length≤4000) (hS:r.kind=6→(aM (gX r.data).main).isSome=true∧(aM (gX r.data).mail).isSome=true∧20≤r.data.length):∃ y,(eW r l2 ps).1=l2++y∧y.length≤5000:=by
 unfold eW;split
 ·rename_i c6;obtain ⟨s1',s2',s3'⟩:=hS c6;obtain ⟨y7,e7,n7⟩:=mD (iF (gX r.data).main) l2 ps;obtain ⟨y8,e8,n8⟩:=mD (iF (gX r.data).mail) (eE (iF (gX r.data).main) l2 ps).1 (eE (iF (gX r.data).main) l2 ps).2;have a1:=gQ s1';have a2:=gQ s2';rw [a1.2.1]at n7;rw [a2.2.1]at n8;refine ⟨y7++(y8++r.data.drop (r.data.length - 20)),?_,?_⟩
  ·dsimp only;rw [e8,e7];simp
  ·simp only [List.length_append,List.length_drop];omega
 ·split
  ·rename_i c0;obtain ⟨k1,k2⟩:=EJ c0.1;obtain ⟨y7,e7,n7⟩:=mD (iF (aQ r.kind r.data).1) (l2++r.data.take (r.data.length - (aQ r.kind r.data).1.length - 1)) ps;have a1:=gQ k1;rw [a1.2.1]at n7;refine ⟨r.data.take (r.data.length - (aQ r.kind r.data).1.length - 1)++y7,by rw [e7,List.append_assoc],?_⟩;simp only [List.length_append,List.length_take];omega
  ·exact ⟨r.data,rfl,aC⟩
theorem Cz (l:List UInt8) (k:Nat) (a:UInt8):(aL l).set k [.int .u8 ((a.toNat:Nat):Int)]=aL (l.set k a):=by simp [aL,List.map_set]
theorem SJ (l y:List UInt8) (n:Nat):((aL (l++bQ 0++y)).set l.length [.int .u8 (IntKind.u8.wrap ((n:Int) / 2^Int.toNat 8))]).set (l.length+1) [.int .u8 (IntKind.u8.wrap (n:Int))]=aL (l++bQ n++y):=by
 rw [show ((n:Int) / 2^Int.toNat 8)=((n / 256:Nat):Int) by simp,nQ,nQ,Cz,Cz]
 congr 1
 simp [bQ,List.set_append]
theorem WD {m:Nat} (h:WrAt w0 w b m l ps) (hk:Keys ps) (r:Rec) (hd:r.data.length≤4000) (hS:r.kind=6→(aM (gX r.data).main).isSome=true∧(aM (gX r.data).mail).isSome=true∧20≤r.data.length) (hl:l.length+10000≤100000000000000):Calls Tryz.prog 78 #[.pointer (some ⟨b,0,none⟩),kK r] w (xT w0 w b m (rG r l ps).1 (rG r l ps).2):=by
 unfold rG;have hh:=EJ (k:=r.kind) (d:=r.data);have hpre:=uW r (l++bQ 0) ps hd hS;go_enter Tryz.func78,Tryz.ntmps78
 refine_lift mT fun _ _=>?_;refine jO (vs:=[aE r.name, .int .i64 r.kind, .int .i64 r.ttl,aE r.data]) fun w1 x1 s1 hb1=>?_;refine aB ?_;obtain ⟨hb,hm,hbm,hx,⟨v,hB,ho⟩,hM⟩:=h;have hp:=aA (cs:=GX v m) (x1.at hB);have hsl:=(ho.ext x1).sl;have hW1:WrAt w0 w1 b m l ps:=⟨hb,hm,hbm,hx.trans x1,⟨v,x1.at hB,ho.ext x1⟩,hM.at (fun o h=>x1.at h)⟩;refine_lift bU fun _ _=>?_;have cw:=lF hW1 0 aC aC;refine eZ cw fun w2 h2 g2=>?_;clear hp;have hc2:=g2 _ _ _ _ aK aK hb1;have hpc2:=aA (cs:=[aE r.name, .int .i64 r.kind, .int .i64 r.ttl,aE r.data]) hc2;have hl2:(l++bQ 0).length=l.length+2:=by simp [bQ]
 generalize hL2:l++bQ 0=l2 at *;refine_lift bU fun _ _=>?_;refine cB (ZF r.kind r.data _ aC) fun w3 x3=>?_;have hpc3:=hpc2.ext x3;have hc3:=x3.at hc2;obtain ⟨f1,f2,f3,f4,⟨v2,f5,f6⟩,f7⟩:=h2;have h3:WrAt w0 w3 b m l2 ps:=⟨f1,f2,f3,f4.trans x3,⟨v2,x3.at f5,f6.ext x3⟩,f7.at (fun o h=>x3.at h)⟩;clear hpc2;have hDe:eW r l2 ps=eW r l2 ps:=rfl
 conv at hDe=>rhs;unfold eW
 obtain ⟨ht,hte⟩:∃ y,y=aQ r.kind r.data:=⟨_,rfl⟩;rw [← hte]at hh hDe;rw [← hte]
 (repeat' first|((with_reducible refine aZ ?_);go_step)|((with_reducible refine aS ?_);first|refine dN ?_|(refine bG ?_ ?_<;>intro hc))|fail)
 all_goals first
  | (have c6:¬ r.kind=6:=by assumption
     have c0:¬ (ht.2=0∧r.kind≠33):=by
      first
       | (have:¬ ht.2=0:=by assumption
          exact fun h=>this h.1)
       | (have:r.kind=33:=by simpa using ‹(!decide (r.kind=33))=false›
          exact fun h=>h.2 this)
     have ct:=BI h3 r.data aC;refine eZ ct fun w9 h9 g9=>?_;have hZ:WrAt w0 w9 b m (eW r l2 ps).1 (eW r l2 ps).2:=by
      rw [hDe,if_neg c6,if_neg c0];exact h9
     have gZ:Kp w3 w9:=g9)
  | (have c6:¬ r.kind=6:=by assumption
     have c0:ht.2=0∧r.kind≠33:=⟨by assumption,by simpa using ‹(!decide (r.kind=33))=true›⟩;obtain ⟨k1,k2⟩:=hh c0.1;have ct:=BI h3 (r.data.take (r.data.length - ht.1.length - 1)) (by rw [List.length_take];omega);refine bF (vs:=[.pointer (some ⟨b,0,none⟩),aE (r.data.take (r.data.length - ht.1.length - 1))]) (enters_of Tryz.func134 rfl rfl) rfl (congrArg (fun z=>[Value.pointer (some ⟨b,0,none⟩),aE (r.data.take z)]) aC) ct ?_;rintro _ w8 ⟨rfl,h8,g8⟩;refine ⟨_,rfl,?_⟩;refine aB ?_;have hpc8:=aA (cs:=[aE r.name, .int .i64 r.kind, .int .i64 r.ttl,aE r.data]) (g8 _ _ _ _ aK aK hc3);clear hpc3;refine_lift aT ?_;have cn:=uV h8 hk ht.1 k1 (by rw [List.length_append,List.length_take];omega);refine eZ cn fun w9 h9 g9=>?_;have hZ:WrAt w0 w9 b m (eW r l2 ps).1 (eW r l2 ps).2:=by
      rw [hDe,if_neg c6,if_pos c0];exact h9
     have gZ:Kp w3 w9:=g8.trans g9)
  | skip
 ·have c6:r.kind=6:=by assumption
  obtain ⟨s1',s2',s3'⟩:=hS c6;refine cB (IU r.data _ aC) fun w4 x4=>?_;refine_lift aT ?_;refine dX (z:=dE) fun w5 x5 s5 h5=>?_;refine aB ?_;refine dL (v:=.agg (gX r.data).cells.toArray) h5 (AM _) fun w6 p6=>?_;have x46:=cJ x5 p6;have x36:=x4.trans x46;have hb6:w6.heap[w4.heap.size]? = some (.cells (gX r.data).cells.toArray 240 (0,0)):=p6.this;have hs6:=aA (cs:=(gX r.data).cells) hb6;obtain ⟨f1,f2,f3,f4,⟨v3,f5,f6⟩,f7⟩:=h3;have h6:WrAt w0 w6 b m l2 ps:=⟨f1,f2,f3,f4.trans x36,⟨v3,x36.at f5,f6.ext x36⟩,f7.at (fun o h=>x36.at h)⟩;have hc6:=x36.at hc3;clear p6 h5;generalize w4.heap.size=d at *;refine_lift bU fun _ _=>?_;have cn:=uV h6 hk (gX r.data).main s1' aC;have hk7:=iM (iF (gX r.data).main) l2 ps hk;obtain ⟨y7,e7,n7⟩:=mD (iF (gX r.data).main) l2 ps;refine eZ cn fun w7 h7 g7=>?_;have hb7:=g7 _ _ _ _ aK aK hb6;have hs7:=aA (cs:=(gX r.data).cells) hb7;have hc7:=g7 _ _ _ _ aK aK hc6;clear hs6;refine_lift bU fun _ _=>?_;have cn2:=uV h7 hk7 (gX r.data).mail s2' (by rw [e7,List.length_append];have:=(gQ s1').2.1;rw [this]at n7;have:=(gQ s1').2.2;omega);obtain ⟨y8,e8,n8⟩:=mD (iF (gX r.data).mail) (eE (iF (gX r.data).main) l2 ps).1 (eE (iF (gX r.data).main) l2 ps).2;refine eZ cn2 fun w8 h8 g8=>?_;have hc8:=g8 _ _ _ _ aK aK hc7;have hpc8:=aA (cs:=[aE r.name, .int .i64 r.kind, .int .i64 r.ttl,aE r.data]) hc8;clear hpc3 hs7;refine_lift aT ?_;have ct:=BI h8 (r.data.drop (r.data.length - 20)) (by rw [e8,e7,List.length_drop,List.length_append,List.length_append];rw [(gQ s1').2.1]at n7;rw [(gQ s2').2.1]at n8;have:=(gQ s1').2.2;have:=(gQ s2').2.2;omega);refine bF (vs:=[.pointer (some ⟨b,0,none⟩),aE (r.data.drop (r.data.length - 20))]) (enters_of Tryz.func134 rfl rfl) rfl (congrArg (fun z=>[Value.pointer (some ⟨b,0,none⟩),aE (r.data.drop z)]) aC) ct ?_;rintro _ w9 ⟨rfl,h9,g9⟩;refine ⟨_,rfl,?_⟩;refine aB ?_;have hZ:WrAt w0 w9 b m (eW r l2 ps).1 (eW r l2 ps).2:=by
   rw [hDe,if_pos c6];exact h9
  have gZ:Kp w3 w9:=((x36.kp.trans g7).trans g8).trans g9;clear hpc8;obtain ⟨y,ey,ny⟩:=hpre;generalize eW r l2 ps=Z at *;obtain ⟨e1,e2,e3,e4,⟨vz,e5,e6⟩,e7⟩:=hZ;have hpz:=aA (cs:=GX vz m) e5;have hslz:=e6.sl;have hbz:(aL Z.1).length=Z.1.length:=by simp [aL]
  have hbl:(aL l).length=l.length:=by simp [aL]
  have hlz:Z.1.length=l.length+2+y.length:=by rw [ey,List.length_append,hl2]
  refine_lift aT ?_;have hn:((aL Z.1).length:Int) - (aL l).length - 2=((Z.1.length - l.length - 2:Nat):Int):=aC;rw [hn];refine aO 19 (fun w'=>Pts w' (.pointer (some ⟨b,0,none⟩)) (GX vz m)∧∃ es:List (List Value),es.length=Z.1.length∧Sl 1 w' vz es) zDk ?_;intro wA xA _;refine ⟨⟨hpz.ext xA,aL Z.1,hbz,hslz.ext xA⟩,?_⟩;refine bE 0 ?_;refine bE 1 ?_;refine bE 2 ?_;refine oE (i:=3) (v:=vz) rfl rfl (fun w' hF=>by obtain ⟨hF,_⟩:=hF;exact vM) ?_;refine aB ?_;refine bE 4 ?_;refine bE 5 ?_;refine bE 6 ?_;refine bE 7 ?_;refine oE (i:=8) (v:=vz) rfl rfl (fun w' hF=>by obtain ⟨hF,_⟩:=hF;exact vM) ?_;refine aB ?_;refine bE 9 ?_;refine bE 10 ?_;refine bE 11 ?_;refine bE 12 ?_;refine bE 13 ?_;refine bE 14 ?_;refine bE 15 ?_;refine oE (i:=16) (v:=cC vz (l.length*1)) rfl rfl (fun w' hF=>by obtain ⟨_,es,h1,h2⟩:=hF;rw [← hbl];exact Runs.idxT rfl h2 aC zDk) ?_;refine aB ?_;refine dH 17 ?_;refine fZ (c:=.int .u8 (IntKind.u8.wrap (((Z.1.length - l.length - 2:Nat):Int) / 2^Int.toNat 8))) (i:=l.length) rfl rfl rfl (e6.ext xA) aC zDk rfl ?_;intro wB oB mB;have pB:=aA (cs:=GX vz m) (mB.at (xA.at e5) (fun e=>(e6.neBlock e5 aK) e.symm));refine aD ⟨aR ⟨pB,_,by rw [List.length_set];exact hbz,oB.sl⟩,?_⟩;have hslB:=oB.sl;have hlB:((aL Z.1).set l.length [.int .u8 (IntKind.u8.wrap (((Z.1.length - l.length - 2:Nat):Int) / 2^Int.toNat 8))]).length=Z.1.length:=by rw [List.length_set];exact hbz
  refine dH 18 ?_;refine aG (v:=cC vz ((l.length+1)*1)) (by rw [← hbl];exact Runs.idxT rfl hslB aC zDk) ?_;refine aB ?_;refine aD ⟨aR ⟨pB,_,hlB,hslB⟩,?_⟩;refine dH 19 ?_;refine fZ (c:=.int .u8 (IntKind.u8.wrap ((Z.1.length - l.length - 2:Nat):Int))) (i:=l.length+1) rfl rfl rfl oB aC zDk rfl ?_;intro wC oC mC;refine aD ⟨aN rfl,?_⟩;refine jP ?_;refine_lift aT ?_
  go_end0
  have hBb:=mB.at (xA.at e5) (fun e=>(e6.neBlock e5 aK) e.symm);have hCb:=mC.at hBb (fun e=>(oB.neBlock hBb aK) e.symm);have xC:Ext w0 wC:=((e4.trans xA).move mB (fun k e=>((e6.ext xA).block k e).1)).move mC (fun k e=>(oB.block k e).1);have mapC:=((e7.at (fun o h=>xA.at h)).mvr mB (e6.ext xA) rfl).mvr mC oB rfl;have oC':Own w0.heap.size 1 5 wC vz (aL (l++bQ (Z.1.length - l.length - 2)++Z.1.drop (l.length+2))):=by
   have e0:Z.1.drop (l.length+2)=y:=by rw [ey,← hl2,List.drop_left]
   rw [e0,← SJ];rw [hL2,← ey];exact oC
  exact ⟨rfl,⟨e1,e2,e3,xC,⟨vz,hCb,oC'⟩,mapC⟩,(((((x1.kp.trans g2).trans x3.kp).trans gZ).trans xA.kp).trans (Mv.kpRow (e6.ext xA) mB)).trans (Mv.kpRow oB mC)⟩
 all_goals obtain ⟨y,ey,ny⟩:=hpre
 all_goals generalize eW r l2 ps=Z at *
 all_goals obtain ⟨e1,e2,e3,e4,⟨vz,e5,e6⟩,e7⟩:=hZ
 all_goals have hpz:=aA (cs:=GX vz m) e5
 all_goals have hslz:=e6.sl
 all_goals have hbz:(aL Z.1).length=Z.1.length:=by simp [aL]
 all_goals have hbl:(aL l).length=l.length:=by simp [aL]
 all_goals have hlz:Z.1.length=l.length+2+y.length:=by rw [ey,List.length_append,hl2]
 all_goals refine_lift aT ?_
 all_goals have hn:((aL Z.1).length:Int) - (aL l).length - 2=((Z.1.length - l.length - 2:Nat):Int):=aC
 all_goals rw [hn]
 all_goals refine aO 19 (fun w'=>Pts w' (.pointer (some ⟨b,0,none⟩)) (GX vz m)∧∃ es:List (List Value),es.length=Z.1.length∧Sl 1 w' vz es) zDk ?_
 all_goals intro wA xA _
 all_goals refine ⟨⟨hpz.ext xA,aL Z.1,hbz,hslz.ext xA⟩,?_⟩
 all_goals refine bE 0 ?_;refine bE 1 ?_;refine bE 2 ?_
 all_goals refine oE (i:=3) (v:=vz) rfl rfl (fun w' hF=>by obtain ⟨hF,_⟩:=hF;exact vM) ?_
 all_goals refine aB ?_
 all_goals refine bE 4 ?_;refine bE 5 ?_;refine bE 6 ?_;refine bE 7 ?_
 all_goals refine oE (i:=8) (v:=vz) rfl rfl (fun w' hF=>by obtain ⟨hF,_⟩:=hF;exact vM) ?_
 all_goals refine aB ?_
 all_goals refine bE 9 ?_;refine bE 10 ?_;refine bE 11 ?_;refine bE 12 ?_;refine bE 13 ?_;refine bE 14 ?_;refine bE 15 ?_
 all_goals refine oE (i:=16) (v:=cC vz (l.length*1)) rfl rfl (fun w' hF=>by obtain ⟨_,es,h1,h2⟩:=hF;rw [← hbl];exact Runs.idxT rfl h2 aC zDk) ?_
 all_goals refine aB ?_
 all_goals refine dH 17 ?_
 all_goals refine fZ (c:=.int .u8 (IntKind.u8.wrap (((Z.1.length - l.length - 2:Nat):Int) / 2^Int.toNat 8))) (i:=l.length) rfl rfl rfl (e6.ext xA) aC zDk rfl ?_
 all_goals intro wB oB mB
 all_goals have pB:=aA (cs:=GX vz m) (mB.at (xA.at e5) (fun e=>(e6.neBlock e5 aK) e.symm))
 all_goals refine aD ⟨aR ⟨pB,_,by rw [List.length_set];exact hbz,oB.sl⟩,?_⟩
 all_goals have hslB:=oB.sl
 all_goals have hlB:((aL Z.1).set l.length [.int .u8 (IntKind.u8.wrap (((Z.1.length - l.length - 2:Nat):Int) / 2^Int.toNat 8))]).length=Z.1.length:=by rw [List.length_set];exact hbz
 all_goals refine dH 18 ?_
 all_goals refine aG (v:=cC vz ((l.length+1)*1)) (by rw [← hbl];exact Runs.idxT rfl hslB aC zDk) ?_
 all_goals refine aB ?_
 all_goals refine aD ⟨aR ⟨pB,_,hlB,hslB⟩,?_⟩
 all_goals refine dH 19 ?_
 all_goals refine fZ (c:=.int .u8 (IntKind.u8.wrap ((Z.1.length - l.length - 2:Nat):Int))) (i:=l.length+1) rfl rfl rfl oB aC zDk rfl ?_
 all_goals intro wC oC mC
 all_goals refine aD ⟨aN rfl,?_⟩
 all_goals refine jP ?_
 all_goals refine_lift aT ?_
 all_goals go_end0
 all_goals have hBb:=mB.at (xA.at e5) (fun e=>(e6.neBlock e5 aK) e.symm)
 all_goals have hCb:=mC.at hBb (fun e=>(oB.neBlock hBb aK) e.symm)
 all_goals have xC:Ext w0 wC:=((e4.trans xA).move mB (fun k e=>((e6.ext xA).block k e).1)).move mC (fun k e=>(oB.block k e).1)
 all_goals have mapC:=((e7.at (fun o h=>xA.at h)).mvr mB (e6.ext xA) rfl).mvr mC oB rfl
 all_goals have oC':Own w0.heap.size 1 5 wC vz (aL (l++bQ (Z.1.length - l.length - 2)++Z.1.drop (l.length+2))):=by rw [show Z.1.drop (l.length+2)=y by rw [ey,← hl2,List.drop_left],← SJ,hL2,← ey];exact oC
 all_goals exact ⟨rfl,⟨e1,e2,e3,xC,⟨vz,hCb,oC'⟩,mapC⟩,(((((x1.kp.trans g2).trans x3.kp).trans gZ).trans xA.kp).trans (Mv.kpRow (e6.ext xA) mB)).trans (Mv.kpRow oB mC)⟩
structure RecOk (r:Rec):Prop where
 nm:(aM r.name).isSome=true
 k0:1≤r.kind
 k1:r.kind≤65535
 t0:0≤r.ttl
 t1:r.ttl≤2147483647
 d:r.data.length≤4000
 soa:r.kind=6→(aM (gX r.data).main).isSome=true∧(aM (gX r.data).mail).isSome=true∧20≤r.data.length
theorem CJ {o:Option (List UInt8)} (h:o.isSome=true):∃ n,o=some n∧o.getD []=n:=by
 cases o with
 | none=>cases h
 | some n=>exact ⟨n,rfl,rfl⟩
theorem xU (h:(cH s).2.2=true):(aM (cH s).1).isSome=true∧(cH s).2.1.length≤s.length:=by
 unfold cH at h ⊢;split
 ·rename_i c;rw [if_pos c]at h;cases h
 ·rename_i c;rw [if_neg c]at h;dsimp only at h ⊢;obtain ⟨n,h1,h2⟩:=CJ h;rw [h2];exact ⟨(AJ h1).2,by rw [List.length_drop];omega⟩
theorem OU (h:(dK d).isSome=true):(aM (gX d).main).isSome=true∧(aM (gX d).mail).isSome=true∧20≤d.length:=by
 unfold gX;unfold dK at h ⊢;dsimp only at h ⊢;split at h
 ·rename_i c;rw [if_pos c];obtain ⟨c1,c2,c3,c4⟩:=c;have a:=xU c1;have b:=xU c2;refine ⟨a.1,b.1,aC⟩
 ·cases h
theorem OV {r:Rec} (h:bI r=0):RecOk r:=by
 unfold bI at h;split at h
 ·cases h
 ·split at h
  ·cases h
  ·rename_i c1 c2;split at h
   ·rename_i c3;refine ⟨c3,aC,aC,aC,aC,aC,fun e=>?_⟩;have hf:fits r.kind r.data=true:=by
     cases hf:fits r.kind r.data with
     | true=>rfl
     | false=>exact absurd (by simp [hf]) c2
    rw [e]at hf;exact OU (by simpa [fits]using hf)
   ·cases h
def flagN (is:Bool) (n:Nat):Nat:=if is=true then n else 0
def wF (m:MsgR):Nat:=(((((flagN m.resp 32768 ||| m.op.toNat*2048) ||| flagN m.auth 1024) ||| flagN m.trunc 512) ||| flagN m.want 256) ||| flagN m.avail 128) ||| m.rcode.toNat
abbrev SK:=List UInt8×List (List UInt8×Nat)
def qW (x:SK) (q:mU):SK:=((eE (iF q.1) x.1 x.2).1++bQ q.2.toNat++bQ 1,(eE (iF q.1) x.1 x.2).2)
def mS (x:SK) (r:Rec):SK:=rG r ((eE (iF r.name) x.1 x.2).1++bQ r.kind.toNat++bQ 1++rF r.ttl.toNat) (eE (iF r.name) x.1 x.2).2
def kX (m:MsgR):List UInt8:=bQ m.id.toNat++bQ (wF m)++bQ m.qs.length++bQ m.an.length++bQ m.au.length++bQ (m.ex.length+flagN (!decide (m.size=0)) 1)
def JE (m:MsgR):List UInt8:=if m.size=0 then []else [0]++bQ 41++bQ m.size.toNat++rF 0++bQ 0
def xV (m:MsgR):SK:=m.ex.foldl mS (m.au.foldl mS (m.an.foldl mS (m.qs.foldl qW (kX m,[]))))
def pQ (m:MsgR):List UInt8:=(xV m).1++JE m
def bP (m:MsgR):List UInt8×Int:=if dY m≠0 then ([],dY m)else if 65535<(pQ m).length then ([],4)else (pQ m,0)
theorem WE (x:SK) (q:mU) (h:Keys x.2):Keys (qW x q).2:=iM _ _ _ h
theorem JF (r:Rec) (l:List UInt8) (ps:List (List UInt8×Nat)) (h:Keys ps):Keys (rG r l ps).2:=by
 unfold rG eW;dsimp only;split
 ·exact iM _ _ _ (iM _ _ _ h)
 ·split
  ·exact iM _ _ _ h
  ·exact h
theorem OW (x:SK) (r:Rec) (h:Keys x.2):Keys (mS x r).2:=JF _ _ _ (iM _ _ _ h)
theorem uX (h:(aM n).isSome=true) (x:SK):∃ t,(eE (iF n) x.1 x.2).1=x.1++t∧t.length≤256:=by
 obtain ⟨t,h1,h2⟩:=mD (iF n) x.1 x.2;have:=gQ h;rw [this.2.1]at h2;exact ⟨t,h1,aC⟩
theorem Ae {q:mU} (h:AT q=true) (x:SK):(qW x q).1.length≤x.1.length+260:=by
 have hs:(aM q.1).isSome=true:=by
  simp only [AT,eH,Bool.and_eq_true,decide_eq_true_eq]at h;have h:=h.1.1;split at h
  ·assumption
  ·cases h
 obtain ⟨t,h1,h2⟩:=uX hs x;simp [qW,h1,bQ];omega
theorem LC {r:Rec} (h:RecOk r) (l:List UInt8) (ps:List (List UInt8×Nat)):∃ y,(rG r l ps).1=l++y∧y.length≤5002:=by
 obtain ⟨y,h1,h2⟩:=uW r (l++bQ 0) ps h.d h.soa;unfold rG;dsimp only;rw [h1];refine ⟨bQ ((l++bQ 0++y).length - l.length - 2)++y,?_,by simp [bQ];omega⟩;rw [show (l++bQ 0++y).drop (l.length+2)=y by rw [show l.length+2=(l++bQ 0).length by simp [bQ],List.drop_left]];rw [List.append_assoc]
theorem SL {r:Rec} (h:RecOk r) (x:SK):(mS x r).1.length≤x.1.length+6000:=by
 obtain ⟨t,h1,h2⟩:=uX h.nm x;obtain ⟨y,h3,h4⟩:=LC h ((eE (iF r.name) x.1 x.2).1++bQ r.kind.toNat++bQ 1++rF r.ttl.toNat) (eE (iF r.name) x.1 x.2).2;unfold mS;rw [h3,h1];simp [bQ,rF];omega
structure MsgOk (m:MsgR):Prop where
 id:0≤m.id∧m.id≤65535
 op:0≤m.op∧m.op≤15
 rc:0≤m.rcode∧m.rcode≤15
 sz:m.size=0∨(512≤m.size∧m.size≤65535)
 ql:m.qs.length≤10
 qs:∀ q∈m.qs,AT q=true
 nl:m.an.length≤200
 an:∀ r∈m.an,bI r=0
 ul:m.au.length≤200
 au:∀ r∈m.au,bI r=0
 el:m.ex.length≤200
 ex:∀ r∈m.ex,bI r=0
theorem tG {l:List Rec} (h:jK l=true):l.length≤200∧∀ r∈l,bI r=0:=by
 simp only [jK,Bool.and_eq_true,decide_eq_true_eq,Bool.not_eq_true',List.any_eq_false]at h;refine ⟨h.1,fun r hr=>?_⟩
 simpa using h.2 r hr
theorem wG {m:MsgR} (h:dY m=0):MsgOk m:=by
 unfold dY at h;split at h
 ·rename_i c;simp only [Bool.and_eq_true,iK,decide_eq_true_eq,Bool.or_eq_true,List.all_eq_true]at c;obtain ⟨⟨⟨⟨⟨c1,c2⟩,c3⟩,c4⟩,c5,c6⟩,⟨c7,c8⟩,c9⟩:=c;have c7:=tG c7;have c8:=tG c8;have c9:=tG c9;exact ⟨c1,c2,c3,c4,c5,c6,c7.1,c7.2,c8.1,c8.2,c9.1,c9.2⟩
 ·cases h
theorem oU (is:Bool) (n:Nat):flagN is n≤n:=by unfold flagN;split<;>omega
theorem OX (ha:a<65536) (hb:b<65536):a ||| b<65536:=Nat.or_lt_two_pow (x:=a) (y:=b) (n:=16) ha hb
def BJ (m:MsgR):List Nat:=[m.qs.length,m.an.length,m.au.length,m.ex.length+flagN (!decide (m.size=0)) 1]
theorem Af {q:mU} (h:AT q=true):(aM q.1).isSome=true∧1≤q.2∧q.2≤65535:=by
 simp only [AT,eH,Bool.and_eq_true,decide_eq_true_eq]at h;obtain ⟨⟨h1,h2,h3⟩,_⟩:=h;refine ⟨?_,h2,h3⟩;split at h1
 ·assumption
 ·cases h1
theorem BK (v:Value) (l:List mU) (w:World) (hv:Sl 2 w v (cV l)) (hl:l.length≤1000000):Calls Tryz.prog 44 #[v] w (kZ w fun v' w'=>Own w.heap.size 2 25 w' v' (cV l)):=by
 have hlen:=eR l;go_enter Tryz.func44,Tryz.ntmps44
 (repeat' first|((with_reducible refine aZ ?_);go_step)|((with_reducible refine aS ?_);first|refine dN ?_|(refine bG ?_ ?_<;>intro hc))|fail)
 ·have hn:=‹wS v=true›;go_ret;have:cV l=[]:=hv.isNil hn;refine ⟨_,rfl,Ext.refl _,?_⟩;rw [this];exact Own.nil _ _ _ _
 ·refine kE (t:=52) (e:=25) (k:=2) (bytes:=24) zDk rfl ?_;intro v2 w2 x2 s2 o2;refine aB ?_;refine_lift aT ?_;refine bV (B:=w.heap.size) (e:=25) rfl o2 rfl (hv.ext x2) KU x2.size (by simp;omega) ?_;intro v3 w3 o3 m3 _;have x3:=o2.mvx m3 x2 (Nat.le_refl _);refine aB ?_;refine_lift aT ?_;go_ret;exact ⟨_,rfl,x3,by simpa using o3⟩
def nW (size:Int) (stream:Bool):Int:=if stream=true then 65535 else if size<512 then 512 else min size 1232
theorem WF (m:MsgR) (q a u e:Value) (stream:Bool) (w:World) (hm:MsgV w m q a u e):Calls Tryz.prog 92 #[.agg (aP m q a u e).toArray, .bool stream] w (bC w (.int .i64 (nW m.size stream))):=by
 unfold nW;go_enter Tryz.func92,Tryz.ntmps92
 refine_lift mT fun _ _=>?_;refine jO (vs:=aP m q a u e) fun w1 x1 s1 hb1=>?_;refine aB ?_;have hpM:=aA (cs:=aP m q a u e) hb1;unfold aP at hpM;cases stream with
 | true =>
  refine_lift aT ?_;go_ret;exact ⟨rfl,x1⟩
 | false =>
  by_cases c:m.size<512
  ·refine_lift jQ fun _=>?_
   all_goals first
    | (exfalso;omega)
    | skip
   go_ret;rw [if_neg aK,if_pos c];exact ⟨rfl,x1⟩
  ·refine_lift jQ fun _=>?_
   all_goals first
    | (exfalso;omega)
    | skip
   go_ret;rw [if_neg aK,if_neg c];exact ⟨rfl,x1⟩
def bareR (m:MsgR) (code:Int):MsgR:=⟨m.id,true,m.op,false,false,m.want,false,code,m.qs,[],[],[],if m.size=0 then 0 else 1232⟩
def bareN (m:MsgR) (code:Int):MsgR:=⟨m.id,true,m.op,false,false,m.want,false,code,m.qs,[],[],[],0⟩
def aI:Value:=.slice none 0 0
theorem nX (m:MsgR) (q a u e:Value) (code:Int) (w:World) (hm:MsgV w m q a u e) (hl:m.qs.length≤1000):Calls Tryz.prog 93 #[.agg (aP m q a u e).toArray, .int .i64 code] w (kZ w fun r w'=>∃ q',r=.agg (aP (bareR m code) q' aI aI aI).toArray∧Own w.heap.size 2 25 w' q' (cV m.qs)):=by
 go_enter Tryz.func93,Tryz.ntmps93
 refine_lift sF ?_;intro _ _ _;refine jO (vs:=aP m q a u e) fun w1 x1 s1 hb1=>?_;refine aB ?_;refine dX (z:=iW) fun w2 x2 s2 h2=>?_;refine aB ?_;have x02:=x1.trans x2;have hpM:=aA (cs:=aP m q a u e) (x2.at hb1);unfold aP at hpM;have hq2:=hm.qs.ext x02;refine_lift bU fun _ _=>?_;refine cQ (S:=fun w'=>Ext w2 w') zDk ?_;intro w3 x3 _;refine dM 0 ?_;refine aB ?_;refine dM 1 ?_;refine aB ?_;refine dM 2 ?_;refine aB ?_;refine dM 3 ?_;refine aB ?_;refine dM 4 ?_;refine aB ?_;refine dM 5 ?_;refine aB ?_;refine dM 6 ?_;refine aB ?_;refine dM 7 ?_;refine aB ?_;refine dM 8 ?_;refine aB ?_;refine UP 9 10 11 12 15 16 5 (fun b1 b2 b3 b4=>(!b2||b1)&&(!b4||b2)&&(!b4||b3)) (fun b1 b2 b3 b4 => !b2) (fun b1 b2 b3 b4=>b1 && !b4) (fun b1 b2 b3 b4 => !b4) (fun b1 b2 b3 b4=>b2&&b3) (fun b1 b2 b3 b4 v1 v2 v3 w'=>∃ zk,Ext w2 w'∧(b1=true→Own w2.heap.size 2 25 w' v1 (cV m.qs))∧(b2=true→v2=.agg (aP (bareN m code) v1 aI aI aI).toArray)∧(b3=true→v3=.pointer (some ⟨zk,0,none⟩)∧w2.heap.size≤zk∧w'.heap[zk]? = some (.cells (bif b4 then aP (bareN m code) v1 aI aI aI else iW).toArray 54 (0,0)))) ?_ ?_ ?_ ?_ ?_ ?_
 ·exact ⟨0,x3,aX,aX,aX⟩
 ·rintro b1 b2 b3 b4 v1 v2 v3 w4 hq ⟨zk,x4,f1,f2,f3⟩;have hb2:b2=false:=by revert hq;cases b2<;>simp
  have hb4:b4=false:=by revert hq;subst hb2;cases b4<;>simp
  subst hb2 hb4;refine aB ?_;refine sC (BK q m.qs _ (hq2.ext x4) aC) fun v5 w5 x5 o5=>?_;refine aD ⟨x4.trans x5,_,rfl,zk,x4.trans x5,fun _=>o5.weaken x4.size,aX,fun e=>?_⟩;obtain ⟨g1,g2,g3⟩:=f3 e;exact ⟨g1,g2,x5.at g3⟩
 ·rintro b1 b2 b3 b4 v1 v2 v3 w4 hq ⟨zk,x4,f1,f2,f3⟩;have hb1:b1=true:=by revert hq;cases b1<;>simp
  have hb4:b4=false:=by revert hq;cases b4<;>simp
  subst hb1 hb4;refine aB ?_;have q1:=(f1 rfl).sl.slf;refine cG (v:=.agg (aP (bareN m code) v1 aI aI aI).toArray) rfl (Runs.build (vals:=[(0, .int .i64 m.id),(2, .int .i64 m.op),(5, .bool m.want),(1, .bool true),(7, .int .i64 code),(8,v1)]) rfl (by obtain ⟨_,_,_,rfl⟩:=q1;kernel_rfl)) ?_;refine aB ?_;refine aD ⟨x4,_,rfl,zk,x4,fun _=>f1 rfl,fun _=>rfl,f3⟩
 ·rintro b1 b2 b3 b4 v1 v2 v3 w4 hq ⟨zk,x4,f1,f2,f3⟩;have hb4:b4=false:=by revert hq;cases b4<;>simp
  subst hb4;refine aB ?_;refine dX (z:=iW) fun w5 x5 s5 h5=>?_;refine aB ?_;refine aD ⟨x4.trans x5,_,rfl,_,x4.trans x5,fun e=>(f1 e).ext x5,f2,fun _=>⟨rfl,x4.size,h5⟩⟩
 ·rintro b1 b2 b3 b4 v1 v2 v3 w4 hq ⟨zk,x4,f1,f2,f3⟩;have hb2:b2=true:=by revert hq;cases b2<;>simp
  have hb3:b3=true:=by revert hq;cases b3<;>simp
  have hb1:b1=true:=by revert hq;subst hb2;cases b1<;>simp
  subst hb1 hb2 hb3;have g2:=f2 rfl;subst g2;obtain ⟨rfl,g5,g6⟩:=f3 rfl;have q1:=(f1 rfl).sl.one;have n1:=(f1 rfl).neBlock g6 aK;refine aB ?_;have hmb:MsgV w4 (bareN m code) v1 aI aI aI:=⟨(f1 rfl).sl,Sl.nil _ _,Sl.nil _ _,Sl.nil _ _⟩;refine dL (v:=.agg (aP (bareN m code) v1 aI aI aI).toArray) g6 (dR hmb) fun w5 p5=>?_;have x5:=cJ x4 p5;refine aD ⟨x5,rfl,zk,x5,fun _=>(f1 rfl).mv p5.mv (.inr n1),aX,fun _=>⟨rfl,g5,p5.this⟩⟩
 ·rintro v1 v2 v3 w9 ⟨zk,x9,f1,f2,f3⟩;have o1:=f1 rfl;have k2:=f2 rfl;obtain ⟨k3,k4,k5⟩:=f3 rfl;clear f1 f2 f3;subst k2 k3;refine aB ?_;refine cO zDk ?_;have k5':w9.heap[zk]? = some (.cells (aP (bareN m code) v1 aI aI aI).toArray 54 (0,0)):=k5;have hpz:=aA (cs:=aP (bareN m code) v1 aI aI aI) k5';have hpM9:=hpM.ext x9;unfold aP bareN at hpz;have h9:=x9.at h2;clear hpM;have x09:=x02.trans x9;have hmb:MsgV w9 (bareR m code) v1 aI aI aI:=⟨o1.sl,Sl.nil _ _,Sl.nil _ _,Sl.nil _ _⟩;have hlt1:w1.heap.size<w2.heap.size:=aC;by_cases cz:m.size=0
  ·have hbr:bareR m code=bareN m code:=by unfold bareR bareN;rw [if_pos cz]
   refine_lift BX (fun _ _ _=>?_) (fun _ _ _=>?_)
   all_goals first
    | (exfalso;simp_all;done)
    | skip
   refine dB (v:=.agg (aP (bareR m code) v1 aI aI aI).toArray) rfl rfl (by rw [hbr];rfl) h9 (zDk:dG Tryz.prog 54 13=true) rfl (dR hmb) ?_;intro w10 p10;have x10:=cJ x09 p10;refine_lift aT ?_;refine JR (cs:=aP (bareR m code) v1 aI aI aI) p10.this ⟨_,rfl,x10,v1,rfl,?_⟩;exact (eM o1 p10 h9).weaken x02.size
  ·have hbr:bareR m code={ bareN m code with size:=1232 }:=by unfold bareR bareN;rw [if_neg cz]
   refine_lift BX (fun _ _ _=>?_) (fun _ _ _=>?_)
   all_goals first
    | (exfalso;simp_all;done)
    | skip
   refine fA 12 (.int .i64 1232) k5' rfl fun w10 p10=>?_;have hz10:w10.heap[zk]? = some (.cells (aP (bareR m code) v1 aI aI aI).toArray 54 (0,0)):=by rw [hbr];exact p10.this
   have x10:=cJ x9 p10;have h10:=x10.at h2;have o10:=eM o1 p10 k5';have hmb:MsgV w10 (bareR m code) v1 aI aI aI:=⟨o10.sl,Sl.nil _ _,Sl.nil _ _,Sl.nil _ _⟩;have hpz:=aA (cs:=aP (bareR m code) v1 aI aI aI) hz10;rw [hbr]at hpz;unfold aP bareN at hpz;refine_lift bU fun _ _=>?_;refine dB (v:=.agg (aP (bareR m code) v1 aI aI aI).toArray) rfl rfl (by rw [hbr];rfl) h10 (zDk:dG Tryz.prog 54 13=true) rfl (dR hmb) ?_;intro w11 p11;have x11:=cJ (x02.trans x10) p11;refine_lift aT ?_;refine JR (cs:=aP (bareR m code) v1 aI aI aI) p11.this ⟨_,rfl,x11,v1,rfl,?_⟩;exact (eM o10 p11 h10).weaken x02.size
theorem SM (is:Bool) (n:Int) (w:World):Calls Tryz.prog 75 #[.bool is, .int .i64 n] w (bC w (.int .i64 (if is=true then n else 0))):=by
 go_enter Tryz.func75,Tryz.ntmps75
 cases is with
 | true =>
  refine_lift aT ?_;go_ret;exact ⟨rfl,Ext.refl _⟩
 | false =>
  refine_lift aT ?_;go_ret;exact ⟨rfl,Ext.refl _⟩
structure RecW where
 name:List UInt8
 kind:Nat
 cls:Nat
 r3:RdS
def iI (s:List UInt8) (r:RdS):RecW :=
 ⟨(gJ s r).1,((gJ s r).2.number s 2).1,(((gJ s r).2.number s 2).2.number s 2).1,(((gJ s r).2.number s 2).2.number s 2).2⟩
def MR (s:List UInt8) (last:Bool) (n i:Nat) (x:RecW):RdS :=
 ((x.r3.number s 4).2.number s 2).2.want (last&&(decide ((i:Int)=(n:Int) - 1)&&(decide (x.name=[])&&(decide ((512:Int)≤(x.cls:Nat))&&(decide (((x.r3.number s 4).1:Int)=0)&&decide ((((x.r3.number s 4).2.number s 2).1:Int)=0)))))) 2
def rH (s:List UInt8) (x:RecW):Nat×RdS:=(x.r3.want (decide (((x.cls:Nat):Int)=1)) 2).number s 4
def wH (s:List UInt8) (x:RecW):List UInt8×RdS:=((rH s x).2.number s 2).2.data s x.kind ((rH s x).2.number s 2).1
def GA (s:List UInt8) (x:RecW):Rec:=⟨x.name,x.kind,(rH s x).1,(wH s x).1⟩
def yS (s:List UInt8) (i:Nat) (x:RecW):RdS:=(wH s x).2.want (decide ((i:Int)<200)&&decide (bI (GA s x)=0)) 2
def sJ (s:List UInt8) (last:Bool) (n:Nat):Nat→Nat→List Rec→RdS→List Rec×Nat×RdS
 | 0,_,l,r=>(l,0,r)
 | f+1,i,l,r=>if r.e≠0 then (l,0,r) else
   if (iI s r).kind=41∧(iI s r).r3.e=0 then (l,(iI s r).cls,MR s last n i (iI s r))
   else sJ s last n f (i+1) (l ++ [GA s (iI s r)]) (yS s i (iI s r))
def jM (s:List UInt8) (r:RdS) (n:Nat) (last:Bool):List Rec×Nat×RdS:=sJ s last n n 0 [] (r.want (decide ((n:Int)≤200+(if last=true then 1 else 0))) 2)
def GB (w:World) (b:Nat) (s:List UInt8) (o:List Rec×Nat×RdS) (e:Ending) (w':World):Prop:=∃ v,e=.returned (.tuple #[v, .int .i64 (o.2.1:Nat)])∧Own w.heap.size 4 37 w' v (aF o.1)∧dF w' b s o.2.2∧Mv (some b) w w'
theorem MS {r:RdS} (hr:r.Ok s) (hs:s.length≤100000000) (kind:Int) {n:Int} (hn:0≤n):(r.data s kind n).2.Ok s:=by
 have hw:=hr.want (decide (r.at_+n≤(s.length:Int))) (er:=3) aK;unfold RdS.data;dsimp only;split
 ·exact hw
 ·refine RdS.Ok.want ?_ _ aK;split
  ·exact (nP hw hs).2
  ·split
   ·exact (nP (hw.take hs aC) hs).2
   ·split
    ·exact (nP (nP hw hs).2 hs).2.take hs aC
    ·exact hw.take hs hn
theorem pR {r:RdS} (hr:r.Ok s) (hs:s.length≤100000000):(iI s r).r3.Ok s:=cE (cE (rE hr hs).2 hs aC) hs aC
theorem LD {x:RecW} (hr:x.r3.Ok s) (hs:s.length≤100000000) (i:Nat):(yS s i x).Ok s:=by
 unfold yS wH rH;exact RdS.Ok.want (MS (cE (cE (hr.want _ aK) hs aC) hs aC) hs _ (Int.natCast_nonneg _)) _ aK
theorem wI {r:RdS} (h:dF w b s r) (hr:r.Ok s) (hs:s.length≤1000000) (n:Nat) (hn1:n≤65535) (last:Bool):Calls Tryz.prog 88 #[.pointer (some ⟨b,0,none⟩), .int .i64 n, .bool last] w (GB w b s (jM s r n last)):=by
 have hs8:s.length≤100000000:=aC;have hwr:=hr.want (decide ((n:Int)≤200+(if last=true then 1 else 0))) (er:=2) aK;have hgo:sJ s last n n 0 [] (r.want (decide ((n:Int)≤200+(if last=true then 1 else 0))) 2)=jM s r n last:=rfl;generalize jM s r n last=RES at *;go_enter Tryz.func88,Tryz.ntmps88
 refine_lift bU fun _ _=>?_;refine cB (SM last 1 _) fun w1 x1=>?_;have h1:dF w1 b s r:=x1.at h;have hcw:=gP h1 (decide ((n:Int)≤200+(if last=true then 1 else 0))) 2;have hfl:(if last=true then (1:Int)else 0)≤1∧0≤(if last=true then (1:Int)else 0):=by split<;>decide
 generalize hF:(if last=true then (1:Int)else 0)=F at *;generalize r.want (decide ((n:Int)≤200+F)) 2=r0 at *;refine_lift aT ?_;refine eZ hcw fun w2 h2 m2=>?_;have m02:=(x1.mv (some b)).trans m2;have hbw:b<w.heap.size:=(Array.getElem?_eq_some_iff.1 h).1;refine_lift bU fun _ _=>?_;go_loopw [6,7,8,9,10,11,12] (fun lv sz iv _ _ _ _ wr=>∃ (i:Nat) (l:List Rec) (r':RdS),i≤n∧iv=.int .i64 i∧sz=.int .i64 0∧Own w.heap.size 4 37 wr lv (aF l)∧l.length=i∧dF wr b s r'∧r'.Ok s∧Mv (some b) w wr∧sJ s last n (n - i) i l r'=RES) (fun _ _ iv _ _ _ _ _=>n - (intOf iv).toNat)
 case atStart=>exact ⟨0,[],r0,Nat.zero_le _,rfl,rfl,Own.nil _ _ _ _,rfl,h2,hwr,m02,hgo⟩
 case round =>
  obtain ⟨i,l,r',hi,rfl,rfl,ho,hli,hR,hok,hm,hg⟩:=hrel;have hpr:=aA (cs:=yR s r') hR;by_cases c1:i<n
  ·by_cases c2:r'.e=0
   ·obtain ⟨f',hf'⟩:∃ f',n - i=f'+1:=⟨n - i - 1,aC⟩;rw [hf']at hg;unfold sJ at hg;rw [if_neg (by simpa using c2)]at hg;have hX:=pR hok hs8;have hXe:iI s r'=⟨(gJ s r').1,((gJ s r').2.number s 2).1,(((gJ s r').2.number s 2).2.number s 2).1,(((gJ s r').2.number s 2).2.number s 2).2⟩:=rfl;obtain ⟨hn1',hn2'⟩:=rE hok hs8;have hcn:=LB hR hok hs8;generalize hN:gJ s r'=N at *;obtain ⟨nm,q1⟩:=N;dsimp only at *;have hq2:=cE (n:=2) hn2' hs8 aC;have hk1:=dS s q1 2 aC;have hc1:=fun w' (h':dF w' b s q1)=>eJ h' hn2' hs8 2 aC aC;generalize q1.number s 2=K at *;obtain ⟨kind,q2⟩:=K;dsimp only at *;have hq3:=cE (n:=2) hq2 hs8 aC;have hk2:=dS s q2 2 aC;have hc2:=fun w' (h':dF w' b s q2)=>eJ h' hq2 hs8 2 aC aC;generalize q2.number s 2=C at *;obtain ⟨cls,q3⟩:=C;dsimp only at *;rw [hXe]at hg;have hk1':kind<65536:=by simpa using hk1
    have hk2':cls<65536:=by simpa using hk2
    (repeat' first|((with_reducible refine aZ ?_);go_step)|((with_reducible refine aS ?_);first|refine dN ?_|(refine bG ?_ ?_<;>intro hc))|fail)
    all_goals first
     | (exfalso;omega)
     | skip
    refine eZ hcn fun w3 h3 m3=>?_;have ho3:=ho.mv m3 (.inr (ho.neBlock hR aK));refine_lift aT ?_;refine aG (v:=.agg #[aE nm, .int .i64 0, .int .i64 0,aE []]) (Runs.build rfl (by kernel_rfl)) ?_;refine aB ?_;refine dX (z:=iR) fun w4 x4 s4 h4=>?_;refine aB ?_;refine dL (v:=.agg #[aE nm, .int .i64 0, .int .i64 0,aE []]) h4 (gE rfl rfl rfl rfl) fun w5 p5=>?_;have x5:=cJ x4 p5;have hx5:w5.heap[w3.heap.size]? = some (.cells [aE nm, .int .i64 0, .int .i64 0,aE []].toArray 37 (0,0)):=p5.this;have hb5:dF w5 b s q1:=x5.at h3;have ho5:=ho3.ext x5;have hv5:=KY ho3 w3.heap.size (Nat.le_refl _);have hm5:=(hm.trans m3).trans (x5.mv (some b));have hbn:b<w3.heap.size:=(Array.getElem?_eq_some_iff.1 h3).1;have hne:some w3.heap.size≠some b:=by intro e;have:=Option.some.inj e;omega
    have hwc:w.heap.size≤w3.heap.size:=(hm.trans m3).size;generalize w3.heap.size=c at *;clear h4 p5 x4 hpr hcn;refine_lift bU fun _ _=>?_;refine eZ (hc1 _ hb5) fun w6 h6 m6=>?_;have hx6:=m6.at hx5 hne;have hpx6:=aA hx6;have ho6:=ho5.mv m6 (.inr (ho5.neBlock hb5 aK));refine_lift aT ?_;refine fA 1 (.int .i64 (kind:Nat)) hx6 rfl fun w7 p7=>?_;have hx7:w7.heap[c]? = some (.cells [aE nm, .int .i64 (kind:Nat), .int .i64 0,aE []].toArray 37 (0,0)):=p7.this;have h7:dF w7 b s q2:=p7.mv.at h6 (by intro e;exact hne e.symm);have ho7:=ho6.mv p7.mv hv5;have hm7:=(hm5.trans m6).fresh p7.mv hwc;clear hpx6;refine_lift bU fun _ _=>?_;refine eZ (hc2 _ h7) fun w8 h8 m8=>?_;have hx8:=m8.at hx7 hne;have hpx8:=aA hx8;have hp8:=aA (cs:=yR s q3) h8;have ho8:=ho7.mv m8 (.inr (ho7.neBlock h7 aK));have hm8:=hm7.trans m8;by_cases ck:kind=41∧q3.e=0
    ·obtain ⟨ck,ce⟩:=ck;rw [if_pos ⟨ck,ce⟩]at hg
     (repeat' first|((with_reducible refine aZ ?_);go_step)|((with_reducible refine aS ?_);first|refine dN ?_|(refine bG ?_ ?_<;>intro hc))|fail)
     all_goals first
      | (exfalso;omega)
      | skip
     have hq4:=cE (n:=4) hq3 hs8 aC;have hk3:=dS s q3 4 aC;have hc3:=eJ h8 hq3 hs8 4 aC aC;generalize hT:q3.number s 4=T at *;obtain ⟨ttl,q4⟩:=T;dsimp only at *;have hk4:=dS s q4 2 aC;have hc4:=fun w' (h':dF w' b s q4)=>eJ h' hq4 hs8 2 aC aC;generalize hD:q4.number s 2=D at *;obtain ⟨dl,q5⟩:=D;dsimp only at *;refine eZ hc3 fun w9 h9 m9=>?_;have hx9:=m9.at hx8 hne;have ho9:=ho8.mv m9 (.inr (ho8.neBlock h8 aK));have hm9:=hm8.trans m9;refine_lift aT ?_;refine eZ (hc4 _ h9) fun w10 h10 m10=>?_;have hx10:=m10.at hx9 hne;have hpx10:=aA hx10;have ho10:=ho9.mv m10 (.inr (ho9.neBlock h9 aK));have hm10:=hm9.trans m10;clear hpx8 hp8;have hcw2:=gP h10 (last&&(decide ((i:Int)=(n:Int) - 1)&&(decide (nm=[])&&(decide ((512:Int)≤(cls:Nat))&&(decide ((ttl:Int)=0)&&decide ((dl:Int)=0)))))) 2;have hg2:(l,cls,q5.want (last&&(decide ((i:Int)=(n:Int) - 1)&&(decide (nm=[])&&(decide ((512:Int)≤(cls:Nat))&&(decide ((ttl:Int)=0)&&decide ((dl:Int)=0)))))) 2)=RES:=by rw [← hg];simp only [MR,hT,hD]
     generalize q5.want (last&&(decide ((i:Int)=(n:Int) - 1)&&(decide (nm=[])&&(decide ((512:Int)≤(cls:Nat))&&(decide ((ttl:Int)=0)&&decide ((dl:Int)=0)))))) 2=qe at *;clear hg
     (repeat' first|((with_reducible refine aZ ?_);go_step)|((with_reducible refine aS ?_);first|refine dN ?_|(refine bG ?_ ?_<;>intro hc))|fail)
     all_goals refine bF (vs:=[.pointer (some ⟨b,0,none⟩), .bool (last&&(decide ((i:Int)=(n:Int) - 1)&&(decide (nm=[])&&(decide ((512:Int)≤(cls:Nat))&&(decide ((ttl:Int)=0)&&decide ((dl:Int)=0)))))), .int .i64 2]) (enters_of Tryz.func85 rfl rfl) rfl ?_ hcw2 ?_
     all_goals first
      | (refine congrArg (fun z=>[Value.pointer (some ⟨b,0,none⟩),Value.bool z, .int .i64 2]) ?_;simp only [*,decide_true,decide_false,Bool.and_true,Bool.true_and,Bool.and_false,Bool.false_and,and_self,not_false_eq_true];done)
      | skip
     all_goals rintro _ w11 ⟨rfl,h11,m11⟩
     all_goals refine ⟨_,rfl,?_⟩
     all_goals refine aB ?_
     all_goals have ho11:=ho10.mv m11 (.inr (ho10.neBlock h10 aK))
     all_goals have hm11:=hm10.trans m11
     all_goals refine_lift aT ?_
     all_goals go_ret2
     all_goals rw [← hg2]
     all_goals exact ⟨_,rfl,ho11,h11,hm11⟩
    ·rw [if_neg ck]at hg;have hw3:=hq3.want (decide ((cls:Int)=1)) (er:=2) aK;have hcw3:=gP h8 (decide ((cls:Int)=1)) 2;have hN9:yS s i ⟨nm,kind,cls,q3⟩=(wH s ⟨nm,kind,cls,q3⟩).2.want (decide ((i:Int)<200)&&decide (bI (GA s ⟨nm,kind,cls,q3⟩)=0)) 2:=rfl;have hR9:GA s ⟨nm,kind,cls,q3⟩=⟨nm,kind,(rH s ⟨nm,kind,cls,q3⟩).1,(wH s ⟨nm,kind,cls,q3⟩).1⟩:=rfl;have hD9:wH s ⟨nm,kind,cls,q3⟩=((rH s ⟨nm,kind,cls,q3⟩).2.number s 2).2.data s kind ((rH s ⟨nm,kind,cls,q3⟩).2.number s 2).1:=rfl;have hT9:rH s ⟨nm,kind,cls,q3⟩=(q3.want (decide ((cls:Int)=1)) 2).number s 4:=rfl;generalize q3.want (decide ((cls:Int)=1)) 2=y1 at *;have hy2:=cE (n:=4) hw3 hs8 aC;have hk3:=dS s y1 4 aC;have hc3:=fun w' (h':dF w' b s y1)=>eJ h' hw3 hs8 4 aC aC;generalize y1.number s 4=T at *;obtain ⟨ttl,y2⟩:=T;rw [hT9]at hD9 hR9;dsimp only at *;have hy3:=cE (n:=2) hy2 hs8 aC;have hk4:=dS s y2 2 aC;have hc4:=fun w' (h':dF w' b s y2)=>eJ h' hy2 hs8 2 aC aC;generalize y2.number s 2=D at *;obtain ⟨dl,y3⟩:=D;dsimp only at *;have hk4':dl<65536:=by simpa using hk4
     have hy4:=MS hy3 hs8 kind (n:=(dl:Nat)) (Int.natCast_nonneg _);have hc5:=fun w' (h':dF w' b s y3)=>Ab h' hy3 hs kind (dl:Nat) (Int.natCast_nonneg _) aC;generalize y3.data s kind (dl:Nat)=E9 at *;obtain ⟨dat,y4⟩:=E9;rw [hD9]at hR9 hN9;dsimp only at *;rw [hR9]at hN9 hg;rw [hN9]at hg;clear hN9 hR9 hD9 hT9;have hy5:=hy4.want (decide ((i:Int)<200)&&decide (bI ⟨nm,kind,ttl,dat⟩=0)) (er:=2) aK;have hc6:=fun w' (h':dF w' b s y4)=>gP h' (decide ((i:Int)<200)&&decide (bI ⟨nm,kind,ttl,dat⟩=0)) 2;generalize y4.want (decide ((i:Int)<200)&&decide (bI ⟨nm,kind,ttl,dat⟩=0)) 2=y5 at *
     (repeat' first|((with_reducible refine aZ ?_);go_step)|((with_reducible refine aS ?_);first|refine dN ?_|(refine bG ?_ ?_<;>intro hc))|fail)
     all_goals first
      | (exfalso;omega)
      | skip
     all_goals refine gS hcw3 ?_
     all_goals rintro _ w9 ⟨rfl,h9,m9⟩
     all_goals refine ⟨_,rfl,?_⟩
     all_goals refine aB ?_
     all_goals have hx9:=m9.at hx8 hne
     all_goals have hpx9:=aA hx9
     all_goals have ho9:=ho8.mv m9 (.inr (ho8.neBlock h8 aK))
     all_goals have hm9:=hm8.trans m9
     all_goals clear hpx8 hp8
     all_goals refine_lift bU fun _ _=>?_
     all_goals refine gS (hc3 _ h9) ?_
     all_goals rintro _ w10 ⟨rfl,h10,m10⟩
     all_goals refine ⟨_,rfl,?_⟩
     all_goals refine aB ?_
     all_goals have hx10:=m10.at hx9 hne
     all_goals have hpx10:=aA hx10
     all_goals have ho10:=ho9.mv m10 (.inr (ho9.neBlock h9 aK))
     all_goals have hm10:=hm9.trans m10
     all_goals clear hpx9
     all_goals refine_lift aT ?_
     all_goals refine fA 2 (.int .i64 (ttl:Nat)) hx10 rfl ?_
     all_goals intro w11 p11
     all_goals have hx11:w11.heap[c]? = some (.cells [aE nm, .int .i64 (kind:Nat), .int .i64 (ttl:Nat),aE []].toArray 37 (0,0)):=p11.this
     all_goals have h11:dF w11 b s y2:=p11.mv.at h10 (by intro e;exact hne e.symm)
     all_goals have ho11:=ho10.mv p11.mv hv5
     all_goals have hm11:=hm10.fresh p11.mv hwc
     all_goals clear hpx10
     all_goals refine_lift bU fun _ _=>?_
     all_goals refine aO 5 (fun w'=>Pts w' (.pointer (some ⟨c,0,none⟩)) [aE nm, .int .i64 (kind:Nat), .int .i64 (ttl:Nat),aE []]) zDk ?_
     all_goals intro w12 x12 _
     all_goals have hx12:=x12.at hx11
     all_goals have h12:dF w12 b s y2:=x12.at h11
     all_goals have ho12:=ho11.ext x12
     all_goals have hm12:=hm11.trans (x12.mv _)
     all_goals refine ⟨aA hx12,?_⟩
     all_goals refine bE 0 ?_;refine bE 1 ?_;refine bE 2 ?_;refine bE 3 ?_
     all_goals refine dH 4 ?_
     all_goals refine gS (hc4 _ h12) ?_
     all_goals rintro _ w13 ⟨rfl,h13,m13⟩
     all_goals refine ⟨_,rfl,?_⟩
     all_goals refine aB ?_
     all_goals have hx13:=m13.at hx12 hne
     all_goals have ho13:=ho12.mv m13 (.inr (ho12.neBlock h12 aK))
     all_goals have hm13:=hm12.trans m13
     all_goals refine aD ⟨aR (aA hx13),?_⟩
     all_goals refine dH 5 ?_
     all_goals refine gS (hc5 _ h13) ?_
     all_goals rintro _ w14 ⟨rfl,h14,m14⟩
     all_goals refine ⟨_,rfl,?_⟩
     all_goals refine aB ?_
     all_goals have hx14:=m14.at hx13 hne
     all_goals have hpx14:=aA hx14
     all_goals have ho14:=ho13.mv m14 (.inr (ho13.neBlock h13 aK))
     all_goals have hm14:=hm13.trans m14
     all_goals refine aD ⟨aN rfl,?_⟩
     all_goals refine dH 6 ?_
     all_goals ((with_reducible refine aS ?_);(first|(refine gV ?_;refine eS ?_)|(refine lY ?_;refine nR ?_;(with_reducible refine aS ?_);refine gV ?_;refine eS ?_)))
     all_goals refine aD ⟨aN rfl,?_⟩
     all_goals refine dH 7 ?_
     all_goals refine fA 3 (aE dat) hx14 rfl ?_
     all_goals intro w15 p15
     all_goals have hx15:w15.heap[c]? = some (.cells [aE nm, .int .i64 (kind:Nat), .int .i64 (ttl:Nat),aE dat].toArray 37 (0,0)):=p15.this
     all_goals have hpx15:=aA hx15
     all_goals have h15:dF w15 b s y4:=p15.mv.at h14 (by intro e;exact hne e.symm)
     all_goals have ho15:=ho14.mv p15.mv hv5
     all_goals have hm15:=hm14.fresh p15.mv hwc
     all_goals clear hpx14
     all_goals refine aD ⟨aN rfl,?_⟩
     all_goals refine jP ?_
     all_goals refine_lift BX (fun _ _ hc=>?_) (fun _ _ hc=>?_)
     all_goals first
      | (refine cB (Cf ⟨nm,kind,ttl,dat⟩ _) fun w16 x16=>?_
         have h16:=x16.at h15;have hx16:=x16.at hx15;have hpx16:=aA hx16;have ho16:=ho15.ext x16;have hm16:=hm15.trans (x16.mv _);refine_lift aT ?_)
      | (have h16:=h15
         have hx16:=hx15;have hpx16:=hpx15;have ho16:=ho15;have hm16:=hm15)
     all_goals clear hpx15
     all_goals refine bF (vs:=[.pointer (some ⟨b,0,none⟩), .bool (decide ((i:Int)<200)&&decide (bI ⟨nm,kind,ttl,dat⟩=0)), .int .i64 2]) (enters_of Tryz.func85 rfl rfl) rfl ?_ (hc6 _ h16) ?_
     all_goals first
      | (refine congrArg (fun z=>[Value.pointer (some ⟨b,0,none⟩),Value.bool z, .int .i64 2]) ?_;simp [*];done)
      | skip
     all_goals rintro _ w17 ⟨rfl,h17,m17⟩
     all_goals refine ⟨_,rfl,?_⟩
     all_goals refine aB ?_
     all_goals have hpx17:Pts w17 (.pointer (some ⟨c,0,none⟩)) [aE nm, .int .i64 (kind:Nat), .int .i64 (ttl:Nat),aE dat]:=aA (m17.at hx16 hne)
     all_goals have ho17:=ho16.mv m17 (.inr (ho16.neBlock h16 aK))
     all_goals have hm17:=hm16.trans m17
     all_goals clear hpx16
     all_goals refine_lift aT ?_
     all_goals refine oD (e:=37) (k:=4) (bytes:=48) (xs:=[.agg #[aE nm, .int .i64 (kind:Nat), .int .i64 (ttl:Nat),aE dat]]) (by simp [Value.cells]) ?_
     all_goals intro u18 w18 x18 _ sl18 o18
     all_goals refine aB ?_
     all_goals have h18:dF w18 b s y5:=x18.at h17
     all_goals have ho18:=ho17.ext x18
     all_goals have hm18:=hm17.trans (x18.mv _)
     all_goals refine bV (v0:=u6) (es:=aF l) (fs:=[[aE nm, .int .i64 (kind:Nat), .int .i64 (ttl:Nat),aE dat]]) rfl ho18 rfl sl18 (by simp [aE,Value.oneCell']) hm18.size (by simp [aF];omega) ?_
     all_goals intro v19 w19 o19 m19 _
     all_goals refine aB ?_
     all_goals have h19:dF w19 b s y5:=m19.at h18 (fun e=>(ho18.neBlock h18 aK) e.symm)
     all_goals have hm19:=hm18.fresh' m19 (fun c hc=>(ho18.block c hc).1)
     all_goals refine_lift aT ?_
     all_goals refine ⟨⟨i+1,l ++ [⟨nm,kind,ttl,dat⟩],y5,aC,by go_num,rfl,by simpa [aF,Rec.cells]using o19,by simp [hli],h19,hy5,hm19,?_⟩,by simp [intOf];omega⟩
     all_goals rw [show n - (i+1)=f' by omega]
     all_goals exact hg
   ·obtain ⟨f',hf'⟩:∃ f',n - i=f'+1:=⟨n - i - 1,aC⟩;rw [hf']at hg;unfold sJ at hg;rw [if_pos c2]at hg;refine_lift ZC (fun hc=>?_) (fun hc _=>?_)
    all_goals first
     | (exfalso;omega)
     | skip
    go_ret2;rw [← hg];exact ⟨_,rfl,ho,hR,hm⟩
  ·have hn0:n - i=0:=aC;rw [hn0]at hg;unfold sJ at hg;refine_lift jQ fun hc=>?_
   all_goals first
    | (exfalso;omega)
    | skip
   go_ret2;rw [← hg];exact ⟨_,rfl,ho,hR,hm⟩
end Go.Proofs.X
