/- Laws and walks that the proof of the statement is made of (part 3). -/
import Derived.Test.YtfkckeaadnoeiaaGreatP2
set_option linter.unusedSimpArgs false
set_option linter.unusedVariables false
set_option maxRecDepth 100000
set_option maxHeartbeats 20000000
namespace Go.Proofs.X
open Go.RowKit
variable {cs:Array Value} {held:Bool} {qt:Int} {ps rs:List (List UInt8×Nat)} {ls:List (List UInt8)} {css css0 es:List (List Value)} {d l m n o qn s t x y z:List UInt8} {B a b base c e fuel i j k p q:Nat} {fz:Nat×Nat} {row:Option Nat} {r u v:Value} {w w' w0 w1 w2:World}
theorem UU {b:UInt8} (h:65≤b.toNat) (h2:b.toNat≤90):IntKind.wrap .u8 (IntKind.wrap .u8 ((b.toNat:Int) - 65)+97)=((vJ b).toNat:Int):=by
 rw [vJ,if_pos ⟨h,h2⟩];rw [UInt8.toNat_add];simp only [IntKind.wrap,IntKind.bits,IntKind.signed];have:(32:UInt8).toNat=32:=rfl;rw [this];simp;omega
theorem zN (l:List UInt8) (k:Nat) (b:UInt8) (h:l[k]? = some b):(aL l)[k]? = some [.int .u8 (b.toNat:Nat)]:=by simp [aL,h]
theorem zO (l:List UInt8) (k:Nat) (b:UInt8):(aL l).set k [.int .u8 (b.toNat:Nat)]=aL (l.set k b):=by simp [aL,List.map_set]
theorem Fv (l:List UInt8) (w:World) (hl:l.length≤254):Calls Tryz.prog 100 #[aE l] w (bC w (aE (low l))):=by
 go_enter Tryz.func100,Tryz.ntmps100
 refine_lift fN fun _ _=>?_;refine rP (e:=5) (l:=l) rfl rfl zDk zDk aC ?_;intro v w1 x1 o1;refine aB ?_;have sl:=o1.sl;refine_lift fN fun _ _=>?_;clear sl;have hlb:(aL l).length=l.length:=by simp [aL]
 rw [hlb];go_loopw [10] (fun i wr=>∃ k:Nat,k≤l.length∧i=.int .i64 k∧Ext w wr∧Own w.heap.size 1 5 wr v (aL (nS l k))) (fun i _=>l.length - (intOf i).toNat)
 case atStart=>exact ⟨0,Nat.zero_le _,rfl,x1,by simpa [CT]using o1⟩
 case round =>
  obtain ⟨k,hk,rfl,hx,ho⟩:=hrel;have hsl:=ho.sl;have hlen:(aL (nS l k)).length=l.length:=by simp [aL,qJ]
  by_cases hlt:k<l.length
  ·have hp:=hsl.elem (zN _ _ _ (zH l k hlt))
   (repeat' first|((with_reducible refine aZ ?_);go_step)|((with_reducible refine aS ?_);first|refine dU ?_|(refine bG ?_ ?_<;>intro hc))|fail)
   ·rename_i h1 h2;refine fZ (c:=.int .u8 _) (i:=k) rfl rfl rfl ho aC zDk rfl ?_;intro w2 o2 m2;have hx2:=ho.mvx m2 hx (Nat.le_refl _);have e2:(aL (nS l k)).set k [Value.int .u8 (IntKind.u8.wrap (IntKind.u8.wrap (↑l[k].toNat - 65)+97))]=aL (nS l (k+1)):=by
     rw [vK l k hlt,← zO,UU aC aC]
    rw [e2]at o2;clear hx ho hsl hp;refine_lift cL ?_;exact ⟨⟨k+1,aC,rfl,hx2,o2⟩,by simp [intOf];omega⟩
   ·refine ⟨⟨k+1,aC,rfl,hx,?_⟩,by simp [intOf];omega⟩;rw [vL l k hlt (EX aC)];exact ho
   ·refine ⟨⟨k+1,aC,rfl,hx,?_⟩,by simp [intOf];omega⟩;rw [vL l k hlt (EX aC)];exact ho
  ·have:k=l.length:=aC;subst this;rw [HH]at hsl;refine_lift yL fun _=>?_;go_ret;exact ⟨rfl,hx⟩
def FA (w:World) (b:Nat):Nat:=match w.cell? ⟨b,0,none⟩with|some (.string s)=>s.size|_=>0
theorem zP {t:TypeId} {fr:Nat×Nat} (h:w.heap[b]? = some (.cells #[aE l] t fr)):FA w b=l.length:=by
 unfold FA;rw [cell_of_row w b 0 _ t fr h];simp [aE,fD,-ByteArray.size_data]
def MA (P:Program) (l b:Nat) (lp:Loop) (J:List (List UInt8)→World→Prop) (Jx:World→Prop):Prop :=
 (∀ pre x rest W,pre.length<254→J pre W→W.heap[b]? = some (.cells #[aE rest] 23 (0,0))→RoundIn Fence.wide 0 P l lp.fn ((lp.params.zip #[aE x, .bool true]).foldl (fun tmps (t,a)=>tmps.setIfInBounds t a) lp.tmps) lp.assign lp.body W
    fun e W'=>e=.returned (.bool true)∧J (pre ++ [x]) W'∧W'.heap[b]? = some (.cells #[aE rest] 23 (0,0))) ∧
 (∀ pre W,J pre W→RoundIn Fence.wide 0 P l lp.fn ((lp.params.zip #[aE [], .bool false]).foldl (fun tmps (t,a)=>tmps.setIfInBounds t a) lp.tmps) lp.assign lp.body W fun e W'=>e=.returned (.bool false)∧Jx W')
theorem Fw (l b:Nat) (lp:Loop) (J:List (List UInt8)→World→Prop) (Jx:World→Prop) (hp:lp.params.size=2) (hL:∀ pre W,J pre W→W.heap[l]? = some (.loop lp))
 (hput:∀ pre W W' o,J pre W→Put W W' b o→J pre W') (hy:MA Tryz.prog l b lp J Jx) (nm:List UInt8) (w:World) (h0:J [] w) (hb:w.heap[b]? = some (.cells #[aE nm] 23 (0,0))) (hlen:nm.length≤254) :
 Calls Tryz.prog 202 #[.func (.yield l) #[] #[], .pointer (some ⟨b,0,none⟩)] w fun e w'=>e=.returned (.tuple #[])∧match hY nm with|some ls=>J ls w'|none=>Jx w':=by
 go_enter Tryz.func202,Tryz.ntmps202
 iterate 2 go_step
 go_loopw [3] (fun _ wr=>∃ pre rest,J pre wr∧wr.heap[b]? = some (.cells #[aE rest] 23 (0,0))∧pre.length+rest.length≤254∧hY nm=(hY rest).map (pre ++ ·)) (fun _ wr=>FA wr b)
 case atStart=>exact ⟨[],nm,h0,hb,by simpa using hlen,aX⟩
 case round =>
  obtain ⟨pre,rest,hJ,hbr,hrl,hpar⟩:=hrel;have hc:=aA (cs:=[aE rest]) hbr;cases rest with
  | nil =>
   refine_lift cL ?_;refine bodyPost_end (results_none rfl _ _ _) rfl ⟨rfl,?_⟩;rw [hpar,vI]
   simpa using hJ
  | cons k t =>
   have hk:k.toNat<256:=k.toNat_lt;have hlt:t.length≤253:=by simp only [List.length_cons]at hrl;omega
   have hfalse:(k.toNat<1∨63<k.toNat∨t.length<k.toNat)→hY nm=none:=by
    intro h;rw [hpar,mG,if_pos h];rfl
   have htrue:¬ (k.toNat<1∨63<k.toNat∨t.length<k.toNat)→hY nm=(hY (t.drop k.toNat)).map ((pre ++ [t.take k.toNat]) ++ ·):=by
    intro h;rw [hpar,mG,if_neg h,Option.map_map]
    congr 1
    funext x
    simp
   have Hp:=Lib.hid hpar;clear hpar
   repeat' (first|(refine eP (id:=3) ?_)|(refine eP (id:=4) ?_)|((with_reducible apply qG);(rfl);exact rn;refine aB ?_)|(with_reducible (apply qH))|((with_reducible refine aS ?_);(first|(refine gV ?_;refine JZ ?_)|(refine lY ?_;first|refine nR ?_|refine GR ?_|refine GW ?_|refine GT ?_|((first|refine EU ?_ ?_|refine EV ?_ ?_)<;>intro hc))))|((fail_if_success (with_reducible refine aS ?_));go_step))
   rotate_left
   ·refine sN (lp:=lp) rfl rfl rfl (hL _ _ hJ) (by simp [hp]) (hy.1 _ _ _ _ (by simp only [List.length_cons]at hrl;omega) hJ hbr) ?_;rintro e W' ⟨rfl,hJ',hb'⟩;refine ⟨_,rfl,?_⟩;simp only [List.set_cons_succ,List.set_cons_zero];rw [show List.drop 1 (List.take (k.toNat+1) (k::t))=t.take k.toNat by simp]at hJ';have hc2:=aA (cs:=[aE (k::t)]) hb';clear hJ;have hlt2:k.toNat≤t.length:=by simp only [List.length_cons]at *;omega
    repeat' (first|(refine eP (id:=3) ?_)|(refine eP (id:=4) ?_)|((with_reducible apply qG);(rfl);exact rn;refine aB ?_)|(with_reducible (apply qH))|((with_reducible refine aS ?_);(first|(refine gV ?_;refine JZ ?_)|(refine lY ?_;first|refine nR ?_|refine GR ?_|refine GW ?_|refine GT ?_|((first|refine EU ?_ ?_|refine EV ?_ ?_)<;>intro hc))))|((fail_if_success (with_reducible refine aS ?_));go_step))
    refine eA (v:=aE (List.drop (k.toNat+1) (k::t))) rfl rfl rfl hb' zDk rfl ?_;intro W2 hput2;refine_lift cL ?_;have hb2:=hput2.this;have hJ2:=hput _ _ _ _ hJ' hput2;have hd:List.drop (k.toNat+1) (k::t)=t.drop k.toNat:=aX
    go_roundw
    case rel=>exact ⟨pre ++ [t.take k.toNat],t.drop k.toNat,hJ2,by rw [← hd];exact hb2,by simp at hrl ⊢;omega,htrue aC⟩
    case measure =>
     rw [zP hb2,zP hbr];simp;omega
   all_goals
    refine sN (lp:=lp) rfl rfl rfl (hL _ _ hJ) (by simp [hp]) (hy.2 _ _ hJ) ?_;rintro e W' ⟨rfl,hx⟩;refine ⟨_,rfl,?_⟩;simp only [List.set_cons_succ,List.set_cons_zero]
    repeat' (first|(refine eP (id:=3) ?_)|(refine eP (id:=4) ?_)|((with_reducible apply qG);(rfl);exact rn;refine aB ?_)|(with_reducible (apply qH))|((with_reducible refine aS ?_);(first|(refine gV ?_;refine JZ ?_)|(refine lY ?_;first|refine nR ?_|refine GR ?_|refine GW ?_|refine GT ?_|((first|refine EU ?_ ?_|refine EV ?_ ?_)<;>intro hc))))|((fail_if_success (with_reducible refine aS ?_));go_step))
    refine bodyPost_ret (results_none rfl _ _ _) rfl ⟨rfl,?_⟩;rw [hfalse (by simp only [List.length_cons]at *;omega)];exact hx
theorem Fx (nm:List UInt8) (w:World):Calls Tryz.prog 153 #[aE nm] w fun e w'=>e=.returned (.func (.func 202) #[] #[.pointer (some ⟨w.heap.size,0,none⟩)])∧Ext w w'∧w'.heap.size=w.heap.size+1∧w'.heap[w.heap.size]? = some (.cells #[aE nm] 23 (0,0)):=by
 go_enter Tryz.func153,Tryz.ntmps153
 refine_lift sF ?_;intro _ _ _;refine jO (vs:=[aE nm]) fun w1 x1 s1 h1=>?_;refine aB ?_;refine_lift cL ?_;go_ret;exact ⟨rfl,x1,s1,h1⟩
def aH (ls:List (List UInt8)):List (List Value):=ls.map fun x=>[aE x]
structure CutMid (w:World) (s:Nat) (lp:Loop) (pre:List (List UInt8)) (W:World):Prop where
 ext:Ext w W
 hs:w.heap.size=s
 c0:W.heap[s]? = some (.cells #[.slice none 0 0] 80 (0,0))
 c1:W.heap[s+1]? = some (.cells #[.bool false] 4 (0,0))
 loc:∃ v,W.heap[s+2]? = some (.cells #[v] 80 (0,0))∧Own (s+6) 1 9 W v (aH pre)
 df:W.heap[s+4]? = some (.deferred (some []))
 lp:W.heap[s+5]? = some (.loop lp)
 size:s+6≤W.heap.size
structure CutOut (w:World) (s:Nat) (lp:Loop) (W:World):Prop where
 ext:Ext w W
 hs:w.heap.size=s
 c0:W.heap[s]? = some (.cells #[.slice none 0 0] 80 (0,0))
 c1:W.heap[s+1]? = some (.cells #[.bool false] 4 (0,0))
 df:W.heap[s+4]? = some (.deferred (some []))
 lp:W.heap[s+5]? = some (.loop { lp with state:=.done,pending:=some .ret })
theorem CutMid.put {s:Nat} {lp:Loop} {pre:List (List UInt8)} {W W':World} (h:CutMid w s lp pre W) {o:Obj} (hp:Put W W' (s+3) o):CutMid w s lp pre W':=by
 have hm:=hp.mv;have ne:∀ k,k≠s+3→some k≠some (s+3):=fun k hk e=>hk (Option.some.inj e);obtain ⟨v,hv,ho⟩:=h.loc;refine ⟨h.ext.move hm (by rintro k ⟨⟩;have:=h.hs;omega),h.hs,hm.at h.c0 (ne _ aC),hm.at h.c1 (ne _ aC),⟨v,hm.at hv (ne _ aC),ho.mv hm ?_⟩,hm.at h.df (ne _ aC),hm.at h.lp (ne _ aC),Nat.le_trans h.size hm.size⟩;cases hb:v.ownBlock with
 | none=>exact .inl rfl
 | some r=>have:=ho.block r hb;exact .inr (ne r aC)
theorem Ed (nm:List UInt8) (w:World):Calls Tryz.prog 97 #[aE nm] w (kZ w fun v w'=>match aM nm with
 | some ls=>∃ s,v=.tuple #[s, .bool true]∧Own w.heap.size 1 9 w' s (aH ls)
 | none=>v=.tuple #[.slice none 0 0, .bool false]):=by
 refine iY Tryz.func97 rfl ?_;simp only [Tryz.ntmps97,List.size_toArray,List.length_cons,List.length_nil,Nat.reduceAdd,Nat.reduceSub,Array.replicate_succ,Array.replicate_zero,List.push_toArray,List.append_toArray,List.nil_append,List.cons_append];refine_lift sF ?_;intro _ _ _;refine dX (z:=[.slice none 0 0]) fun w1 x1 s1 h1=>?_;refine aB ?_;refine dX (z:=[.bool false]) fun w2 x2 s2 h2=>?_;refine aB ?_;rw [s1]at h2 ⊢;have h1':=x2.at h1;refine_lift Ei (fun _ _ _=>?_) (fun _ _ _ _ _=>?_)
 ·rename_i hc;refine eA (v:=.slice none 0 0) rfl rfl rfl h1' zDk rfl ?_;intro w3 p3;have h23:=(p3.other _ aC).trans h2;refine eA (v:=.bool false) rfl rfl rfl h23 zDk rfl ?_;intro w4 p4;have h14:=(p4.other _ aC).trans p3.this;refine_lift cL ?_;refine yY (mF rfl rfl rfl h14 p4.this zDk zDk) ⟨_,rfl,?_,?_⟩
  ·exact ((x1.trans x2).move p3.mv (by rintro k ⟨⟩;omega)).move p4.mv (by rintro k ⟨⟩;omega)
  ·rw [aM,if_pos aC]
 ·rename_i hc;refine dX (z:=[.slice none 0 0]) fun w3 x3 s3 h3=>?_;rw [s2,s1]at h3 s3 ⊢;refine_lift BW fun _ _ _ _=>?_;refine gS (Fx nm _) ?_;rintro e w4 ⟨rfl,x4,s4,h4⟩;refine ⟨_,rfl,?_⟩;rw [s3]at h4 s4;refine aB ?_;refine_lift XH ?_;simp only [s3];have e4:w4.heap.size=w.heap.size+4:=aC;generalize hs:w.heap.size=s at *;have g0:w4.heap[s]? = _:=x4.at (x3.at h1');have g1:w4.heap[s+1]? = _:=x4.at (x3.at h2);have g2:w4.heap[s+2]? = _:=x4.at h3;have g3:w4.heap[s+3]? = _:=h4;have gx:Ext w w4:=((x1.trans x2).trans x3).trans x4;clear h1 h2 h1' h3 h4 x1 x2 x3 x4 s1 s2 s3 s4;refine lC (caps:=#[.pointer (some ⟨s+3,0,none⟩)]) rfl (enters_of Tryz.func202 rfl rfl) e4 ?_;intro fn W lp hlp xW k4 k5 sW;have hJ:CutMid w s lp [] W:=⟨gx.trans xW,hs,xW.at g0,xW.at g1,⟨_,xW.at g2,Own.nil _ _ _ _⟩,k4,k5,aC⟩;have gb:=xW.at g3;have hrdy:lp.state=.ready∧lp.pending=none:=by subst hlp;exact ⟨rfl,rfl⟩
  have hlab:aM nm=hY nm:=by rw [aM,if_neg aC]
  have hy:MA Tryz.prog (s+5) (s+3) lp (CutMid w s lp) (CutOut w s lp):=by
   constructor
   ·intro pre x rest W hpre hM hb;subst hlp;simp only [List.zip_toArray,List.zip_cons_cons,List.zip_nil_right,List.foldl_toArray',List.foldl_cons,List.foldl_nil,List.setIfInBounds_toArray,List.set_cons_succ,List.set_cons_zero,List.foldl_toArray,List.size_toArray,List.zip_toArray,List.length_cons,List.length_nil];have m0:=hM.c0;have m1:=hM.c1;obtain ⟨v,m2,mo⟩:=hM.loc;have md:=hM.df;have ml:=hM.lp;have mx:=hM.ext;have ms:=hM.size;clear hM hJ gb xW k4 k5 sW g0 g1 g2 g3;refine yZ ?_
    repeat' (first|refine gD (by rfl) (by intro _ _ h;exact h) ?_|((with_reducible refine aS ?_);(first|(refine gV ?_;refine JZ ?_)|(refine lY ?_;first|refine nR ?_|refine GR ?_|refine GW ?_|refine GT ?_|((first|refine EU ?_ ?_|refine EV ?_ ?_)<;>intro hc))))|((fail_if_success (with_reducible refine aS ?_));first|go_step|gi_step))
    refine ⟨_,ml,rfl,?_⟩;intro w2 p2;have n0:=p2.at m0 aC;have n1:=p2.at m1 aC;have n2:=p2.at m2 aC;have no:=mo.put p2 aC;have nb:=p2.at hb aC;have nd:=p2.at md aC;have nl:=p2.this;have nx:=mx.move p2.mv (by rintro k ⟨⟩;omega);have ns:s+6≤w2.heap.size:=Nat.le_trans ms p2.mv.size;clear m0 m1 m2 mo hb md ml mx ms p2;have hp2:=aA (cs:=[v]) n2
    repeat' (first|refine gD (by rfl) (by intro _ _ h;exact h) ?_|((with_reducible refine aS ?_);(first|(refine gV ?_;refine JZ ?_)|(refine lY ?_;first|refine nR ?_|refine GR ?_|refine GW ?_|refine GT ?_|((first|refine EU ?_ ?_|refine EV ?_ ?_)<;>intro hc))))|((fail_if_success (with_reducible refine aS ?_));first|go_step|gi_step))
    refine oD (xs:=[aE x]) (k:=1) (e:=9) (bytes:=16) (by intro y hy;simp at hy;subst hy;rfl) fun v' w3 x3 s3 sl3 _=>?_;refine aB ?_;refine jZ (B:=s+6) (k:=1) (e:=9) (bytes:=16) (x:=v') rfl (no.ext x3) rfl sl3 zDk (by simp [aE,Value.cells];rfl) (by have:=x3.size;omega) (by simp [aH];omega) (by simp [aH];omega) ?_;intro v2 w4 o4 mv4;refine aB ?_;have hv:Mv v.ownBlock w3 w4:=mv4;have no3:=no.ext x3;have q2:=no3.mvs hv (x3.at n2) aC;refine eA (v:=v2) rfl rfl rfl q2 zDk o4.one ?_;intro w5 p5;have q0:=p5.at (no3.mvs hv (x3.at n0) aC) aC;have q1:=p5.at (no3.mvs hv (x3.at n1) aC) aC;have q3:=p5.at (no3.mvs hv (x3.at nb) aC) aC;have q4:=p5.at (no3.mvs hv (x3.at nd) aC) aC;have q5:=p5.at (no3.mvs hv (x3.at nl) aC) aC;have qx:=(no3.mvx hv (nx.trans x3) aC).move p5.mv (by rintro k ⟨⟩;omega);have qs:s+6≤w5.heap.size:=by have:=x3.size;have:=hv.size;have:=p5.mv.size;omega
    have qo:=o4.put p5 aC;have q2':=p5.this
    repeat' (first|refine gD (by rfl) (by intro _ _ h;exact h) ?_|((with_reducible refine aS ?_);(first|(refine gV ?_;refine JZ ?_)|(refine lY ?_;first|refine nR ?_|refine GR ?_|refine GW ?_|refine GT ?_|((first|refine EU ?_ ?_|refine EV ?_ ?_)<;>intro hc))))|((fail_if_success (with_reducible refine aS ?_));first|go_step|gi_step))
    refine tR q5 fun w6 p6=>⟨rfl,⟨qx.move p6.mv (by rintro k ⟨⟩;omega),hs,p6.at q0 aC,p6.at q1 aC,⟨v2,p6.at q2' aC,?_⟩,p6.at q4 aC,p6.this,Nat.le_trans qs p6.mv.size⟩,p6.at q3 aC⟩;have:=qo.put p6 aC
    simpa [aH,aE,Value.cells]using this
   ·intro pre W hM;subst hlp;simp only [List.zip_toArray,List.zip_cons_cons,List.zip_nil_right,List.foldl_toArray',List.foldl_cons,List.foldl_nil,List.setIfInBounds_toArray,List.set_cons_succ,List.set_cons_zero,List.foldl_toArray,List.size_toArray,List.length_cons,List.length_nil];have m0:=hM.c0;have m1:=hM.c1;have md:=hM.df;have ml:=hM.lp;have mx:=hM.ext;clear hM hJ gb xW k4 k5 sW g0 g1 g2 g3;refine yZ ?_
    repeat' (first|refine gD (by rfl) (by intro _ _ h;exact h) ?_|((with_reducible refine aS ?_);(first|(refine gV ?_;refine JZ ?_)|(refine lY ?_;first|refine nR ?_|refine GR ?_|refine GW ?_|refine GT ?_|((first|refine EU ?_ ?_|refine EV ?_ ?_)<;>intro hc))))|((fail_if_success (with_reducible refine aS ?_));first|go_step|gi_step))
    refine ⟨_,ml,rfl,?_⟩;intro w2 p2;have n0:=p2.at m0 aC;have n1:=p2.at m1 aC;have nd:=p2.at md aC;have nl:=p2.this;have nx:=mx.move p2.mv (by rintro k ⟨⟩;omega);clear m0 m1 md ml mx p2
    repeat' (first|refine gD (by rfl) (by intro _ _ h;exact h) ?_|((with_reducible refine aS ?_);(first|(refine gV ?_;refine JZ ?_)|(refine lY ?_;first|refine nR ?_|refine GR ?_|refine GW ?_|refine GT ?_|((first|refine EU ?_ ?_|refine EV ?_ ?_)<;>intro hc))))|((fail_if_success (with_reducible refine aS ?_));first|go_step|gi_step))
    refine eA (v:=.slice none 0 0) rfl rfl rfl n0 zDk rfl ?_;intro w3 p3;refine eA (v:=.bool false) rfl rfl rfl (p3.at n1 aC) zDk rfl ?_;intro w4 p4;have q0:=p4.at p3.this aC;have q1:=p4.this;have q4:=p4.at (p3.at nd aC) aC;have q5:=p4.at (p3.at nl aC) aC;have qx:=(nx.move p3.mv (by rintro k ⟨⟩;omega)).move p4.mv (by rintro k ⟨⟩;omega)
    repeat' (first|refine gD (by rfl) (by intro _ _ h;exact h) ?_|((with_reducible refine aS ?_);(first|(refine gV ?_;refine JZ ?_)|(refine lY ?_;first|refine nR ?_|refine GR ?_|refine GW ?_|refine GT ?_|((first|refine EU ?_ ?_|refine EV ?_ ?_)<;>intro hc))))|((fail_if_success (with_reducible refine aS ?_));first|go_step|gi_step))
    exact NG q5 fun w6 p6=>⟨rfl,⟨qx.move p6.mv (by rintro k ⟨⟩;omega),hs,p6.at q0 aC,p6.at q1 aC,p6.at q4 aC,p6.this⟩⟩
  refine (Fw (s+5) (s+3) lp (CutMid w s lp) (CutOut w s lp) (by subst hlp;rfl) (fun _ _ h=>h.lp) (fun _ _ _ _ h hp=>h.put hp) hy nm W hJ gb aC).mono ?_;rintro e W' ⟨rfl,hR⟩;refine ⟨⟨_,rfl⟩,?_⟩;clear hJ gb xW k4 k5 sW hy g0 g1 g2 g3;cases hpn:hY nm with
  | some ls =>
   rw [hpn]at hR;refine ⟨lp,hR.lp,by rw [hrdy.1];simp,?_⟩;intro W2 hput;rw [hrdy.2];clear hlp hrdy;simp only;have hm:=hput.mv;have ne:∀ k,k≠s+4+1→some k≠some (s+4+1):=fun k hk e=>hk (Option.some.inj e);have f0:=hm.at hR.c0 (ne _ aC);have f1:=hm.at hR.c1 (ne _ aC);have fd:=hm.at hR.df (ne _ aC);obtain ⟨v,f2,ho⟩:=hR.loc;have fo:Own (s+6) 1 9 W2 v (aH ls):=ho.put hput aC;have f2:=hm.at f2 (ne _ aC);have fx:Ext w W2:=hR.ext.move hm (by rintro k ⟨⟩;omega);have fs:=Nat.le_trans hR.size hm.size;clear hR hput hm;have hp2:=aA (cs:=[v]) f2;refine_lift fN fun _ _=>?_;refine eA (v:=v) rfl rfl rfl f0 zDk fo.one ?_;intro W3 p3;refine eA (v:=.bool true) rfl rfl rfl ((p3.other _ aC).trans f1) zDk rfl ?_;intro W4 p4;have q0:=(p4.other _ aC).trans p3.this;have qd:=(p4.other _ aC).trans ((p3.other _ aC).trans fd);have qx:=cJ (fx.move p3.mv (by rintro k ⟨⟩;omega)) p4;have qo:Own (s+6) 1 9 W4 v (aH ls):=(fo.put p3 aC).put p4 aC;have qf:=(p4.this);refine_lift cL ?_;refine nA qd fun W5 p5=>⟨_,mF rfl rfl rfl (p5.at q0 aC) (p5.at qf aC) zDk zDk,_,rfl,qx.move p5.mv (by rintro k ⟨⟩;omega),?_⟩;rw [hlab,hpn,hs];exact ⟨v,rfl,(qo.put p5 aC).weaken aC⟩
  | none =>
   rw [hpn]at hR;refine ⟨_,hR.lp,aX,?_⟩;intro W2 hput;simp only;have hm:=hput.mv;have ne:∀ k,k≠s+4+1→some k≠some (s+4+1):=fun k hk e=>hk (Option.some.inj e);have f0:=hm.at hR.c0 (ne _ aC);have f1:=hm.at hR.c1 (ne _ aC);have fd:=hm.at hR.df (ne _ aC);have fx:Ext w W2:=hR.ext.move hm (by rintro k ⟨⟩;omega);clear hlp hrdy;refine_lift XH ?_;refine nA fd fun W5 p5=>⟨_,mF rfl rfl rfl (p5.at f0 aC) (p5.at f1 aC) zDk zDk,_,rfl,fx.move p5.mv (by rintro k ⟨⟩;omega),?_⟩;rw [hlab,hpn]
open Go.Proofs
theorem XM:(Tryz.prog.info? 279).map (·.size)=some 2:=by kernel_rfl
theorem Cd:liesAt Tryz.prog Tryz.prog.depth 279 (2 / Tryz.prog.cellsOf 279) 0 279 1=true:=by kernel_rfl
theorem XN:(Tryz.prog.info? 5).map (fun i=>(i.zero,i.size,i.bytes))=some (some (.int .u8 0),1,1):=by kernel_rfl
set_option maxRecDepth 100000 in
theorem T.Builder_copyCheck_used (b:Nat) (w:World) (h0:w.cell? ⟨b,0,none⟩=some (.pointer (some ⟨b,0,none⟩))) :
 Calls Tryz.prog 203 #[.pointer (some ⟨b,0,none⟩)] w fun e w'=>e=.returned (.tuple #[])∧w'=w:=by
 obtain ⟨j,hj,_⟩:=Option.map_eq_some_iff.1 XM;go_enter Tryz.func203,Tryz.ntmps203
 go_wp2
 rw [Lib.run_neq_ptr_same w _ Tryz.underlying277 hj]
 go_wp2
 go_end0
 exact ⟨rfl,rfl⟩
set_option maxRecDepth 100000 in
theorem T.Builder_copyCheck_fresh (b:Nat) (w:World) (h0:w.cell? ⟨b,0,none⟩=some (.pointer none)) (hsh:w.shape? b=some (279,2)) (hfz:w.frozen? ⟨b,0,none⟩=false) :
 Calls Tryz.prog 203 #[.pointer (some ⟨b,0,none⟩)] w fun e w'=>e=.returned (.tuple #[])∧w'=w.setCell ⟨b,0,none⟩ (.pointer (some ⟨b,0,none⟩)):=by
 obtain ⟨j,hj,hjs⟩:=Option.map_eq_some_iff.1 XM;go_enter Tryz.func203,Tryz.ntmps203
 go_wp2
 rw [Lib.run_to_unsafe w ⟨b,0,none⟩ Tryz.underlying277 Tryz.underlying379 hj (by rw [hjs];decide) hsh (Nat.zero_lt_succ 1)];simp only [Result.andThen];rw [Oper.upon_value]
 go_wp2
 rw [run_callFunc_extern Tryz.func246 (by kernel_rfl) (by kernel_rfl) (by kernel_rfl) (e:=Extern.AbiNoEscape.same) (by kernel_rfl)];rw [Lib.run_noEscape];simp only [Result.andThen];rw [Oper.upon_value]
 go_wp2
 rw [Lib.run_from_unsafe w ⟨b,0,none⟩ Tryz.underlying379 Tryz.underlying277 hj hsh Cd];simp only [Result.andThen];rw [Oper.upon_value]
 go_wp2
 go_end0
 exact ⟨rfl,rfl⟩
theorem T.Builder_copyCheck (B b:Nat) (bs:List Value) (w:World) (h:Lib.IsBuilder 279 5 B b bs w) :
 Calls Tryz.prog 203 #[.pointer (some ⟨b,0,none⟩)] w fun e w'=>e=.returned (.tuple #[])∧(Lib.BuilderAt 279 5 B b (.pointer (some ⟨b,0,none⟩)) bs w'∧Below B w w'∧w.drawn≤w'.drawn):=by
 rcases h with h|h
 ·refine (T.Builder_copyCheck_fresh b w h.cell0 h.shape h.frozen0).mono ?_;rintro e w' ⟨rfl,rfl⟩;exact ⟨rfl,h.used _,(Below.refl B w).setCell (p:=⟨b,0,none⟩) h.1 _,Nat.le_refl _⟩
 ·refine (T.Builder_copyCheck_used b w h.cell0).mono ?_;rintro e w' ⟨rfl,rfl⟩;exact ⟨rfl,h,Below.refl B _,Nat.le_refl _⟩
set_option maxRecDepth 100000 in
theorem T.Builder_WriteByte (B b:Nat) (bs:List Value) (c:Int) (w:World) (h:Lib.IsBuilder 279 5 B b bs w) (hlen:bs.length+1≤140737488355328) (hBw:B≤w.heap.size) :
 Calls Tryz.prog 156 #[.pointer (some ⟨b,0,none⟩), .int .u8 c] w fun e w'=>e=.returned .nilIface∧(Lib.BuilderAt 279 5 B b (.pointer (some ⟨b,0,none⟩)) (bs ++ [.int .u8 c]) w'∧Below B w w'∧w.drawn≤w'.drawn):=by
 obtain ⟨i0,hi,hz0,hz1,hz2⟩:=info_parts XN;go_enter Tryz.func156,Tryz.ntmps156
 go_wp2_with (go_at_call 203;refine (T.Builder_copyCheck B b bs _ h).mono ?_)
 rintro e w1 ⟨rfl,h1,hb1,hd1⟩;obtain ⟨hB,v,hbk,hown,hne⟩:=h1;have c0:w1.cell? ⟨b,0,none⟩=some (.pointer (some ⟨b,0,none⟩)):=by rw [Lib.cell_of_heap hbk];rfl
 have c1:w1.cell? ⟨b,1,none⟩=some v:=by rw [Lib.cell_of_heap hbk];rfl
 go_wp2_with (at_builtin;refine JX rfl _ _ 131 rfl B 5 i0 (.int .u8 0) 1 1 Tryz.underlying131 hi hz0 hz1 hz2 rfl aK _ _ _ rfl (hown.alloc _) ⟨w1.heap.size,0,none⟩ 1 1 [.int .u8 c] rfl rfl ?c1 ?c2 ?c3 ?c4 ?c5 ?_)
 case c1 =>
  intro j u hj
  match j,hj with
  | 0,hj=>simp at hj;subst hj;simp [Addr.add]
 case c2=>intro u hu;simp at hu;subst hu;rfl
 case c3=>unfold maxLen;omega
 case c4=>omega
 case c5=>have:=hb1.size;simp;omega
 intro v' w2 hown' hgrow hd2;have hlt:b<w1.heap.size:=by
  rcases Nat.lt_or_ge b w1.heap.size with h'|h'
  ·exact h'
  ·simp [Array.getElem?_eq_none h']at hbk
 have hb2:w2.heap[b]? = some (.cells #[.pointer (some ⟨b,0,none⟩),v] 279 (0,0)):=by
  rw [hgrow.block b (by simp;omega) (fun e=>hne e.symm),Lib.alloc_old w1 _ b hlt];exact hbk
 have d0:w2.cell? ⟨b,0,none⟩=some (.pointer (some ⟨b,0,none⟩)):=by rw [Lib.cell_of_heap hb2];rfl
 have d1:w2.cell? ⟨b,1,none⟩=some v:=by rw [Lib.cell_of_heap hb2];rfl
 have f1:w2.frozen? ⟨b,1,none⟩=false:=Lib.frozen_of_heap hb2 1;obtain ⟨g,cap,rfl⟩:∃ g cap,v'=.slice (some ⟨g,0,none⟩) (bs.length+1) cap:=by
  rcases hown'.2 with ⟨_,h0⟩|⟨g,cap,cur,hv,_⟩
  ·omega
  ·exact ⟨g,cap,hv⟩
 go_wp2
 go_ret;refine ⟨rfl,?_,?_⟩
 ·exact Lib.BuilderAt.put (T:=279) (e:=5) hB hb2 (bs':=bs ++ [.int .u8 c]) (by simpa using hown') aK
 ·exact ⟨((hb1.alloc (by have:=hb1.size;omega) _).grown hgrow (by have:=hb1.size;simp;omega) (fun k hk=>(hown.lt k hk).1)).setCell (p:=⟨b,1,none⟩) hB _,Nat.le_trans hd1 hd2⟩
set_option maxRecDepth 100000 in
theorem T.Builder_WriteString (B b:Nat) (bs:List Value) (s:ByteArray) (w:World) (h:Lib.IsBuilder 279 5 B b bs w) (hlen:bs.length+s.size≤140737488355328) (hBw:B≤w.heap.size) :
 Calls Tryz.prog 157 #[.pointer (some ⟨b,0,none⟩), .string s] w fun e w'=>e=.returned (.tuple #[.int .i64 s.size, .nilIface])∧(Lib.BuilderAt 279 5 B b (.pointer (some ⟨b,0,none⟩)) (bs++Lib.strCells s) w'∧Below B w w'∧w.drawn≤w'.drawn):=by
 obtain ⟨i0,hi,hz0,hz1,hz2⟩:=info_parts XN;go_enter Tryz.func157,Tryz.ntmps157
 go_wp2_with (go_at_call 203;refine (T.Builder_copyCheck B b bs _ h).mono ?_)
 rintro e w1 ⟨rfl,h1,hb1,hd1⟩;obtain ⟨hB,v,hbk,hown,hne⟩:=h1;have c0:w1.cell? ⟨b,0,none⟩=some (.pointer (some ⟨b,0,none⟩)):=by rw [Lib.cell_of_heap hbk];rfl
 have c1:w1.cell? ⟨b,1,none⟩=some v:=by rw [Lib.cell_of_heap hbk];rfl
 go_wp2_with (at_builtin;refine HF rfl _ _ 131 9 rfl B 5 i0 Tryz.underlying131 Tryz.underlying9 hi hz0 hz1 hz2 _ _ _ rfl hown s rfl ?c3 ?c4 ?c5 ?_)
 case c3=>unfold maxLen;omega
 case c4=>omega
 case c5=>have:=hb1.size;omega
 intro v' w2 hown' hgrow hd2;have hlt:b<w1.heap.size:=by
  rcases Nat.lt_or_ge b w1.heap.size with h'|h'
  ·exact h'
  ·simp [Array.getElem?_eq_none h']at hbk
 have hb2:w2.heap[b]? = some (.cells #[.pointer (some ⟨b,0,none⟩),v] 279 (0,0)):=by
  rw [hgrow.block b hlt (fun e=>hne e.symm)];exact hbk
 have d0:w2.cell? ⟨b,0,none⟩=some (.pointer (some ⟨b,0,none⟩)):=by rw [Lib.cell_of_heap hb2];rfl
 have d1:w2.cell? ⟨b,1,none⟩=some v:=by rw [Lib.cell_of_heap hb2];rfl
 have f1:w2.frozen? ⟨b,1,none⟩=false:=Lib.frozen_of_heap hb2 1;obtain ⟨ao,n',cap,rfl⟩:∃ ao n' cap,v'=.slice ao n' cap:=by
  rcases hown'.2 with ⟨hv,_⟩|⟨g,cap,cur,hv,_⟩
  ·exact ⟨_,_,_,hv⟩
  ·exact ⟨_,_,_,hv⟩
 go_wp2
 go_ret2;refine ⟨rfl,?_,?_⟩
 ·exact Lib.BuilderAt.put (T:=279) (e:=5) hB hb2 (bs':=bs++Lib.strCells s) (by simpa [Lib.strCells_length]using hown') aK
 ·exact ⟨(hb1.grown hgrow (by have:=hb1.size;omega) (fun k hk=>(hown.lt k hk).1)).setCell (p:=⟨b,1,none⟩) hB _,Nat.le_trans hd1 hd2⟩
theorem Ext.heapEq (h:w1.heap=w.heap) {o:Obj} (hk:w.heap[k]? = some o):w1.heap[k]? = some o:=by rw [h];exact hk
theorem KD (h:Ext w0 w) {g n:Nat} (hg:w0.heap.size≤g):Ext w0 (w.freeze ⟨g,0,none⟩ n):=by
 unfold World.freeze;split
 ·exact h
 ·refine ⟨h.os,h.tape,h.output,by simpa using h.size,fun k hk=>?_,h.drawn⟩;have hne:g≠k:=aC;simp only [Array.getElem?_modify];rw [if_neg hne];exact h.block k hk
theorem T.Builder_String (B b:Nat) (l:List UInt8) (w0 w:World) (h:Lib.IsBuilder 279 5 B b (Lib.byteCells l) w) (hx0:Ext w0 w) (hB:w0.heap.size≤B) (hlen:l.length≤9223372036854775807) :
 Calls Tryz.prog 158 #[.pointer (some ⟨b,0,none⟩)] w fun e w'=>e=.returned (aE l)∧Ext w0 w':=by
 obtain ⟨p,hbB,v,hbk,hown,hne⟩:∃ p,Lib.BuilderAt 279 5 B b p (Lib.byteCells l) w:=by
  rcases h with h|h<;>exact ⟨_,h⟩
 go_enter Tryz.func158,Tryz.ntmps158
 refine_lift LZ ?_;intro _ _ _;refine cQ (S:=fun w'=>Ext w0 w'∧w'.heap[b]? = some (.cells #[p,v] 279 (0,0))) zDk ?_;intro w1 x1 hh1;have hS:Ext w0 w1∧w1.heap[b]? = some (.cells #[p,v] 279 (0,0)):=⟨hx0.trans x1,Ext.heapEq hh1 hbk⟩;have hsl':=(Own.sl (B:=B) (k:=1) (e:=5) (es:=aL l) ⟨by rw [qI];simpa [aL,Lib.byteCells]using mZ hown,by simp [aL]⟩)
 ((with_reducible apply dJ (i:=0));(rfl);(rfl);(decide +kernel);(decide +kernel);(decide +kernel);(rfl);(exact hS);(intro w9 hS9;(have hp:=aA (cs:=[p,v]) hS9.2);exact rn);(exact fun _ _ _ h=>h);(refine aB ?_));((with_reducible apply dJ (i:=1));(rfl);(rfl);(decide +kernel);(decide +kernel);(decide +kernel);(rfl);(exact hS);(intro w9 hS9;(have hp:=aA (cs:=[p,v]) hS9.2);exact rn);(exact fun _ _ _ h=>h);(refine aB ?_));((with_reducible apply dJ (i:=2));(rfl);(rfl);(decide +kernel);(decide +kernel);(decide +kernel);(rfl);(exact hS);(intro w9 hS9;(have hp:=aA (cs:=[p,v]) hS9.2);exact rn);(exact fun _ _ _ h=>h);(refine aB ?_));((with_reducible apply dJ (i:=3));(rfl);(rfl);(decide +kernel);(decide +kernel);(decide +kernel);(rfl);(exact hS);(intro w9 hS9;(have hp:=aA (cs:=[p,v]) hS9.2);exact rn);(exact fun _ _ _ h=>h);(refine aB ?_));((with_reducible apply dJ (i:=5));(rfl);(rfl);(decide +kernel);(decide +kernel);(decide +kernel);(rfl);(exact hS);(intro w9 hS9;(have hp:=aA (cs:=[p,v]) hS9.2);exact rn);(exact fun _ _ _ h=>h);(refine aB ?_));((with_reducible apply dJ (i:=6));(rfl);(rfl);(decide +kernel);(decide +kernel);(decide +kernel);(rfl);(exact hS);(intro w9 hS9;(have hp:=aA (cs:=[p,v]) hS9.2);exact rn);(exact fun _ _ _ h=>h);(refine aB ?_));((with_reducible apply dJ (i:=7));(rfl);(rfl);(decide +kernel);(decide +kernel);(decide +kernel);(rfl);(exact hS);(intro w9 hS9;(have hp:=aA (cs:=[p,v]) hS9.2);exact rn);(exact fun _ _ _ h=>h);(refine aB ?_));((with_reducible apply dJ (i:=8));(rfl);(rfl);(decide +kernel);(decide +kernel);(decide +kernel);(rfl);(exact hS);(intro w9 hS9;(have hp:=aA (cs:=[p,v]) hS9.2);exact rn);(exact fun _ _ _ h=>h);(refine aB ?_))
 have hsz:∀ w',(Sl 1 w' v (aL l))∨True:=fun _=>.inr trivial;refine dJ (i:=9) (v:=.int .i64 ((aL l).length:Nat)) rfl rfl zDk zDk zDk rfl hS (fun w' _=>?_) (fun _ _ _ h=>h) ?_
 ·obtain ⟨ad,cap,h1,_⟩:=hsl'.out;obtain ⟨e,i,ht,_⟩:=eO (P:=Tryz.prog) (t:=131) (k:=1) zDk;exact ⟨by simp [execOp,resolve,invoke,builtin,Act.eval,h1,Builtin.len_,run_underlying ht,goInt]⟩
 refine aB ?_;have hlb:(aL l).length=l.length:=by simp [aL]
 have hE:Ext w0 w1:=hx0.trans x1;obtain ⟨q,w2,hr2,x2,hq⟩:∃ q w2,(Builtin.unsafeSliceData_ #[131] 339 #[v]).run Tryz.prog w1=.ok (.pointer q) w2∧Ext w1 w2∧(l≠[]→∃ g cur,q=some ⟨g,0,none⟩∧B≤g∧w2.heap[g]? = some (.cells cur 5 (0,0))∧l.length≤cur.size∧∀ j x,l[j]? = some x→w2.cell? ⟨g,j,none⟩=some (.int .u8 (x.toNat:Nat))):=by
  rcases hown.2 with ⟨rfl,h0⟩|⟨g,cap,cur,rfl,hbg,hg,hnc,hcm,hcs,htake⟩
  ·refine ⟨none,w1,rfl,Ext.refl _,fun hne=>absurd (List.eq_nil_of_length_eq_zero ?_) hne⟩
   simpa [Lib.byteCells]using h0
  ·have hg1:w1.heap[g]? = some (.cells cur 5 (0,0)):=Ext.heapEq hh1 hg;by_cases hc:cap=0
   ·subst hc;have hl0:l=[]:=List.eq_nil_of_length_eq_zero (by simpa [Lib.byteCells]using hnc);exact ⟨_,_,Lib.run_unsafeSliceData_zero w1 _ _ 5 Tryz.underlying339 ⟨g,0,none⟩ _ (5,cur.size) (by simp [World.shape?,hg1]),Ext.alloc _ _,fun hne=>absurd hl0 hne⟩
   ·refine ⟨_,w1,Lib.run_unsafeSliceData_row _ _ _ _ _ _ hc,Ext.refl _,fun _=>⟨g,cur,rfl,hbg,hg1,?_,fun j x hj=>?_⟩⟩
    ·have:l.length≤cap:=by simpa [Lib.byteCells]using hnc
     omega
    ·rw [cell_of_row w1 g j cur 5 _ hg1];have:=congrArg (·[j]?) htake;have hjl:j<l.length:=(List.getElem?_eq_some_iff.1 hj).1;simp only [List.getElem?_take]at this;rw [if_pos (by simpa [Lib.byteCells]using hjl)]at this;rw [← Array.getElem?_toList,this];simp [Lib.byteCells,hj]
 refine bZ (i:=4) zDk rfl rfl ?_;refine nC rfl (w':=w2) (v:=.pointer q) (by simp [execOp,resolve,invoke,builtin,fY,Act.eval,hr2]) ?_;refine aB ?_;have hb1:b<w1.heap.size:=(Array.getElem?_eq_some_iff.1 hS.2).1;refine aD ⟨⟨hE.trans x2,x2.at hS.2⟩,?_⟩;have hE2:Ext w0 w2:=hE.trans x2;obtain ⟨w3,hr3,x3,hb3⟩:∃ w3,(Builtin.unsafeString_ #[339,3] 9 #[.pointer q, .int .i64 ((aL l).length:Nat)]).run Tryz.prog w2=.ok (aE l) w3∧Ext w0 w3∧w3.heap[b]? = some (.cells #[p,v] 279 (0,0)):=by
  by_cases hl0:l=[]
  ·subst hl0;exact ⟨w2,Lib.run_unsafeString_none w2 _ _ _ q,hE2,x2.at hS.2⟩
  ·obtain ⟨g,cur,rfl,hbg,hg2,hcl,hcell⟩:=hq hl0;refine ⟨_,by rw [hlb];exact Lib.run_unsafeString_row w2 339 3 9 5 Tryz.underlying339 zDk g cur.size (by simp [World.shape?,hg2]) l hl0 hcl hlen (fun j x hj=>by rw [cY,Nat.zero_add];exact hcell j x hj),KD hE2 aC,?_⟩;have hgb:g≠b:=by
    rintro rfl;rw [x2.at hS.2]at hg2;simp at hg2
   unfold World.freeze;split
   ·exact x2.at hS.2
   ·simp only [Array.getElem?_modify];rw [if_neg hgb];exact x2.at hS.2
 refine bZ (i:=10) zDk rfl rfl ?_;refine nC rfl (w':=w3) (v:=aE l) (by rw [hlb]at hr3;simp [execOp,resolve,invoke,builtin,Act.eval,hlb,hr3]) ?_;refine aB ?_;refine aD ⟨⟨x3,hb3⟩,?_⟩;refine bZ (i:=11) zDk rfl rfl ?_;refine_lift cL ?_;refine ⟨⟨x3,hb3⟩,?_⟩;refine cO zDk ?_;refine_lift cL ?_;go_ret;exact ⟨rfl,x3⟩
theorem pH (a b:List (List UInt8)):enc (a++b)=enc a++enc b:=by simp [enc]
theorem FB (x:List UInt8):enc [x]=UInt8.ofNat x.length::x:=by simp [enc]
theorem zQ (h:x∈ls) (hb:jB x=false):mV ls=none:=by
 rw [mV,if_neg];rintro ⟨h1,_⟩;have:=List.all_eq_true.1 h1 x h;rw [hb]at this;cases this
theorem CY (h:254<(enc (ls.take k)).length):mV ls=none:=by
 rw [mV,if_neg];rintro ⟨_,h2⟩;have:enc ls=enc (ls.take k)++enc (ls.drop k):=by rw [← pH,List.take_append_drop]
 rw [this,List.length_append]at h2;omega
theorem vP (a b:List UInt8):Lib.byteCells (a++b)=Lib.byteCells a++Lib.byteCells b:=by simp [Lib.byteCells]
theorem kQ (a:List UInt8):(Lib.byteCells a).length=a.length:=by simp [Lib.byteCells]
theorem Fi (v:Value) (ls:List (List UInt8)) (w:World) (h:Sl 1 w v (aH ls)) (hl:ls.length≤9223372036854775806):Calls Tryz.prog 101 #[v] w (bC w (match mV ls with|some n=>.tuple #[aE n, .int .i64 0]|none=>.tuple #[aE [], .int .i64 1])):=by
 go_enter Tryz.func101,Tryz.ntmps101
 refine_lift sF ?_;intro _ _ _;refine_lift fN fun _ _=>?_;refine dX (z:=[.pointer none, .slice none 0 0]) fun w1 x1 s1 h1=>?_;refine aB ?_;have hb:Lib.IsBuilder 279 5 w.heap.size w.heap.size (Lib.byteCells []) w1:=.inl ⟨Nat.le_refl _, .slice none 0 0,h1,World.ownsRow_nil _ _ _ _,by simp [Value.ownBlock]⟩;have hs:=h.ext x1;refine_lift fN fun _ _=>?_;clear hs;have hlt:(aH ls).length=ls.length:=by simp [aH]
 rw [hlt];go_loopw [9] (fun i wr=>∃ k:Nat,k≤ls.length∧i=.int .i64 k∧Ext w wr∧Lib.IsBuilder 279 5 w.heap.size w.heap.size (Lib.byteCells (enc (ls.take k))) wr∧(ls.take k).all jB=true∧(enc (ls.take k)).length≤318) (fun i _=>ls.length - (intOf i).toNat)
 case atStart=>exact ⟨0,Nat.zero_le _,rfl,x1,hb,rfl,by simp [enc]⟩
 case round =>
  obtain ⟨k,hk,rfl,hx,hbk,hall,h318⟩:=hrel;have hsl:=h.ext hx;by_cases hlt:k<ls.length
  ·have hp:=hsl.elem (e:=[aE ls[k]]) (i:=k) (by simp [aH,hlt]);have hmem:ls[k]∈ls:=List.getElem_mem hlt
   (repeat' first|((with_reducible refine aZ ?_);go_step)|((with_reducible refine aS ?_);first|refine dU ?_|(refine bG ?_ ?_<;>intro hc))|fail)
   ·rename_i hc0 hc1 hc2;refine bF (enters_of Tryz.func155 rfl rfl) rfl rfl (Tryz.Builder_Len _ _ _ _ hbk) ?_;rintro e w2 ⟨rfl,rfl⟩;refine ⟨_,rfl,?_⟩;refine aB ?_;rw [kQ];refine_lift PY (fun _ _ _=>?_) (fun _=>?_)
    ·rename_i hc3;go_ret2;refine ⟨?_,hx⟩;rw [CY (k:=k) aC];rfl
    ·rename_i hc3;have h63:ls[k].length≤63:=aC;have e8:IntKind.wrap .u8 ((ls[k].length:Nat):Int)=((ls[k].length:Nat):Int):=by simp [IntKind.wrap,IntKind.bits,IntKind.signed];omega
     rw [e8];refine bF (enters_of Tryz.func156 rfl rfl) rfl rfl (T.Builder_WriteByte _ _ _ _ _ hbk (by rw [kQ];omega) hx.size) ?_;rintro e w3 ⟨rfl,hb3,bl3,dr3⟩;refine ⟨_,rfl,?_⟩;refine aB ?_;refine_lift cL ?_;refine bF (enters_of Tryz.func157 rfl rfl) rfl rfl (T.Builder_WriteString _ _ _ _ _ (.inr hb3) (by rw [List.length_append,kQ,fD];simp;omega) (Nat.le_trans hx.size bl3.size)) ?_;rintro e w4 ⟨rfl,hb4,bl4,dr4⟩;refine ⟨_,rfl,?_⟩;refine aB ?_;have hx4:Ext w w4:=hx.below' (bl3.trans bl4) (Nat.le_trans dr3 dr4);have hb5:Lib.IsBuilder 279 5 w.heap.size w.heap.size (Lib.byteCells (enc (ls.take (k+1)))) w4:=by
      rw [List.take_add_one,List.getElem?_eq_getElem hlt,Option.toList_some,pH,FB,vP];have e:Lib.byteCells (UInt8.ofNat ls[k].length::ls[k])=Value.int .u8 (ls[k].length:Nat)::Lib.strCells ⟨ls[k].toArray⟩:=by
       have:(UInt8.ofNat ls[k].length).toNat=ls[k].length:=by simp;omega
       simp [Lib.byteCells,Lib.strCells,this]
      rw [e];refine .inr ?_
      simpa using hb4
     have hall2:(ls.take (k+1)).all jB=true:=by
      rw [List.take_add_one,List.getElem?_eq_getElem hlt,Option.toList_some,List.all_append,hall];have:ls[k].length≠0:=fun e=>hc2 (List.eq_nil_of_length_eq_zero e);simp [jB];omega
     have h3182:(enc (ls.take (k+1))).length≤318:=by
      rw [List.take_add_one,List.getElem?_eq_getElem hlt,Option.toList_some,pH,FB];simp;omega
     clear hbk hb3 hb4 bl3 bl4 hsl hp;refine_lift cL ?_;exact ⟨⟨k+1,aC,rfl,hx4,hb5,hall2,h3182⟩,by simp [intOf];omega⟩
   ·go_ret2;refine ⟨?_,hx⟩;rw [zQ hmem (by simp [jB];omega)];rfl
   ·go_ret2;refine ⟨?_,hx⟩;rw [zQ hmem (by simp [jB,hc])];rfl
  ·have:k=ls.length:=aC;subst this;rw [List.take_length]at hbk hall h318;refine_lift Ec fun _ _ _ _ _=>?_;refine bF (enters_of Tryz.func155 rfl rfl) rfl rfl (Tryz.Builder_Len _ _ _ _ hbk) ?_;rintro e w2 ⟨rfl,rfl⟩;refine ⟨_,rfl,?_⟩;refine aB ?_;rw [kQ];refine_lift PY (fun _ _ _=>?_) (fun _=>?_)
   ·go_ret2;refine ⟨?_,hx⟩;rw [CY (k:=ls.length) (by rw [List.take_length];omega)];rfl
   ·refine bF (enters_of Tryz.func158 rfl rfl) rfl rfl (T.Builder_String _ _ _ w _ hbk hx (Nat.le_refl _) aC) ?_;rintro e w3 ⟨rfl,x3⟩;refine ⟨_,rfl,?_⟩;refine aB ?_;refine_lift cL ?_;go_ret2;refine ⟨?_,x3⟩;rw [mV,if_pos ⟨hall,aC⟩];rfl
theorem pI (l:List (List UInt8)) (k:Nat) (b:List UInt8) (h:l[k]? = some b):(aH l)[k]? = some [aE b]:=by simp [aH,h]
theorem zS (l:List (List UInt8)) (k:Nat) (b:List UInt8):(aH l).set k [aE b]=aH (l.set k b):=by simp [aH,List.map_set]
theorem bH (l:List (List UInt8)):(aH l).length=l.length:=by simp [aH]
theorem vQ (nm:List UInt8) (w:World):Calls Tryz.prog 53 #[aE nm] w (bC w (aE (fold nm))):=by
 go_enter Tryz.func53,Tryz.ntmps53
 refine_lift fN fun _ _=>?_;refine gY (Ed nm _) fun v w1 x1 hv=>?_;cases hl:aM nm with
 | none =>
  rw [hl]at hv;subst hv;refine_lift cL ?_;go_ret;exact ⟨by simp [fold,hl],x1⟩
 | some ls =>
  rw [hl]at hv;obtain ⟨s,rfl,hs⟩:=hv;have hfit:=fM hl;have hlen:=kG ls;rw [hfit.2.1]at hlen;have hsl:=hs.sl;refine_lift fN fun _ _=>?_;clear hsl;rw [bH];go_loopw [19] (fun i wr=>∃ k:Nat,k≤ls.length∧i=.int .i64 k∧Ext w wr∧Own w.heap.size 1 9 wr s (aH (sQ low ls k))) (fun i _=>ls.length - (intOf i).toNat)
  case atStart=>exact ⟨0,Nat.zero_le _,rfl,x1,by simpa [CU]using hs⟩
  case round =>
   obtain ⟨k,hk,rfl,hx,ho⟩:=hrel;have hsl:=ho.sl;have hlen2:(aH (sQ low ls k)).length=ls.length:=by rw [bH,wU]
   by_cases hlt:k<ls.length
   ·have hp:=hsl.elem (pI _ _ _ (HJ low ls k hlt));have h254:ls[k].length≤254:=by have:=sR (List.getElem_mem hlt);rw [hfit.2.1]at this;omega
    refine_lift BW ?_;intro _ _ _ _;refine cB (Fv _ _ h254) fun w2 x2=>?_;have hsl:=hsl.ext x2;have ho:=ho.ext x2;have hx:=hx.trans x2;clear hp;refine_lift cL ?_;refine fZ (c:=aE (low ls[k])) (i:=k) rfl rfl rfl ho aC zDk rfl ?_;intro w3 o3 m3;have hx3:=ho.mvx m3 hx (Nat.le_refl _);rw [zS,← CV low ls k hlt]at o3;clear hx ho hsl;refine_lift cL ?_;exact ⟨⟨k+1,aC,rfl,hx3,o3⟩,by simp [intOf];omega⟩
   ·have:k=ls.length:=aC;subst this;rw [HI]at hsl;refine_lift LZ fun _ _ _=>?_;refine cB (Fi _ _ _ hsl (by simp;omega)) fun w2 x2=>?_;cases hj:mV (ls.map low) with
    | none =>
     refine_lift cL ?_;go_ret;exact ⟨by simp [fold,hl,hj],hx.trans x2⟩
    | some n =>
     refine_lift cL ?_;go_ret;exact ⟨by simp [fold,hl,hj],hx.trans x2⟩
theorem QB (h:i<l.length):l.drop i=l[i]::l.drop (i+1):=List.drop_eq_getElem_cons h
theorem QC (h:i<l.length):l.getD i 0=l[i]:=by simp [h]
theorem QD (h:i<l.length):hY (l.drop i)=if (l.getD i 0).toNat<1∨63<(l.getD i 0).toNat∨l.length - i - 1<(l.getD i 0).toNat then none else (hY (l.drop (i+1+(l.getD i 0).toNat))).map ((l.take (i+1+(l.getD i 0).toNat)).drop (i+1) :: ·):=by
 rw [QB h,QC h,mG];simp only [List.length_drop];rw [show l.length - (i+1)=l.length - i - 1 by omega]
 congr 1
 rw [List.drop_drop,List.drop_take];rw [show i+1+l[i].toNat - (i+1)=l[i].toNat by omega]
theorem ZD (nm:List UInt8) (w:World):Calls Tryz.prog 28 #[aE nm] w (kZ w fun v w'=>match aM nm with
 | none=>v=.tuple #[.slice none 0 0, .bool false]
 | some ls=>∃ s,v=.tuple #[s, .bool true]∧Own w.heap.size 1 9 w' s (aH ls)):=by
 by_cases h254:254<nm.length
 ·go_enter Tryz.func28,Tryz.ntmps28
  (repeat' first|((with_reducible refine aZ ?_);go_step)|((with_reducible refine aS ?_);first|refine dU ?_|(refine bG ?_ ?_<;>intro hc))|fail)
  go_ret2;exact ⟨_,rfl,Ext.refl _,by simp [aM,h254]⟩
 ·have hlab:aM nm=hY nm:=by rw [aM,if_neg h254]
  rw [hlab];go_enter Tryz.func28,Tryz.ntmps28
  (repeat' first|((with_reducible refine aZ ?_);go_step)|((with_reducible refine aS ?_);first|refine dU ?_|(refine bG ?_ ?_<;>intro hc))|fail)
  have h0:0≤nm.length:=Nat.zero_le _;go_loopw [4,5,6] (fun o a _ wr=>∃ (i:Nat) (pre:List (List UInt8)),i≤nm.length∧a=.int .i64 i∧Ext w wr∧Own w.heap.size 1 9 wr o (aH pre)∧pre.length≤i∧hY nm=(hY (nm.drop i)).map (pre ++ ·)) (fun _ a _ _=>nm.length - (intOf a).toNat)
  case atStart=>exact ⟨0,[],Nat.zero_le _,rfl,Ext.refl _,Own.nil _ _ _ _,Nat.le_refl _,aX⟩
  case round =>
   obtain ⟨i,pre,hi,rfl,hx,ho,hpl,hpar⟩:=hrel;by_cases hlt:i<nm.length
   ·rw [QD hlt]at hpar;have hb:(nm.getD i 0).toNat<256:=UInt8.toNat_lt _
    (repeat' first|((with_reducible refine aZ ?_);go_step)|((with_reducible refine aS ?_);first|refine dU ?_|(refine bG ?_ ?_<;>intro hc))|fail)
    rotate_left
    ·rw [if_neg aC,Option.map_map]at hpar;refine Bq [aE ((nm.take (i+1+(nm.getD i 0).toNat)).drop (i+1))] hx ho (by rw [bH];omega) ?_;intro s2 v2 w1 w2 _ _ x2 o2;refine aB ?_
     (repeat' first|((with_reducible refine aZ ?_);go_step)|((with_reducible refine aS ?_);first|refine dU ?_|(refine bG ?_ ?_<;>intro hc))|fail)
     refine ⟨⟨i+1+(nm.getD i 0).toNat,pre ++ [(nm.take (i+1+(nm.getD i 0).toNat)).drop (i+1)],aC,by go_num,x2,?_,by simp;omega,?_⟩,by simp [intOf];omega⟩
     ·simpa [aH]using o2
     ·rw [hpar];congr 1;funext x;simp
    all_goals
     go_ret2;exact ⟨_,rfl,hx,by rw [hpar,if_pos aC];rfl⟩
   ·have:i=nm.length:=aC;subst this;rw [List.drop_length,vI,Option.map_some,List.append_nil]at hpar
    (repeat' first|((with_reducible refine aZ ?_);go_step)|((with_reducible refine aS ?_);first|refine dU ?_|(refine bG ?_ ?_<;>intro hc))|fail)
    go_ret2;exact ⟨_,rfl,hx,by rw [hpar];exact ⟨_,rfl,ho⟩⟩
theorem NK {b:UInt8} (h:65≤b.toNat) (h2:b.toNat≤90):IntKind.wrap .u8 ((b.toNat:Int)+32)=((vJ b).toNat:Int):=by
 rw [vJ,if_pos ⟨h,h2⟩];have:(b+32).toNat=b.toNat+32:=by rw [UInt8.toNat_add];simp;omega
 rw [this];simp [IntKind.wrap,IntKind.bits,IntKind.signed];omega
theorem QE (l:List UInt8) (w:World) (hl:l.length≤4611686018427387904):Calls Tryz.prog 29 #[aE l] w (bC w (aE (low l))):=by
 go_enter Tryz.func29,Tryz.ntmps29
 (repeat' first|((with_reducible refine aZ ?_);go_step)|((with_reducible refine aS ?_);first|refine dU ?_|(refine bG ?_ ?_<;>intro hc))|fail)
 refine rP (e:=5) (l:=l) rfl rfl zDk zDk aC ?_;intro v w1 x1 o1;refine aB ?_;have hlb:(aL l).length=l.length:=by simp [aL]
 (repeat' first|((with_reducible refine aZ ?_);go_step)|((with_reducible refine aS ?_);first|refine dU ?_|(refine bG ?_ ?_<;>intro hc))|fail)
 go_loopw [4] (fun i wr=>∃ k:Nat,k≤l.length∧i=.int .i64 k∧Ext w wr∧Own w.heap.size 1 5 wr v (aL (nS l k))) (fun i _=>l.length - (intOf i).toNat)
 case atStart=>exact ⟨0,Nat.zero_le _,rfl,x1,by simpa [CT]using o1⟩
 case round =>
  obtain ⟨k,hk,rfl,hx,ho⟩:=hrel;have hsl:=ho.sl;have hlen:(aL (nS l k)).length=l.length:=by simp [aL,qJ]
  by_cases hlt:k<l.length
  ·have hp:=hsl.elem (zN _ _ _ (zH l k hlt))
   (repeat' first|((with_reducible refine aZ ?_);go_step)|((with_reducible refine aS ?_);first|refine dU ?_|(refine bG ?_ ?_<;>intro hc))|fail)
   ·refine fZ (c:=.int .u8 _) (i:=k) rfl rfl rfl ho aC zDk rfl ?_;intro w2 o2 m2;have hx2:=ho.mvx m2 hx (Nat.le_refl _);have e2:(aL (nS l k)).set k [Value.int .u8 (IntKind.u8.wrap (↑l[k].toNat+32))]=aL (nS l (k+1)):=by
     rw [vK l k hlt,← zO,NK aC aC]
    rw [e2]at o2;clear hx ho hsl hp
    (repeat' first|((with_reducible refine aZ ?_);go_step)|((with_reducible refine aS ?_);first|refine dU ?_|(refine bG ?_ ?_<;>intro hc))|fail)
    exact ⟨⟨k+1,aC,by go_num,hx2,o2⟩,by simp [intOf];omega⟩
   all_goals
    refine ⟨⟨k+1,aC,by go_num,hx,?_⟩,by simp [intOf];omega⟩;rw [vL l k hlt (EX aC)];exact ho
  ·have:k=l.length:=aC;subst this;rw [HH]at hsl hlen
   (repeat' first|((with_reducible refine aZ ?_);go_step)|((with_reducible refine aS ?_);first|refine dU ?_|(refine bG ?_ ?_<;>intro hc))|fail)
   go_ret;exact ⟨rfl,hx⟩
theorem Fj (h:Own B 1 9 w v (aH ls)):Calls Tryz.prog 154 #[v] w fun e w'=>e=.returned (.tuple #[])∧Own B 1 9 w' v (aH ls.reverse)∧Mv v.ownBlock w w':=by
 rcases h.form with ⟨rfl,h0⟩|⟨g,cap,rfl,hg,hB,hc,hm⟩
 ·have:ls=[]:=by simpa [aH]using h0
  subst this;refine (Tryz.slices_Reverse_string_empty none 0 w).mono ?_;rintro e w' ⟨rfl,rfl⟩;exact ⟨rfl,h,Mv.refl _ _⟩
 ·rw [bH]at h hm ⊢;refine (Tryz.slices_Reverse_string g 0 cap ls w (Own.holds h) hm).mono ?_;rintro e w' ⟨rfl,n,rfl⟩;have:=Own.putRow (ys:=ls.reverse) h aX n #[];rw [Sort.grow_empty]at this;exact ⟨rfl,this.1,this.2⟩
theorem Fy (h:Own B 1 9 w v (aH ls)) (hl:ls.length<4611686018427387904):Calls Tryz.prog 113 #[v] w fun e w'=>e=.returned (.tuple #[])∧Own B 1 9 w' v (aH (ls.mergeSort fun x y=>decide (x≤y)))∧Mv v.ownBlock w w':=by
 rcases h.form with ⟨rfl,h0⟩|⟨g,cap,rfl,hg,hB,hc,hm⟩
 ·have:ls=[]:=by simpa [aH]using h0
  subst this;refine (Tryz.slices_Sort_string_none none 0 w).mono ?_;rintro e w' ⟨rfl,rfl⟩;exact ⟨rfl,by simpa using h,Mv.refl _ _⟩
 ·rw [bH]at h hm ⊢;refine (Tryz.slices_Sort_string g 0 cap ls w (Own.holds h) hg hl).mono ?_;rintro e w' ⟨rfl,n,os,rfl⟩;have:=Own.putRow (ys:=ls.mergeSort fun x y=>decide (x≤y)) h (List.length_mergeSort _) n os;exact ⟨rfl,this.1,this.2⟩
theorem KE (ls:List (List UInt8)):(Lib.compact ls).length≤ls.length:=by
 unfold Lib.compact Lib.compactUpTo;rw [List.length_map];exact Nat.le_trans (List.length_filter_le _ _) aX
theorem Fz (h:Own B 1 9 w v (aH ls)):Calls Tryz.prog 114 #[v] w fun e w'=>∃ v',e=.returned v'∧Own B 1 9 w' v' (aH (Lib.compact ls))∧Mv v.ownBlock w w'∧v'.ownBlock=v.ownBlock:=by
 rcases h.form with ⟨rfl,h0⟩|⟨g,cap,rfl,hg,hB,hc,hm⟩
 ·have:ls=[]:=by simpa [aH]using h0
  subst this;refine (Tryz.slices_Compact_string_empty none 0 w).mono ?_;rintro e w' ⟨rfl,rfl⟩;exact ⟨_,rfl,h,Mv.refl _ _,rfl⟩
 ·rw [bH]at h hm hc ⊢;refine (Tryz.slices_Compact_string g 0 cap ls w (Own.holds h) hm hc).mono ?_;rintro e w' ⟨rfl,n,rfl⟩;have hle:=KE ls;have:=Own.putRow (ys:=Lib.compact ls++List.replicate (ls.length - (Lib.compact ls).length) []) h (by simp;omega) n #[];rw [Sort.grow_empty]at this;refine ⟨_,rfl,?_,this.2,rfl⟩;have h2:=this.1.short (m:=(Lib.compact ls).length) aX;rw [List.map_append,List.take_left' aX]at h2;exact h2
theorem Br (nm:List UInt8) (w:World):Calls Tryz.prog 98 #[aE nm] w (kZ w fun v w'=>match dO nm with
 | some ls=>∃ s,v=.tuple #[s, .bool true]∧Sl 1 w' s (aH ls)∧ls.length≤254
 | none=>∃ s,v=.tuple #[s, .bool false]):=by
 go_enter Tryz.func98,Tryz.ntmps98
 refine_lift LZ ?_;intro _ _ _;refine cB (vQ nm _) fun w1 x1=>?_;refine gY (Ed _ _) fun v w2 x2 hv=>?_;cases hl:aM (fold nm) with
 | none =>
  rw [hl]at hv;subst hv;refine_lift fN fun _ _=>?_;refine gS (Fj (ls:=[]) (Own.nil w2.heap.size 1 9 w2)) ?_;rintro e w3 ⟨rfl,_,m3⟩;refine ⟨_,rfl,?_⟩;refine_lift cL ?_;go_ret2;refine ⟨_,rfl,(x1.trans x2).move m3 (by rintro k ⟨⟩),?_⟩;simp [dO,hl]
 | some ls =>
  rw [hl]at hv;obtain ⟨s,rfl,hs⟩:=hv;refine_lift fN fun _ _=>?_;refine gS (Fj hs) ?_;rintro e w3 ⟨rfl,o3,m3⟩;refine ⟨_,rfl,?_⟩;refine_lift cL ?_;go_ret2;refine ⟨_,rfl,hs.mvx m3 (x1.trans x2) x1.size,?_⟩;have:=fM hl;simp only [dO,hl,Option.map_some];refine ⟨s,rfl,o3.sl,?_⟩;have h2:=kG ls;rw [this.2.1]at h2;simp;omega
theorem Fk (a:List UInt8) (w:World):Calls Tryz.prog 257 #[aE a] w (bC w (.bool false)):=by
 go_enter Tryz.func257,Tryz.ntmps257
 refine_lift cL ?_;go_ret;exact ⟨aX,Ext.refl _⟩
theorem Fl (a:List UInt8) (w:World):Calls Tryz.prog 253 #[aE a] w (bC w (.bool false)):=by
 go_enter Tryz.func253,Tryz.ntmps253
 refine_lift cL ?_;go_ret;exact ⟨aX,Ext.refl _⟩
theorem Ga (a b:List UInt8) (w:World):Calls Tryz.prog 227 #[aE a,aE b] w (bC w (.int .i64 (qK a b))):=by
 go_enter Tryz.func227,Tryz.ntmps227
 refine_lift fN fun _ _=>?_;refine wW (Fk _ _) fun w1 x1=>?_;refine_lift fN fun _ _=>?_;refine wW (Fk _ _) fun w2 x2=>?_;refine_lift XI (fun _ _ _ _=>?_) (fun _ _=>?_) (fun _=>?_)
 ·rename_i h;go_ret;exact ⟨by simp [qK,h],x1.trans x2⟩
 ·have h:=‹Op.bytesLess a b=false›;have h2:=‹(!(Op.bytesLess a b||a == b))=true›;go_ret;have h3:a≠b:=by intro e;subst e;simp at h2
  exact ⟨by simp [qK,h,h3],x1.trans x2⟩
 ·have h:=‹Op.bytesLess a b=false›;have h2:=‹(!(Op.bytesLess a b||a == b))=false›;go_ret;rw [h]at h2;have h3:a=b:=by simpa using h2
  subst h3;exact ⟨by simp [qK,h],x1.trans x2⟩
theorem Gb (a b:List UInt8) (w:World):Calls Tryz.prog 258 #[aE a,aE b] w (bC w (.int .i64 (qK a b))):=by
 go_enter Tryz.func258,Tryz.ntmps258
 refine_lift fN fun _ _=>?_;refine wW (Fl _ _) fun w1 x1=>?_;refine_lift fN fun _ _=>?_;refine wW (Fl _ _) fun w2 x2=>?_;refine_lift XI (fun _ _ _ _=>?_) (fun _ _=>?_) (fun _=>?_)
 ·rename_i h;go_ret;exact ⟨by simp [qK,h],x1.trans x2⟩
 ·have h:=‹Op.bytesLess a b=false›;have h2:=‹(!(Op.bytesLess a b||a == b))=true›;go_ret;have h3:a≠b:=by intro e;subst e;simp at h2
  exact ⟨by simp [qK,h,h3],x1.trans x2⟩
 ·have h:=‹Op.bytesLess a b=false›;have h2:=‹(!(Op.bytesLess a b||a == b))=false›;go_ret;rw [h]at h2;have h3:a=b:=by simpa using h2
  subst h3;exact ⟨by simp [qK,h],x1.trans x2⟩
theorem kH {l:List (List UInt8)} (h:k<l.length):(aH l)[k]? = some [aE l[k]]:=pI l k _ (List.getElem?_eq_getElem h)
theorem Gc (u v:Value) (xs ys:List (List UInt8)) (w:World) (hu:Sl 1 w u (aH xs)) (hv:Sl 1 w v (aH ys)):Calls Tryz.prog 228 #[u,v] w (bC w (.int .i64 (iV xs ys))):=by
 have hxl:=hu.le;have hyl:=hv.le;have hxe:=bH xs;have hye:=bH ys;go_enter Tryz.func228,Tryz.ntmps228
 refine_lift fN fun _ _=>?_;rw [hxe];go_loopw [11] (fun i wr=>∃ k:Nat,k≤xs.length∧k≤ys.length∧i=.int .i64 k∧Ext w wr∧iV xs ys=iV (xs.drop k) (ys.drop k)) (fun i _=>xs.length - (intOf i).toNat)
 case atStart=>exact ⟨0,Nat.zero_le _,Nat.zero_le _,rfl,Ext.refl _,rfl⟩
 case round =>
  obtain ⟨k,hk,hk2,rfl,hx,hrec⟩:=hrel;have hul:=hu.ext hx;have hvl:=hv.ext hx;by_cases hlt:k<xs.length
  ·have hp:=hul.elem (kH hlt);have hd:=List.drop_eq_getElem_cons hlt;by_cases hlt2:k<ys.length
   ·have hp2:=hvl.elem (kH hlt2);have hd2:=List.drop_eq_getElem_cons hlt2
    (repeat' first|((with_reducible refine aZ ?_);go_step)|((with_reducible refine aS ?_);first|refine dU ?_|(refine bG ?_ ?_<;>intro hc))|fail)
    refine wW (Gb _ _ _) fun w2 x2=>?_;have hx2:=hx.trans x2;clear hx hul hvl hp hp2;refine_lift KB (fun _=>?_) (fun _=>?_)
    ·rename_i hc;go_ret;refine ⟨?_,hx2⟩;rw [hrec,hd,hd2,iV,if_pos (by simpa using hc)];rfl
    ·rename_i hc;refine ⟨⟨k+1,aC,aC,rfl,hx2,?_⟩,by simp [intOf];omega⟩;rw [hrec,hd,hd2,iV,if_neg (by simpa using hc)]
   ·have:k=ys.length:=aC;subst this;refine_lift JS fun _ _ _ _ _ _=>?_;go_ret;refine ⟨?_,hx⟩;rw [hrec,hd,List.drop_length,iV];rfl
  ·have:k=xs.length:=aC;subst this;refine_lift US (fun _ _=>?_) (fun _ _ _ _=>?_)
   ·rename_i hc;go_ret;refine ⟨?_,hx⟩;have hlt2:xs.length<ys.length:=by rw [hxe,hye]at hc;omega
    rw [hrec,List.drop_length,List.drop_eq_getElem_cons hlt2,iV];rfl
   ·rename_i hc;go_ret;refine ⟨?_,hx⟩;have hlt2:xs.length=ys.length:=by rw [hxe,hye]at hc;omega
    rw [hrec,List.drop_length,hlt2,List.drop_length,iV];rfl
theorem Gd (a b:List UInt8) (w:World):Calls Tryz.prog 170 #[aE a,aE b] w (bC w (.int .i64 (pF a b))):=by
 go_enter Tryz.func170,Tryz.ntmps170
 refine_lift fN fun _ _=>?_;refine gY (Br a _) fun v w1 x1 hv=>?_;cases ha:dO a with
 | none =>
  rw [ha]at hv;obtain ⟨s,rfl⟩:=hv;refine_lift fN fun _ _=>?_;refine gY (Br b _) fun v w2 x2 hv=>?_;cases hb:dO b with
  | none =>
   rw [hb]at hv;obtain ⟨s2,rfl⟩:=hv;refine_lift BW fun _ _ _ _=>?_;refine wW (Ga _ _ _) fun w3 x3=>?_;refine_lift cL ?_;go_ret;exact ⟨by simp [pF,ha,hb],(x1.trans x2).trans x3⟩
  | some ys =>
   rw [hb]at hv;obtain ⟨s2,rfl,hs2,_⟩:=hv;refine_lift cL ?_;go_ret;exact ⟨by simp [pF,ha,hb],x1.trans x2⟩
 | some xs =>
  rw [ha]at hv;obtain ⟨s,rfl,hs,_⟩:=hv;refine_lift fN fun _ _=>?_;refine gY (Br b _) fun v w2 x2 hv=>?_;cases hb:dO b with
  | none =>
   rw [hb]at hv;obtain ⟨s2,rfl⟩:=hv;refine_lift cL ?_;go_ret;exact ⟨by simp [pF,ha,hb],x1.trans x2⟩
  | some ys =>
   rw [hb]at hv;obtain ⟨s2,rfl,hs2,_⟩:=hv;have hs:=hs.ext x2;refine_lift fN fun _ _=>?_;refine wW (Gc _ _ _ _ _ hs hs2) fun w3 x3=>?_;refine_lift cL ?_;go_ret;exact ⟨by simp [pF,ha,hb],(x1.trans x2).trans x3⟩
theorem PO (nm:List UInt8) (w:World):Calls Tryz.prog 52 #[aE nm] w (bC w (.int .i64 (if (aM nm).isSome then 0 else 1))):=by
 go_enter Tryz.func52,Tryz.ntmps52
 refine_lift BW fun _ _ _ _=>?_;refine gY (Ed nm _) fun v w1 x1 hv=>?_;cases hl:aM nm with
 | none =>
  rw [hl]at hv;subst hv;refine_lift cL ?_;go_ret;exact ⟨by simp [hl],x1⟩
 | some ls =>
  rw [hl]at hv;obtain ⟨s,rfl,_⟩:=hv;refine_lift cL ?_;go_ret;exact ⟨by simp [hl],x1⟩
theorem Ek (nm:List UInt8) (w:World) (hl:nm.length≤9223372036854775806):Calls Tryz.prog 231 #[aE nm] w (bC w (if (aM nm).isSome=true then .tuple #[aE (nm ++ [0]), .int .i64 0]else .tuple #[aE [], .int .i64 1])):=by
 have h27:=fun w=>PO nm w;cases hls:aM nm with
 | none =>
  simp only [hls,Option.isSome_none,Bool.false_eq_true,if_false]at h27 ⊢;go_enter Tryz.func231,Tryz.ntmps231
  refine_lift BW fun _ _ _ _=>?_;refine wW (h27 _) fun w1 x1=>?_;refine_lift yL fun _=>?_;go_ret2;exact ⟨rfl,x1⟩
 | some ls =>
  simp only [hls,Option.isSome_some,if_true]at h27 ⊢;go_enter Tryz.func231,Tryz.ntmps231
  refine_lift BW fun _ _ _ _=>?_;refine wW (h27 _) fun w1 x1=>?_;refine_lift cL ?_;go_ret2;exact ⟨rfl,x1⟩
theorem Fm (s:List UInt8) (w:World) (hl:s.length≤9223372036854775807):Calls Tryz.prog 111 #[aE s] w (bC w (.tuple #[aE ((jR s).getD []), .bool (jR s).isSome])):=by
 have h27:=fun w=>PO (Lib.trimSuffix s [0]) w;go_enter Tryz.func111,Tryz.ntmps111
 refine_lift fN fun _ _=>?_;refine gS (Tryz.strings_CutSuffix ⟨s.toArray⟩ ⟨[0].toArray⟩ _ (by rw [fD];exact hl)) ?_;rintro e w1 ⟨rfl,rfl⟩;refine ⟨_,rfl,?_⟩;refine aB ?_;cases hh:Lib.hasSuffix s [0] with
 | false =>
  refine_lift cL ?_;go_ret2;refine ⟨?_,Ext.refl _⟩;simp only [jR,hh,Bool.false_eq_true,false_and,if_false];rfl
 | true =>
  cases hls:aM (Lib.trimSuffix s [0]) with
  | none =>
   simp only [hls,Option.isSome_none,Bool.false_eq_true,if_false]at h27;refine_lift BW fun _ _ _ _=>?_
   all_goals try (exact absurd ‹false=true› Bool.false_ne_true)
   refine wW (h27 _) fun w2 x2=>?_;refine_lift yL fun _=>?_;go_ret2;refine ⟨?_,x2⟩;simp only [jR,hh,hls,Option.isSome_none,Bool.false_eq_true,and_false,if_false];rfl
  | some ls =>
   simp only [hls,Option.isSome_some,if_true]at h27;refine_lift BW fun _ _ _ _=>?_
   all_goals try (exact absurd ‹false=true› Bool.false_ne_true)
   refine wW (h27 _) fun w2 x2=>?_;refine_lift cL ?_;go_ret2;refine ⟨?_,x2⟩;simp only [jR,hh,hls,Option.isSome_some,and_self,if_true];rfl
theorem Ge (k:Int) (w:World):Calls Tryz.prog 110 #[.int .i64 k] w (bC w (.int .i64 (jS k))):=by
 go_enter Tryz.func110,Tryz.ntmps110
 (repeat' first|((with_reducible refine aZ ?_);go_step)|((with_reducible refine aS ?_);first|refine dU ?_|(refine bG ?_ ?_<;>intro hc))|fail)
 all_goals
  go_ret;refine ⟨?_,Ext.refl _⟩;simp [jS, *]
theorem Gf (s:List UInt8) (w:World) (hl:s.length≤4611686018427387904):Calls Tryz.prog 207 #[aE s] w (bC w (.bool (EY s))):=by
 go_enter Tryz.func207,Tryz.ntmps207
 refine_lift fN fun _ _=>?_;go_loopw [0] (fun s2 wr=>wr=w∧∃ r:List UInt8,s2=aE r∧r.length≤s.length∧sU s=sU r) (fun s2 _=>EQ s2)
 case atStart=>exact ⟨rfl,s,rfl,Nat.le_refl _,rfl⟩
 case round =>
  obtain ⟨rfl,r,rfl,hr,hrec⟩:=hrel;cases r with
  | nil =>
   refine_lift cL ?_;go_ret;refine ⟨?_,Ext.refl _⟩;rw [EY,hrec];simp [sU,sT]
  | cons k t =>
   have hk:k.toNat<256:=k.toNat_lt;have hne:s≠[]:=by intro e;subst e;simp at hr
   refine_lift US (fun _ _=>?_) (fun _ _ _ _=>?_)
   ·have hc:=‹((k::t).length:Int)<1+(k.toNat:Int)›;go_ret;refine ⟨?_,Ext.refl _⟩;rw [EY,hrec,wV,if_pos (by simp at hc;omega)];simp
   ·have hc:=‹1+(k.toNat:Int)≤((k::t).length:Int)›;have e:(1+(k.toNat:Int)).toNat=k.toNat+1:=aC;rw [e,List.drop_succ_cons];refine ⟨⟨trivial,_,rfl,by simp at hr ⊢;omega,?_⟩,by simp [yW];omega⟩;rw [hrec,wV,if_neg (by simp at hc;omega)]
theorem ZF (k:Int) (d:List UInt8) (w:World) (hl:d.length≤9223372036854775807):Calls Tryz.prog 56 #[.int .i64 k,aE d] w (bC w (.tuple #[aE (aQ k d).1, .int .i64 (aQ k d).2])):=by
 go_enter Tryz.func56,Tryz.ntmps56
 refine_lift fN fun _ _=>?_;refine wW (Ge _ _) fun w1 x1=>?_
 (repeat' first|((with_reducible refine aZ ?_);go_step)|((with_reducible refine aS ?_);first|refine dU ?_|(refine bG ?_ ?_<;>intro hc))|fail)
 ·have hc:=‹jS k<0›;go_ret2;refine ⟨?_,x1⟩;rw [aQ,if_pos hc];rfl
 ·have hc:¬ jS k<0:=by have:=‹0≤jS k›;omega
  have hc2:=‹(d.length:Int)<jS k›;go_ret2;refine ⟨?_,x1⟩;rw [aQ,if_neg hc,if_pos hc2];rfl
 ·have hc:¬ jS k<0:=by have:=‹0≤jS k›;omega
  have hc2:¬ (d.length:Int)<jS k:=by have:=‹jS k≤(d.length:Int)›;omega
  refine wW (Fm (d.drop (jS k).toNat) _ (by simp;omega)) fun w2 x2=>?_;cases hh:jR (d.drop (jS k).toNat) with
  | none =>
   simp only [hh,Option.isSome_none,Option.getD_none];refine_lift cL ?_;go_ret2;refine ⟨?_,x1.trans x2⟩;rw [aQ,if_neg hc,if_neg hc2,hh];rfl
  | some n =>
   simp only [hh,Option.isSome_some,Option.getD_some];refine_lift cL ?_;go_ret2;refine ⟨?_,x1.trans x2⟩;rw [aQ,if_neg hc,if_neg hc2,hh];rfl
theorem UV (h:k<s.length):s.getD k 0=s[k]:=by simp [h]
theorem Fo (s:List UInt8) (w:World) (hl:s.length≤4611686018427387904):Calls Tryz.prog 177 #[aE s] w (bC w (.tuple #[aE (cH s).1,aE (cH s).2.1, .bool (cH s).2.2])):=by
 go_enter Tryz.func177,Tryz.ntmps177
 refine_lift fN fun _ _=>?_;go_loopw [5] (fun i wr=>wr=w∧∃ k:Nat,i=.int .i64 k∧k≤s.length+256∧oI s=k+oI (s.drop k)) (fun i _=>s.length+256 - (intOf i).toNat)
 case atStart=>exact ⟨rfl,0,rfl,aC,aX⟩
 case round =>
  obtain ⟨rfl,k,rfl,hk,hrec⟩:=hrel;by_cases hlt:k<s.length
  ·have hd:=List.drop_eq_getElem_cons hlt;have hb:(s.getD k 0).toNat<256:=UInt8.toNat_lt _;have hg:=UV hlt
   (repeat' first|((with_reducible refine aZ ?_);go_step)|((with_reducible refine aS ?_);first|refine dU ?_|(refine bG ?_ ?_<;>intro hc))|fail)
   ·have hc:=‹(!decide (((s.getD k 0).toNat:Int)=0))=true›;have hne:(s.getD k 0).toNat≠0:=by simpa using hc
    go_roundw
    case rel =>
     refine ⟨trivial,k+(1+(s.getD k 0).toNat),by congr 1,aC,?_⟩;rw [hrec,hd,zK,← hg,if_neg hne,List.drop_drop];rw [show k+1+(s.getD k 0).toNat=k+(1+(s.getD k 0).toNat) by omega];omega
    case measure=>simp only [intOf];omega
   ·have hc:=‹(!decide (((s.getD k 0).toNat:Int)=0))=false›;have hz:(s.getD k 0).toNat=0:=by simpa using hc
    have hw:oI s=k:=by rw [hrec,hd,zK,← hg,if_pos hz];rfl
    have hf:cH s=((jR (s.take (k+1))).getD [],s.drop (k+1),(jR (s.take (k+1))).isSome):=by
     rw [cH,hw,if_neg aC]
    refine bK (enters_of Tryz.func111 rfl rfl) rfl rfl (Fm _ _ (by simp;omega)) ?_;intro w2 x2;refine aB ?_;refine_lift fN fun _ _=>?_;refine dA zDk zDk ?_
    repeat' (first|((first|(with_reducible apply fL)|((with_reducible apply PT);(rfl);(rfl);(with_reducible rfl)));(intro _ _;exact rn);(refine aB ?_))|((with_reducible apply CS);(rfl);(rfl);(first|(with_reducible exact (rfl:true = !false))|(with_reducible exact (rfl:false = !true))|(exact Bool.not_false.symm)|(exact Bool.not_true.symm));(refine aB ?_))|(with_reducible (apply LU)))
    intro w3 x3;refine_lift cL ?_;refine bodyPost_ret (results_tmp3 rfl _ _ _) rfl ⟨?_,x2.trans x3⟩;rw [hf];rfl
  ·refine_lift BW fun hc _ _ _=>?_;refine bodyPost_ret (results_tmp3 rfl _ _ _) rfl ⟨?_,Ext.refl _⟩;have hw:s.length≤oI s:=aC;rw [cH,if_pos hw];rfl
theorem Ce (r:List UInt8) (i:Nat) (p:Value) (w:World) (hp:Pts w p [aE r]) (hr:r.length=20) (hi:i<5):Calls Tryz.prog 178 #[.int .i64 i,p] w (bC w (.int .i64 (numP r i 4:Nat))):=by
 go_enter Tryz.func178,Tryz.ntmps178
 refine_lift fN fun _ _=>?_;go_loopw [4,6] (fun n j wr=>wr=w∧∃ k:Nat,k≤4∧j=.int .i64 k∧n=.int .i64 (numP r i k:Nat)) (fun _ j _=>4 - (intOf j).toNat)
 case atStart=>exact ⟨rfl,0,aC,rfl,rfl⟩
 case round =>
  obtain ⟨rfl,k,hk,rfl,rfl⟩:=hrel;by_cases hlt:k<4
  ·have hn:=LX r i k;have hn2:numP r i k*256<4294967296:=by
    have:256^k≤256^3:=Nat.pow_le_pow_right aC aC;omega
   have hb:(r.getD (4*i+k) 0).toNat<256:=UInt8.toNat_lt _;have hb2:(r.getD (4*(i:Int)+(k:Int)).toNat 0).toNat<256:=UInt8.toNat_lt _;have e3:(4*(i:Int)+(k:Int)).toNat=4*i+k:=aC;refine_lift yL fun _=>?_;refine ⟨⟨trivial,k+1,aC,rfl,?_⟩,by simp [intOf];omega⟩;rw [numP]
  ·have:k=4:=aC;subst this;refine_lift yL fun _=>?_;go_ret;exact ⟨rfl,Ext.refl _⟩
theorem CZ (n:Nat):IntKind.wrap .u8 (n:Int)=((UInt8.ofNat n).toNat:Nat):=by
 simp only [IntKind.wrap,IntKind.bits,IntKind.signed,UInt8.toNat_ofNat'];simp
theorem Fp (n:Nat) (h:Own B 1 5 w v (aL l)) (hB:B≤w.heap.size) (hn:n<4294967296) (hl:l.length≤1000000):Calls Tryz.prog 232 #[v, .int .i64 n] w fun e w'=>∃ v',e=.returned v'∧Own B 1 5 w' v' (aL (l++KA n))∧Mv v.ownBlock w w':=by
 go_enter Tryz.func232,Tryz.ntmps232
 refine_lift LZ ?_;intro _ _ _;have e1:IntKind.wrap .u8 ((n:Int) / 2^Int.toNat 24)=((UInt8.ofNat (n / 16777216)).toNat:Nat):=by
  rw [← CZ];congr 1
 have e2:IntKind.wrap .u8 ((n:Int) / 2^Int.toNat 16)=((UInt8.ofNat (n / 65536)).toNat:Nat):=by
  rw [← CZ];congr 1
 have e3:IntKind.wrap .u8 ((n:Int) / 2^Int.toNat 8)=((UInt8.ofNat (n / 256)).toNat:Nat):=by
  rw [← CZ];congr 1
 have e4:IntKind.wrap .u8 (n:Int)=((UInt8.ofNat n).toNat:Nat):=CZ n;rw [e1,e2,e3,e4];refine oD (xs:=[.int .u8 ((UInt8.ofNat (n / 16777216)).toNat:Nat), .int .u8 ((UInt8.ofNat (n / 65536)).toNat:Nat), .int .u8 ((UInt8.ofNat (n / 256)).toNat:Nat), .int .u8 ((UInt8.ofNat n).toNat:Nat)]) (k:=1) (e:=5) (bytes:=1) (by intro y hy;simp at hy;rcases hy with rfl|rfl|rfl|rfl<;>rfl) fun v1 w1 x1 s1 sl1 _=>?_;refine aB ?_;have hll:(aL l).length=l.length:=by simp [aL]
 refine jZ (B:=B) (k:=1) (e:=5) (bytes:=1) (x:=v1) rfl (h.ext x1) rfl sl1 zDk (by simp [Value.cells,Value.oneCell']) (Nat.le_trans hB x1.size) (by rw [hll];simp;omega) (by rw [hll];simp;omega) ?_;intro v2 w2 o2 m2;refine aB ?_;refine_lift cL ?_;go_ret;refine ⟨v2,rfl,?_,(x1.mv _).trans m2⟩;have:aL (l++KA n)=aL l++aL (KA n):=by simp [aL]
 rw [this];exact o2
structure RSet where
 name:List UInt8
 kind:Int
 ttl:Int
 data:List (List UInt8)
 deriving DecidableEq,Inhabited
structure SetAt (w:World) (cs:List Value) (s:RSet):Prop where
 out:∃ v,cs=[aE s.name, .int .i64 s.kind, .int .i64 s.ttl,v]∧Sl 1 w v (aH s.data)
theorem SetAt.ext {cs:List Value} {s:RSet} (h:SetAt w cs s) (hx:Ext w w'):SetAt w' cs s:=by
 obtain ⟨v,h1,h2⟩:=h;exact ⟨v,h1,h2.ext hx⟩
theorem Gg (v:Value) (a b:Int) (w:World) (h:Sl 1 w v [[.int .i64 a],[.int .i64 b]]):Calls Tryz.prog 169 #[v] w (bC w (.int .i64 (if a≠0 then a else b))):=by
 have h0:=h.elem (i:=0) rfl;have h1:=h.elem (i:=1) rfl;go_enter Tryz.func169,Tryz.ntmps169
 refine_lift fN fun _ _=>?_;go_loopw [8] (fun i wr=>wr=w∧∃ k:Nat,i=.int .i64 k∧k≤2∧(1≤k→a=0)∧(2≤k→b=0)) (fun i _=>2 - (intOf i).toNat)
 case atStart=>exact ⟨rfl,0,rfl,aC,aC,aC⟩
 case round =>
  obtain ⟨rfl,k,rfl,hk,ha,hb⟩:=hrel;have hk3:k=0∨k=1∨k=2:=aC;rcases hk3 with rfl|rfl|rfl
  ·refine_lift US (fun _ _=>?_) (fun _ _ _ _=>?_)
   ·go_ret;refine ⟨?_,Ext.refl _⟩;have hne:a≠0:=by simp at *;assumption
    rw [if_pos hne];rfl
   ·have h0:a=0:=by simp at *;assumption
    exact ⟨⟨trivial,1,rfl,aC,fun _=>h0,aC⟩,by simp [intOf]⟩
  ·have ha:=ha aC;refine_lift US (fun _ _=>?_) (fun _ _ _ _=>?_)
   ·go_ret;refine ⟨?_,Ext.refl _⟩;rw [if_neg (by simpa using ha)];rfl
   ·have h0:b=0:=by simp at *;assumption
    exact ⟨⟨trivial,2,rfl,aC,fun _=>ha,fun _=>h0⟩,by simp [intOf]⟩
  ·have ha:=ha aC;have hb:=hb aC;refine_lift yL fun _=>?_;go_ret;refine ⟨?_,Ext.refl _⟩;rw [if_neg (by simpa using ha),hb];rfl
theorem Fq (s:RSet) (v:Value) (d:List UInt8) (w:World):Calls Tryz.prog 159 #[.agg #[aE s.name, .int .i64 s.kind, .int .i64 s.ttl,v],aE d] w (bC w (.agg #[aE s.name, .int .i64 s.kind, .int .i64 s.ttl,aE d])):=by
 go_enter Tryz.func159,Tryz.ntmps159
 refine_lift mT fun _ _=>?_;refine mW (vs:=[aE s.name, .int .i64 s.kind, .int .i64 s.ttl,v]) fun p w1 x1 hp=>?_;refine aB ?_;refine dX (z:=[aE [], .int .i64 0, .int .i64 0,aE []]) fun w2 x2 s2 h2=>?_;have hp:=hp.ext x2;refine_lift fN fun _ _=>?_;refine cG (v:=.agg #[aE s.name, .int .i64 s.kind, .int .i64 s.ttl,aE d]) rfl (Runs.build rfl (by kernel_rfl)) ?_;refine aB ?_;refine dL (v:=.agg #[aE s.name, .int .i64 s.kind, .int .i64 s.ttl,aE d]) h2 (by simp [Value.cells,Value.oneCell',aE]) fun w3 p3=>?_;have x13:=cJ (x1.trans x2) p3;have h3:=p3.this;refine_lift cL ?_;exact bodyPost_ret (fG (cs:=[aE s.name, .int .i64 s.kind, .int .i64 s.ttl,aE d]) rfl rfl h3 (zDk:eF Tryz.prog 37 4=true)) rfl ⟨rfl,x13⟩
structure SetsAt (w:World) (v:Value) (l:List RSet):Prop where
 out:∃ css,Sl 4 w v css∧css.length=l.length∧∀ (i:Nat) (s:RSet),l[i]? = some s→∃ x,css[i]? = some [aE s.name, .int .i64 s.kind, .int .i64 s.ttl,x]∧Sl 1 w x (aH s.data)
theorem SetsAt.ext {l:List RSet} (h:SetsAt w v l) (hx:Ext w w'):SetsAt w' v l:=by
 obtain ⟨css,h1,h2,h3⟩:=h;exact ⟨css,h1.ext hx,h2,fun i s hi=>let ⟨x,a,b⟩:=h3 i s hi;⟨x,a,b.ext hx⟩⟩
theorem SetsAt.elem {l:List RSet} (h:SetsAt w v l) {s:RSet} (hi:l[i]? = some s):∃ x,Pts w (cC v (i*4)) [aE s.name, .int .i64 s.kind, .int .i64 s.ttl,x]∧Sl 1 w x (aH s.data):=by
 obtain ⟨css,h1,h2,h3⟩:=h;obtain ⟨x,a,b⟩:=h3 i s hi;exact ⟨x,h1.elem a,b⟩
theorem SetsAt.sl {l:List RSet} (h:SetsAt w v l):∃ css:List (List Value),Sl 4 w v css∧css.length=l.length:=by
 obtain ⟨css,h1,h2,h3⟩:=h;exact ⟨css,h1,h2⟩
def Rec.cells (r:Rec):List Value:=[aE r.name, .int .i64 r.kind, .int .i64 r.ttl,aE r.data]
def aF (l:List Rec):List (List Value):=l.map Rec.cells
theorem aJ (l:List Rec):(aF l).length=l.length:=by simp [aF]
theorem eX {l:List Rec} (h:k<l.length):(aF l)[k]? = some [aE l[k].name, .int .i64 l[k].kind, .int .i64 l[k].ttl,aE l[k].data]:=by simp [aF,h,Rec.cells]
theorem uE {α:Type} {a b:List α} (h:a.take k=b.take k) (ha:k<a.length) (hb:k<b.length) (he:a[k]=b[k]):a.take (k+1)=b.take (k+1):=by
 rw [List.take_add_one,List.take_add_one,List.getElem?_eq_getElem ha,List.getElem?_eq_getElem hb,h,he]
theorem HP {α:Type} {a b:List α} (ha:k<a.length) (hb:k<b.length) (he:a[k]≠b[k]):a≠b:=by
 rintro rfl;exact he rfl
def NL (a b:Int):Int:=if a<b then -1 else if b<a then 1 else 0
def eT (na nb:List UInt8) (ka kb:Int):Int:=if pF na nb≠0 then pF na nb else NL ka kb
theorem Gh (a b:Int) (w:World):Calls Tryz.prog 171 #[.int .i64 a, .int .i64 b] w (bC w (.int .i64 (NL a b))):=by
 refine (Tryz.cmp_Compare_int a b w).mono ?_;rintro e w' ⟨rfl,rfl⟩;refine ⟨?_,Ext.refl _⟩;unfold NL Lib.compareInt;rfl
theorem Fs (na nb:List UInt8) (ka kb ta tb:Int) (va vb:Value) (w:World):Calls Tryz.prog 116 #[.agg #[aE na, .int .i64 ka, .int .i64 ta,va], .agg #[aE nb, .int .i64 kb, .int .i64 tb,vb]] w (bC w (.int .i64 (eT na nb ka kb))):=by
 go_enter Tryz.func116,Tryz.ntmps116
 refine_lift mT fun _ _=>?_;refine mW (vs:=[aE na, .int .i64 ka, .int .i64 ta,va]) fun p w1 x1 hp=>?_;refine aB ?_;refine mW (vs:=[aE nb, .int .i64 kb, .int .i64 tb,vb]) fun q w2 x2 hq=>?_;refine aB ?_;refine_lift fN fun _ _=>?_;refine cQ (S:=Ext w2) zDk ?_;intro w3 x3 _;refine tk 0 ?_;refine aB ?_;refine tk 1 ?_;refine aB ?_;refine tk 2 ?_;refine aB ?_;refine tk 3 ?_;refine aB ?_;refine tk 5 ?_;refine aB ?_;refine tk 6 ?_;refine aB ?_;refine tk 7 ?_;refine aB ?_;refine tk 8 ?_;refine aB ?_;refine bZ (i:=4) zDk rfl rfl ?_;refine cB (Gd _ _ _) fun w4 x4=>?_;refine aD ⟨by exact fP,?_⟩;refine bZ (i:=9) zDk rfl rfl ?_;refine cB (Gh _ _ _) fun w5 x5=>?_;refine aD ⟨by exact fP,?_⟩;refine bZ (i:=10) zDk rfl rfl ?_;refine oD (e:=3) (k:=1) (bytes:=8) (xs:=[.int .i64 (pF na nb), .int .i64 (NL ka kb)]) (by simp [Value.cells]) fun v w6 x6 _ h6 _=>?_;refine aB ?_;refine aD ⟨by exact fP,?_⟩;refine bZ (i:=11) zDk rfl rfl ?_;refine cB (Gg _ _ _ _ h6) fun w7 x7=>?_;refine aD ⟨by exact fP,?_⟩;refine tk 12 ?_;refine aB ?_;refine cO zDk ?_;refine_lift cL ?_;go_ret;exact ⟨rfl,by exact fP⟩
end Go.Proofs.X
namespace Go.Proofs.X
open Go.RowKit
structure SetC where
 name:List UInt8
 kind:Int
 ttl:Int
 a:Option Addr
 n:Nat
 c:Nat
 d:List (List UInt8)
 deriving Inhabited
def SetC.v (s:SetC):Value:=.slice s.a s.n s.c
def SetC.cells (s:SetC):List Value:=[aE s.name, .int .i64 s.kind, .int .i64 s.ttl,s.v]
def UW (x y:SetC):Int:=eT x.name y.name x.kind y.kind
theorem mI:TPO (fun x y:List UInt8×Int=>eT x.1 y.1 x.2 y.2) :=
 (PX.comap Prod.fst).lex (UN.comap Prod.snd)
theorem QF:TPO UW:=mI.comap fun s:SetC=>(s.name,s.kind)
theorem Gi {B g cap:Nat} (l:List SetC) (w:World) (h:Own B 4 136 w (.slice (some ⟨g,0,none⟩) l.length cap) (l.map SetC.cells)) (hl:l.length<4611686018427387904) :
 Calls Tryz.prog 115 #[.slice (some ⟨g,0,none⟩) l.length cap, .func (.func 116) #[] #[]] w fun e w'=>e=.returned (.tuple #[])∧∃ l':List SetC,l'.Perm l∧(∀ i j (hi:i<j) (hj:j<l'.length),0≤UW l'[j] l'[i])∧Own B 4 136 w' (.slice (some ⟨g,0,none⟩) l'.length cap) (l'.map SetC.cells)∧Mv (some g) w w':=by
 have hlen:(l.map SetC.cells).length=l.length:=by simp
 have h0:=h
 rw [← hlen]at h0
 have eg:∀ args w,(callFunc 116 args).run Tryz.prog w=.ok (.enter 116 args) w:=enters_of Tryz.func116 (by kernel_rfl) rfl
 have hk:∀ x,(SetC.cells x).length=4:=fun _=>rfl
 have hfl:=uA SetC.cells 4 hk l
 have hH:Sort.HoldsK SetC.cells 4 w g 0 l.toArray:=by
  unfold Sort.HoldsK
  have:=h.holdsF
  rw [← hfl]at this
  simpa using this
 have hcmp:Go.Proofs.CmpLays Tryz.prog 116 #[] SetC.cells 4 UW g 0 l.toArray.size w:=by
  intro m os dk hdk x y
  refine (Fs x.name y.name x.kind y.kind x.ttl y.ttl x.v y.v _).mono ?_
  rintro e w' ⟨rfl,hx⟩
  exact ⟨rfl,hx.grown⟩
 have hc:=Go.Proofs.AnyQ.slices_SortFunc Tryz.sortSet 4 (fun w=>jW (u:=(Tryz.prog.underlying 136).getD (.struct #[])) (by rfl) (by rfl)) (fun w=>by obtain ⟨i,hq,hz⟩:=rN (iO (show dG Tryz.prog 136 4=true by decide +kernel));exact (by simp [sizeOf,typeInfo,hq,hz]:(Go.sizeOf 136).run Tryz.prog w=.ok 4 w)) SetC.cells hk (fun x v hv=>by
  simp only [SetC.cells,List.mem_cons,List.not_mem_nil,or_false]at hv
  rcases hv with rfl|rfl|rfl|rfl<;>rfl) UW QF.swo 116 #[] g 0 cap l.toArray w eg hcmp hH (h.block g rfl).2 (by simpa using hl)
 change Calls Tryz.prog 115 _ _ _ at hc
 refine hc.mono ?_
 rintro e w' ⟨rfl,d',n,os,hp,hs,rfl⟩
 obtain ⟨p1,p2,p3⟩:=hp
 have hd:d'.toList.length=l.length:=by simpa using p1
 have hfl2:=uA SetC.cells 4 hk d'.toList
 have hperm:d'.toList.Perm l:=by
  have e1:d'.extract 0 l.toArray.size=d':=by rw [← p1];simp
  have e2:l.toArray.extract 0 l.toArray.size=l.toArray:=by simp
  rw [e1,e2]at p3
  simpa using p3
 have hput:=h0.putRowF (fs:=d'.toList.map SetC.cells) (by simpa using hd) (by intro x hx;obtain ⟨y,_,rfl⟩:=List.mem_map.1 hx;rfl) n os
 have hrow:Go.Proofs.sortWorldK SetC.cells 4 w g 0 n d' os=Sort.grow (Sort.putRow id (Sort.ahead w n) g 0 (d'.toList.map SetC.cells).flatten.toArray) os:=by
  unfold Go.Proofs.sortWorldK Sort.putRowK
  rw [← hfl2]
 rw [hrow]
 refine ⟨rfl,d'.toList,hperm,?_,?_,hput.2⟩
 ·intro i j hi hj
  have hjs:j<d'.size:=by simpa using hj
  have:=hs i j (Nat.zero_le _) hi (by rw [← p1];exact hjs)
  rw [getElem!_pos d' j hjs,getElem!_pos d' i (by omega)]at this
  simp only [Go.Proofs.ltOf,decide_eq_false_iff_not]at this
  simp only [Array.getElem_toList]
  omega
 ·have:=hput.1
  rw [hlen]at this
  rw [hd]
  exact this
theorem ZG (v:Value) (w:World):Calls Tryz.prog 115 #[.slice none 0 0,v] w fun e w'=>e=.returned (.tuple #[])∧w'=w:=by
 have h:=Go.Proofs.AnyF.slices_SortFunc_none Tryz.sortSet none 0 v w
 change Calls Tryz.prog 115 _ _ _ at h
 exact h
variable {cs:Array Value} {held:Bool} {qt:Int} {ps rs:List (List UInt8×Nat)} {ls:List (List UInt8)} {css css0 es:List (List Value)} {d l m n o qn s t x y z:List UInt8} {B a b base c e fuel i j k p q:Nat} {fz:Nat×Nat} {row:Option Nat} {r u v:Value} {w w' w0 w1 w2:World}
def bJ (s:RSet) (r:Rec):Bool:=decide (s.name=fold r.name)&&decide (s.kind=r.kind)
def lD (s:RSet) (r:Rec):RSet:=⟨s.name,s.kind,min s.ttl r.ttl,s.data ++ [r.data]⟩
def eD:List RSet→Rec→List RSet
 | [],r=>[⟨fold r.name,r.kind,r.ttl,[r.data]⟩]
 | s::l,r=>if bJ s r=true then lD s r::l else s::eD l r
def wX (gs:List RSet):Prop:=∀ (i j:Nat) s t,gs[i]? = some s→gs[j]? = some t→i≠j→¬ (s.name=t.name∧s.kind=t.kind)
theorem DA {r:Rec}:∀ {gs:List RSet} {i:Nat} {s:RSet},gs[i]? = some s→bJ s r=true→wX gs→eD gs r=gs.set i (lD s r)
 | [],i,s,h,_,_=>by simp at h
 | a::l,0,s,h,hm,_=>by
   cases h
   simp [eD,hm]
 | a::l,i+1,s,h,hm,hd=>by
   have ha:bJ a r=false:=by
    cases hx:bJ a r with
    | false=>rfl
    | true =>
     exfalso
     simp only [bJ,Bool.and_eq_true,decide_eq_true_eq]at hm hx;exact hd 0 (i+1) a s rfl h aC ⟨by rw [hx.1,hm.1],by rw [hx.2,hm.2]⟩
   have:=DA (gs:=l) (i:=i) (by simpa using h) hm (fun p q s t hp hq hpq=>hd (p+1) (q+1) s t (by simpa using hp) (by simpa using hq) aC);simp [eD,ha,this]
theorem zT {r:Rec}:∀ {gs:List RSet},(∀ s∈gs,bJ s r=false)→eD gs r=gs ++ [⟨fold r.name,r.kind,r.ttl,[r.data]⟩]
 | [],_=>rfl
 | a::l,h=>by
   have:=zT (gs:=l) (fun s hs=>h s (by simp [hs]));simp [eD,h a aX,this]
theorem sV {r:Rec}:∀ {gs:List RSet} {s:RSet},s∈eD gs r→(∃ t∈gs,t.name=s.name∧t.kind=s.kind)∨(s.name=fold r.name∧s.kind=r.kind)
 | [],s,h=>by
   simp only [eD,List.mem_singleton]at h;subst h;exact .inr ⟨rfl,rfl⟩
 | a::l,s,h=>by
   unfold eD at h;split at h
   ·rename_i hm;simp only [bJ,Bool.and_eq_true,decide_eq_true_eq]at hm;rcases List.mem_cons.1 h with rfl|h
    ·exact .inr ⟨hm.1,hm.2⟩
    ·exact .inl ⟨s,by simp [h],rfl,rfl⟩
   ·rcases List.mem_cons.1 h with rfl|h
    ·exact .inl ⟨s,aX,rfl,rfl⟩
    ·rcases sV h with ⟨t,ht,h2⟩|h2
     ·exact .inl ⟨t,by simp [ht],h2⟩
     ·exact .inr h2
theorem iC {gs:List RSet}:wX gs↔gs.Pairwise fun s t=>¬ (s.name=t.name∧s.kind=t.kind):=by
 rw [List.pairwise_iff_getElem];constructor
 ·intro h i j hi hj hij;exact h i j _ _ (List.getElem?_eq_getElem hi) (List.getElem?_eq_getElem hj) aC
 ·intro h i j s t hs ht hij;obtain ⟨hi,rfl⟩:=List.getElem?_eq_some_iff.1 hs;obtain ⟨hj,rfl⟩:=List.getElem?_eq_some_iff.1 ht;rcases Nat.lt_or_ge i j with h1|h1
  ·exact h i j hi hj h1
  ·have:=h j i hj hi aC;exact fun ⟨a,b⟩=>this ⟨a.symm,b.symm⟩
theorem wY {r:Rec}:∀ {gs:List RSet},wX gs→wX (eD gs r)
 | [],_=>by rw [iC];simp [eD]
 | a::l,h=>by
   rw [iC]at h ⊢;obtain ⟨h1,h2⟩:=List.pairwise_cons.1 h;unfold eD;split
   ·rename_i hm;exact List.pairwise_cons.2 ⟨fun t ht=>h1 t ht,h2⟩
   ·rename_i hm;refine List.pairwise_cons.2 ⟨fun t ht=>?_,iC.1 (wY (iC.2 h2))⟩;rcases sV ht with ⟨u,hu,e1,e2⟩|⟨e1,e2⟩
    ·have:=h1 u hu;rw [e1,e2]at this;exact this
    ·rintro ⟨f1,f2⟩;exact hm (by simp [bJ,f1,f2,e1,e2])
def dC (l:List Rec):List RSet:=l.foldl eD []
theorem lR (l:List Rec):wX (dC l):=by
 unfold dC
 suffices ∀ (l:List Rec) gs,wX gs→wX (l.foldl eD gs) from this l [] (by intro i j s t h;simp at h)
 intro l;induction l with
 | nil=>exact fun _ h=>h
 | cons r l ih=>exact fun gs h=>ih _ (wY h)
theorem qN {l:List Rec} (h:k<l.length):dC (l.take (k+1))=eD (dC (l.take k)) l[k]:=by
 unfold dC;rw [List.take_add_one,List.getElem?_eq_getElem h,List.foldl_append];rfl
theorem DB {r:Rec}:∀ {gs:List RSet},(eD gs r).length≤gs.length+1
 | []=>by simp [eD]
 | a::l=>by
   have:=DB (r:=r) (gs:=l);unfold eD;split<;>simp<;>omega
def pV (gs:List RSet):Nat:=(gs.map fun s=>s.data.length).sum
theorem wZ {r:Rec}:∀ {gs:List RSet},pV (eD gs r)=pV gs+1
 | []=>by simp [eD,pV]
 | a::l=>by
   have:=wZ (r:=r) (gs:=l);unfold pV at this;unfold eD;split
   ·simp [pV,lD];omega
   ·simp [pV,this];omega
theorem uF (l:List Rec):pV (dC l)=l.length:=by
 unfold dC
 suffices ∀ (l:List Rec) gs,pV (l.foldl eD gs)=pV gs+l.length from by simpa [pV]using this l []
 intro l;induction l with
 | nil=>intro gs;simp
 | cons r l ih=>intro gs;rw [List.foldl_cons,ih,wZ];simp;omega
theorem zU (l:List Rec):(dC l).length≤l.length:=by
 unfold dC
 suffices ∀ (l:List Rec) gs,(l.foldl eD gs).length≤gs.length+l.length from by simpa using this l []
 intro l;induction l with
 | nil=>intro gs;simp
 | cons r l ih=>intro gs;rw [List.foldl_cons];have:=ih (eD gs r);have:=DB (r:=r) (gs:=gs);simp;omega
theorem HQ {gs:List RSet} {s:RSet} (h:s∈gs):s.data.length≤pV gs:=by
 induction gs with
 | nil=>simp at h
 | cons a l ih =>
  unfold pV at *;rcases List.mem_cons.1 h with rfl|h
  ·simp
  ·have:=ih h;simp;omega
structure GC where
 b:Nat
 v:Value
 s:RSet
def GC.cells (c:GC):List Value:=[aE c.s.name, .int .i64 c.s.kind, .int .i64 c.s.ttl,c.v]
def GC.key (c:GC):Value×Value:=(.agg #[aE c.s.name, .int .i64 c.s.kind], .pointer (some ⟨c.b,0,none⟩))
def GC.kcells (c:GC):List Value:=[aE c.s.name, .int .i64 c.s.kind]
structure GOK (w:World) (B:Nat) (c:GC):Prop where
 blk:w.heap[c.b]? = some (.cells c.cells.toArray 136 (0,0))
 ge:B≤c.b
 own:Own B 1 9 w c.v (aH c.s.data)
structure GS (w:World) (B:Nat) (gcs:List GC):Prop where
 each:∀ c∈gcs,GOK w B c
 apart:gcs.Pairwise fun c c'=>c.b≠c'.b∧(c.v.ownBlock=none∨c'.v.ownBlock=none∨c.v.ownBlock≠c'.v.ownBlock)
theorem Own.type (h:Own B k e w v es) {r:Nat} (hr:v.ownBlock=some r):∃ cur fz,w.heap[r]? = some (.cells cur e fz):=by
 rcases h.row.2 with ⟨rfl,_⟩|⟨g,cap,cur,fz,rfl,hb,hg,_⟩
 ·simp [Value.ownBlock]at hr
 ·simp [Value.ownBlock]at hr;subst hr;exact ⟨cur,fz,hg⟩
theorem Own.neBlock {t:Nat} (h:Own B k e w v es) (hb:w.heap[b]? = some (.cells cs t fz)) (ht:t≠e):v.ownBlock≠some b:=fun e'=>by
 obtain ⟨cur,fz',h'⟩:=h.type e';rw [hb]at h';simp only [Option.some.injEq,Obj.cells.injEq]at h';exact ht h'.2.1
theorem eM {t:Nat} {o:Obj} (h:Own B k e w v es) (p:Put w w' b o) (hb:w.heap[b]? = some (.cells cs t fz)) (ht:t≠e:=by decide):Own B k e w' v es :=
 h.mv p.mv (.inr (h.neBlock hb ht))
theorem Own.neMap {m:Nat} {es':Array MapEntry} (h:Own B k e w v es) (hb:w.heap[m]? = some (.map es' c)):v.ownBlock≠some m:=fun e'=>by
 obtain ⟨cur,fz',h'⟩:=h.type e';rw [hb]at h';cases h'
theorem Own.ne {B' k' e':Nat} {v':Value} {es':List (List Value)} (h:Own B k e w v es) (h':Own B' k' e' w v' es') (he:e≠e'):v.ownBlock=none∨v.ownBlock≠v'.ownBlock:=by
 cases hv:v.ownBlock with
 | none=>exact .inl rfl
 | some r =>
  refine .inr fun e2=>?_;obtain ⟨cur,fz,h1⟩:=h.type hv;exact h'.neBlock h1 he e2.symm
theorem GOK.mv {c:GC} (h:GOK w B c) (hm:Mv row w w') (h1:some c.b≠row) (h2:c.v.ownBlock=none∨c.v.ownBlock≠row):GOK w' B c :=
 ⟨hm.at h.blk h1,h.ge,h.own.mv hm h2⟩
theorem GS.ext {gcs:List GC} (h:GS w B gcs) (hx:Ext w w'):GS w' B gcs :=
 ⟨fun c hc=>(h.each c hc).mv (hx.mv none) aX (by cases c.v.ownBlock<;>simp),h.apart⟩
theorem Sl.slf (h:Sl k w v es):∃ a n c,v=.slice a n c:=by
 obtain ⟨a,c,h1,_⟩:=h;exact ⟨a,_,c,h1⟩
structure SetsC (w:World) (css:List (List Value)) (l:List RSet):Prop where
 len:css.length=l.length
 at':∀ (i:Nat) (s:RSet),l[i]? = some s→∃ x,css[i]? = some [aE s.name, .int .i64 s.kind, .int .i64 s.ttl,x]∧Sl 1 w x (aH s.data)
theorem SetsAt.rows {l:List RSet} (h:SetsAt w v l):∃ css,Sl 4 w v css∧SetsC w css l:=by
 obtain ⟨css,h1,h2,h3⟩:=h.out;exact ⟨css,h1,h2,h3⟩
theorem SetsC.sets {l:List RSet} (h:SetsC w css l) (hv:Sl 4 w v css):SetsAt w v l:=⟨css,hv,h.len,h.at'⟩
theorem SetsC.ext {l:List RSet} (h:SetsC w css l) (hx:Ext w w'):SetsC w' css l :=
 ⟨h.len,fun i s hi=>let ⟨x,a,b⟩:=h.at' i s hi;⟨x,a,b.ext hx⟩⟩
theorem SetsC.append {l m:List RSet} {c d:List (List Value)} (h:SetsC w c l) (k:SetsC w d m):SetsC w (c++d) (l++m):=by
 refine ⟨by rw [List.length_append,List.length_append,h.len,k.len],fun i s hi=>?_⟩;rw [List.getElem?_append]at hi ⊢;rw [h.len];split at hi
 ·rw [if_pos ‹_›];exact h.at' i s hi
 ·rw [if_neg ‹_›];exact k.at' _ s hi
theorem SetsC.take {l:List RSet} {c:List (List Value)} (h:SetsC w c l) (n:Nat):SetsC w (c.take n) (l.take n):=by
 refine ⟨by simp [h.len],fun i s hi=>?_⟩;rw [List.getElem?_take]at hi ⊢;split at hi
 ·rw [if_pos ‹_›];exact h.at' i s hi
 ·cases hi
theorem SetsC.drop {l:List RSet} {c:List (List Value)} (h:SetsC w c l) (n:Nat):SetsC w (c.drop n) (l.drop n):=by
 refine ⟨by simp [h.len],fun i s hi=>?_⟩;rw [List.getElem?_drop]at hi ⊢;exact h.at' _ s hi
theorem SetsC.one {s:RSet} {x:Value} (h:Sl 1 w x (aH s.data)):SetsC w [[aE s.name, .int .i64 s.kind, .int .i64 s.ttl,x]] [s] :=
 ⟨rfl,fun i t hi=>by
  match i,hi with
  | 0,hi=>cases hi;exact ⟨x,rfl,h⟩⟩
theorem SetsC.cell {l:List RSet} {c:List (List Value)} (h:SetsC w c l):∀ f∈c,∀ u∈f,u.oneCell'=true:=by
 intro f hf u hu;obtain ⟨i,hi,rfl⟩:=List.mem_iff_getElem.1 hf;obtain ⟨x,h1,h2⟩:=h.at' i _ (List.getElem?_eq_getElem (by rw [← h.len];exact hi));rw [List.getElem?_eq_getElem hi]at h1;rw [Option.some.inj h1]at hu;simp only [List.mem_cons,List.not_mem_nil,or_false]at hu;rcases hu with rfl|rfl|rfl|rfl
 ·rfl
 ·rfl
 ·rfl
 ·exact h2.one
def From (B:Nat) (v:Value):Prop:=∀ b o s n c,v=.slice (some ⟨b,o,s⟩) n c→B≤b
theorem From.weaken {C:Nat} (h:From B v) (hc:C≤B):From C v:=fun b o s n c e=>Nat.le_trans hc (h b o s n c e)
theorem Own.from' {C:Nat} (h:Own B k e w v es) (hc:C≤B):From C v:=by
 intro b o s n c hv;rcases h.form with ⟨rfl,_⟩|⟨g,cap,rfl,_,hg,_⟩
 ·cases hv
 ·simp only [Value.slice.injEq,Option.some.injEq,Addr.mk.injEq]at hv;obtain ⟨⟨rfl,_⟩,_⟩:=hv;exact Nat.le_trans hc hg
def FromC (B:Nat) (css:List (List Value)):Prop:=∀ f∈css,∀ u∈f,From B u
theorem FromC.append {c d:List (List Value)} (h:FromC B c) (k:FromC B d):FromC B (c++d):=fun f hf=>by
 rcases List.mem_append.1 hf with hf|hf
 ·exact h f hf
 ·exact k f hf
theorem FromC.take {c:List (List Value)} (h:FromC B c) (n:Nat):FromC B (c.take n):=fun f hf=>h f (List.mem_of_mem_take hf)
theorem FromC.drop {c:List (List Value)} (h:FromC B c) (n:Nat):FromC B (c.drop n):=fun f hf=>h f (List.mem_of_mem_drop hf)
theorem FromC.one {k t:Int} {x:Value} (h:From B x):FromC B [[aE n, .int .i64 k, .int .i64 t,x]]:=by
 intro f hf u hu;simp only [List.mem_cons,List.not_mem_nil,or_false]at hf;subst hf;simp only [List.mem_cons,List.not_mem_nil,or_false]at hu;rcases hu with rfl|rfl|rfl|rfl
 ·intro b o s n c e;cases e
 ·intro b o s n c e;cases e
 ·intro b o s n c e;cases e
 ·exact h
structure SetsO (B:Nat) (w:World) (v:Value) (l:List RSet):Prop where
 out:∃ css,Sl 4 w v css∧From B v∧SetsC w css l∧FromC B css
theorem SetsO.sets {l:List RSet} (h:SetsO B w v l):SetsAt w v l:=by
 obtain ⟨css,h1,_,h2,_⟩:=h;exact h2.sets h1
theorem SetsO.ext {l:List RSet} (h:SetsO B w v l) (hx:Ext w w'):SetsO B w' v l:=by
 obtain ⟨css,h1,h2,h3,h4⟩:=h;exact ⟨css,h1.ext hx,h2,h3.ext hx,h4⟩
theorem SetsO.weaken {C:Nat} {l:List RSet} (h:SetsO B w v l) (hc:C≤B):SetsO C w v l:=by
 obtain ⟨css,h1,h2,h3,h4⟩:=h;exact ⟨css,h1,h2.weaken hc,h3,fun f hf u hu=>(h4 f hf u hu).weaken hc⟩
theorem Sl.put {o:Obj} (h:Sl k w v es) (hf:From B v) (hp:Put w w' b o) (hb:b<B):Sl k w' v es:=by
 obtain ⟨a,cap,h1,h2,h3,h4,h5,h6⟩:=h;refine ⟨a,cap,h1,h2,h3,h4,h5,fun hn=>?_⟩;obtain ⟨g,o,e,hc⟩:=h6 hn;have hg:B≤g:=hf g o none _ _ (by rw [h1,e]);exact ⟨g,o,e,fun i e j x h1 h2=>(World.cell?_of_block (hp.other g aC)).trans (hc i e j x h1 h2)⟩
theorem SetsO.put {l:List RSet} {o:Obj} (h:SetsO B w v l) (hp:Put w w' b o) (hb:b<B):SetsO B w' v l:=by
 obtain ⟨css,h1,h2,h3,h4⟩:=h;refine ⟨css,h1.put h2 hp hb,h2,⟨h3.len,fun i s hi=>?_⟩,h4⟩;obtain ⟨x,e,hx⟩:=h3.at' i s hi;exact ⟨x,e,hx.put (h4 _ (List.mem_of_getElem? e) x aX) hp hb⟩
theorem SetsO.nil (B:Nat) (w:World):SetsO B w (.slice none 0 0) []:=⟨[],Sl.nil _ _,(by intro b o s n c e;cases e),⟨rfl,aX⟩,by intro f hf;cases hf⟩
theorem ZH (h:ls.all jB=true):2*ls.length≤(enc ls).length:=by
 induction ls with
 | nil=>simp [enc]
 | cons x ls ih =>
  simp only [List.all_cons,Bool.and_eq_true]at h;have:=ih h.2;have e:enc (x::ls)=UInt8.ofNat x.length::x++enc ls:=by simp [enc]
  have hx:1≤x.length:=by have:=h.1;simp [jB]at this;omega
  rw [e];simp;omega
theorem NM (h:127<ls.length):mV ls=none:=by
 rw [mV,if_neg];rintro ⟨h1,h2⟩;have:=ZH h1;omega
theorem UX (v:Value) (ls:List (List UInt8)) (w:World) (h:Sl 1 w v (aH ls)):Calls Tryz.prog 30 #[v] w (bC w (match mV ls with|some n=>.tuple #[aE n, .int .i64 0]|none=>.tuple #[aE [], .int .i64 1])):=by
 have hlt0:(aH ls).length=ls.length:=bH ls;by_cases h127:127<ls.length
 ·go_enter Tryz.func30,Tryz.ntmps30
  (repeat' first|((with_reducible refine aZ ?_);go_step)|((with_reducible refine aS ?_);first|refine dU ?_|(refine bG ?_ ?_<;>intro hc))|fail)
  go_ret2;exact ⟨by rw [NM h127];rfl,Ext.refl _⟩
 ·go_enter Tryz.func30,Tryz.ntmps30
  (repeat' first|((with_reducible refine aZ ?_);go_step)|((with_reducible refine aS ?_);first|refine dU ?_|(refine bG ?_ ?_<;>intro hc))|fail)
  go_loopw [4,5] (fun s i wr=>∃ k:Nat,k≤ls.length∧i=.int .i64 k∧s=aE (enc (ls.take k))∧Ext w wr∧(ls.take k).all jB=true∧(enc (ls.take k)).length≤64*k) (fun _ i _=>ls.length - (intOf i).toNat)
  case atStart=>exact ⟨0,Nat.zero_le _,rfl,rfl,Ext.refl _,rfl,by simp [enc]⟩
  case round =>
   obtain ⟨k,hk,rfl,rfl,hx,hall,hlen⟩:=hrel;have hsl:=h.ext hx;by_cases hlt:k<ls.length
   ·have hp:=hsl.elem (kH hlt)
    (repeat' first|((with_reducible refine aZ ?_);go_step)|((with_reducible refine aS ?_);first|refine dU ?_|(refine bG ?_ ?_<;>intro hc))|fail)
    rotate_left
    ·have h63:ls[k].length≤63:=aC;have h1:1≤ls[k].length:=aC;refine cQ (S:=fun w'=>Ext wr w') zDk ?_;intro w1 x1 hh1;refine tk 0 ?_;refine aB ?_;refine tk 1 ?_;refine aB ?_;refine tk 2 ?_;refine aB ?_;refine tk 3 ?_;refine aB ?_;refine tk 4 ?_;refine aB ?_;refine tk 5 ?_;refine aB ?_;refine tk 6 ?_;refine aB ?_;refine tk 10 ?_;refine aB ?_;refine tk 11 ?_;refine aB ?_;refine tk 12 ?_;refine aB ?_;refine tk 13 ?_;refine aB ?_;refine bZ (i:=7) zDk rfl rfl ?_;refine oD (e:=5) (k:=1) (bytes:=1) (xs:=[.int .u8 (IntKind.wrap .u8 (ls[k].length:Nat))]) (by simp [Value.cells]) fun v2 w2 x2 _ s2 _=>?_;have s2:Sl 1 w2 v2 (aL [UInt8.ofNat ls[k].length]):=by simpa [aL,Value.cells,CZ]using s2
     refine aB ?_;refine aD ⟨by exact fP,?_⟩;refine bZ (i:=8) zDk rfl rfl ?_
     (repeat' first|((with_reducible refine aZ ?_);go_step)|((with_reducible refine aS ?_);first|refine dU ?_|(refine bG ?_ ?_<;>intro hc))|fail)
     refine ⟨by exact fP,?_⟩;refine bZ (i:=9) zDk rfl rfl ?_
     (repeat' first|((with_reducible refine aZ ?_);go_step)|((with_reducible refine aS ?_);first|refine dU ?_|(refine bG ?_ ?_<;>intro hc))|fail)
     refine ⟨by exact fP,?_⟩;refine bZ (i:=14) zDk rfl rfl ?_
     (repeat' first|((with_reducible refine aZ ?_);go_step)|((with_reducible refine aS ?_);first|refine dU ?_|(refine bG ?_ ?_<;>intro hc))|fail)
     refine ⟨by exact fP,?_⟩;refine bZ (i:=15) zDk rfl rfl ?_
     (repeat' first|((with_reducible refine aZ ?_);go_step)|((with_reducible refine aS ?_);first|refine dU ?_|(refine bG ?_ ?_<;>intro hc))|fail)
     refine ⟨by exact fP,?_⟩;refine cO zDk ?_;have e:enc (ls.take k) ++ [UInt8.ofNat ls[k].length]++ls[k]=enc (ls.take (k+1)):=by
      rw [List.take_add_one,List.getElem?_eq_getElem hlt,Option.toList_some,pH,FB];simp
     rw [e]
     (repeat' first|((with_reducible refine aZ ?_);go_step)|((with_reducible refine aS ?_);first|refine dU ?_|(refine bG ?_ ?_<;>intro hc))|fail)
     refine ⟨⟨k+1,aC,by go_num,rfl,by exact fP,?_,?_⟩,by simp [intOf];omega⟩
     ·rw [List.take_add_one,List.getElem?_eq_getElem hlt,Option.toList_some,List.all_append,hall];simp [jB];omega
     ·rw [← e];simp;omega
    all_goals
     go_ret2;refine ⟨?_,hx⟩;rw [zQ (List.getElem_mem hlt) (by simp [jB];omega)];rfl
   ·have:k=ls.length:=aC;subst this;rw [List.take_length]at hall hlen ⊢
    (repeat' first|((with_reducible refine aZ ?_);go_step)|((with_reducible refine aS ?_);first|refine dU ?_|(refine bG ?_ ?_<;>intro hc))|fail)
    ·go_ret2;refine ⟨?_,hx⟩;rw [mV,if_neg aC];rfl
    ·go_ret2;refine ⟨?_,hx⟩;rw [mV,if_pos ⟨hall,aC⟩];rfl
theorem ZI {α:Type} {R:α→α→Prop} {l:List α} {c:α} (h:l.Pairwise R) (hi:i<l.length) (h1:∀ j (hj:j<i),R l[j] c) (h2:∀ j (hj:i<j) (hl:j<l.length),R c l[j]):(l.set i c).Pairwise R:=by
 rw [List.pairwise_iff_getElem]at *;intro p q hp hq hpq;simp only [List.length_set]at hp hq;simp only [List.getElem_set];by_cases e1:i=p
 ·subst e1;rw [if_pos rfl,if_neg aC];exact h2 q hpq hq
 ·by_cases e2:i=q
  ·subst e2;rw [if_neg e1,if_pos rfl];exact h1 p hpq
  ·rw [if_neg e1,if_neg e2];exact h p q hp hq hpq
theorem GS.split {gcs:List GC} (h:GS w B gcs) {c c':GC} (hi:gcs[i]? = some c) (hj:gcs[j]? = some c') (hij:i≠j):c.b≠c'.b∧(c.v.ownBlock=none∨c'.v.ownBlock=none∨c.v.ownBlock≠c'.v.ownBlock):=by
 have:=List.pairwise_iff_getElem.1 h.apart;obtain ⟨hi2,e1⟩:=List.getElem?_eq_some_iff.1 hi;obtain ⟨hj2,e2⟩:=List.getElem?_eq_some_iff.1 hj;subst e1 e2;rcases Nat.lt_or_ge i j with h1|h1
 ·exact this i j hi2 hj2 h1
 ·obtain ⟨a,b⟩:=this j i hj2 hi2 aC;exact ⟨fun e=>a e.symm,by rcases b with b|b|b;exact .inr (.inl b);exact .inl b;exact .inr (.inr fun e=>b e.symm)⟩
theorem zV {α:Type} {l:List α} {c x:α} (h:x∈l.set i c):x=c∨∃ j,j≠i∧l[j]? = some x:=by
 obtain ⟨j,hj⟩:=List.mem_iff_getElem?.1 h;by_cases e:j=i
 ·subst e;have hl:j<l.length:=by simpa using (List.getElem?_eq_some_iff.1 hj).1
  rw [List.getElem?_set_self hl]at hj;exact .inl (Option.some.inj hj).symm
 ·rw [List.getElem?_set_ne (Ne.symm e)]at hj;exact .inr ⟨j,e,hj⟩
theorem GS.turn {gcs:List GC} {c c':GC} (h:GS w B gcs) (hi:gcs[i]? = some c) (hb:c'.b=c.b) (m:Mv c.v.ownBlock w w1) (o:Own B 1 9 w1 c'.v (aH c'.s.data))
 (kin:c'.v.ownBlock=c.v.ownBlock∨c'.v.ownBlock=some w.heap.size) (hp:Put w1 w2 c.b (.cells c'.cells.toArray 136 (0,0))):GS w2 B (gcs.set i c'):=by
 have hc:=h.each c (List.mem_of_getElem? hi);have hil:=(List.getElem?_eq_some_iff.1 hi).1;have hcb:c.v.ownBlock≠some c.b:=hc.own.neBlock hc.blk aC;have ho:Own B 1 9 w2 c'.v (aH c'.s.data):=o.mv hp.mv (.inr (o.neBlock (cs:=c.cells.toArray) (fz:=(0,0)) (m.at hc.blk (fun e=>hcb e.symm)) aC));have hother:∀ j x,j≠i→gcs[j]? = some x→GOK w2 B x∧x.b≠c.b∧(x.v.ownBlock=none∨x.v.ownBlock≠c'.v.ownBlock):=by
  intro j x hj hx;have hxo:=h.each x (List.mem_of_getElem? hx);obtain ⟨s1,s2⟩:=h.split hx hi hj;have n1:some x.b≠c.v.ownBlock:=fun e=>(hc.own.neBlock hxo.blk aC) e.symm;have n2:x.v.ownBlock=none∨x.v.ownBlock≠c.v.ownBlock:=by
   rcases s2 with s2|s2|s2
   ·exact .inl s2
   ·cases hv:x.v.ownBlock with
    | none=>exact .inl rfl
    | some r=>rw [s2];exact .inr aX
   ·exact .inr s2
  have g1:=hxo.mv m n1 n2;refine ⟨g1.mv hp.mv (fun e=>s1 (Option.some.inj e)) (.inr (hxo.own.neBlock hc.blk aC)),s1,?_⟩;rcases kin with k|k
  ·rw [k];exact n2
  ·rw [k];cases hv:x.v.ownBlock with
   | none=>exact .inl rfl
   | some r=>exact .inr fun e=>by have:=(hxo.own.block r hv).2;have:=Option.some.inj e;omega
 refine ⟨fun x hx=>?_,ZI h.apart hil (fun j hj=>?_) (fun j hj hl=>?_)⟩
 ·rcases zV hx with rfl|⟨j,hj,hx⟩
  ·exact ⟨by rw [hb];exact hp.this,by rw [hb];exact hc.ge,ho⟩
  ·exact (hother j x hj hx).1
 ·obtain ⟨_,a,b⟩:=hother j gcs[j] aC (List.getElem?_eq_getElem aC);exact ⟨by rw [hb];exact a,by rcases b with b|b;exact .inl b;exact .inr (.inr b)⟩
 ·obtain ⟨_,a,b⟩:=hother j gcs[j] aC (List.getElem?_eq_getElem hl);exact ⟨by rw [hb];exact fun e=>a e.symm,by rcases b with b|b;exact .inr (.inl b);exact .inr (.inr fun e=>b e.symm)⟩
theorem GS.push {gcs:List GC} {c:GC} (h:GS w B gcs) (hc:GOK w B c) (hn:∀ x∈gcs,x.b≠c.b) (hv:c.v.ownBlock=none):GS w B (gcs ++ [c]):=by
 refine ⟨fun x hx=>?_,?_⟩
 ·rcases List.mem_append.1 hx with hx|hx
  ·exact h.each x hx
  ·rw [List.mem_singleton.1 hx];exact hc
 ·rw [List.pairwise_append];refine ⟨h.apart,aX,fun x hx y hy=>?_⟩;rw [List.mem_singleton.1 hy];exact ⟨hn x hx, .inr (.inl hv)⟩
theorem GS.mv {gcs:List GC} (h:GS w B gcs) (hm:Mv row w w') (h1:∀ c∈gcs,some c.b≠row∧(c.v.ownBlock=none∨c.v.ownBlock≠row)):GS w' B gcs :=
 ⟨fun c hc=>(h.each c hc).mv hm (h1 c hc).1 (h1 c hc).2,h.apart⟩
theorem El:Tryz.prog.keyTypeAt 2 216=true:=by kernel_rfl
theorem QH:Tryz.prog.tiled 2 216=true:=by kernel_rfl
theorem QI:WideMaps.KeyLaw Tryz.prog 216:=deep_law (m:=2) aC El QH (by kernel_rfl)
theorem MB (n:List UInt8) (k:Int) (hn:n.length≤1000000) (hk:0≤k∧k≤65535):∃ l,keyOf Tryz.prog 216 (.agg #[aE n, .int .i64 k])=some l:=by
 unfold keyOf;rw [Tryz.underlying216];have kt2:Tryz.prog.keyType 216=true:=by kernel_rfl
 simp only [kt2];rw [show Tryz.prog.types.size=420 from by kernel_rfl];have c48:Tryz.prog.cellsOf 216=2:=by kernel_rfl
 have c30:Tryz.prog.cellsOf 23=1:=by kernel_rfl
 have c3:Tryz.prog.cellsOf 3=1:=by kernel_rfl
 have f:Value.formed Tryz.prog 216 (Value.agg #[aE n,Value.int IntKind.i64 k])=true:=by simp [Value.formed,Tryz.underlying216,c48]
 have hs:(ByteArray.mk n.toArray).size≤maxLen:=by rw [fD];unfold maxLen;omega
 have hw:(Lit.int .i64 k).wf=true:=by simp [Lit.wf,IntKind.min,IntKind.max,IntKind.bits,IntKind.signed];omega
 have l30:Tryz.prog.keyLits 420 23 [aE n]=some [.string n]:=by simp [Program.keyLits,Tryz.underlying23,aE,-ByteArray.size_data,hs]
 have l3:Tryz.prog.keyLits 420 3 [Value.int .i64 k]=some [.int .i64 k]:=by simp [Program.keyLits,Tryz.underlying3,hw]
 rw [f];simp only [Bool.and_self,if_true];unfold Program.keyLits;simp [Tryz.underlying216,c48,c30,c3,Value.cells,l30,l3]
structure L1 (w0 w:World) (kv:Value) (gcs:List GC):Prop where
 ext:Ext w0 w
 map:MapAt Tryz.prog 216 w w0.heap.size (gcs.map GC.key)
 keys:Own (w0.heap.size+1) 2 216 w kv (gcs.map GC.kcells)
 sets:GS w (w0.heap.size+1) gcs
theorem L1.grow {kv:Value} {gcs:List GC} (h:L1 w0 w kv gcs) (hx:Ext w w'):L1 w0 w' kv gcs :=
 ⟨h.ext.trans hx,h.map.at (fun o ho=>hx.at ho),h.keys.ext hx,h.sets.ext hx⟩
def dP (s:SoaR):List Int:=[s.refresh,s.retry,s.expire,s.minimum]
def pJ (s:SoaR):List UInt8:=s.main ++ [0]++(s.mail ++ [0])++KA s.serial.toNat
def vR (l:List Int):List UInt8:=(l.map fun n=>KA n.toNat).flatten
theorem HR (s:SoaR):s.data=pJ s++vR (dP s):=by simp [SoaR.data,pJ,vR,dP]
theorem NN (l:List Int) (k:Nat) (h:k<l.length):vR (l.take (k+1))=vR (l.take k)++KA l[k].toNat:=by
 unfold vR;rw [List.take_add_one,List.getElem?_eq_getElem h,Option.toList_some,List.map_append,List.flatten_append];simp
theorem QJ (l:List Int):(vR l).length=4*l.length:=by
 induction l with
 | nil=>rfl
 | cons x l ih =>
  have:vR (x::l)=KA x.toNat++vR l:=by simp [vR]
  rw [this,List.length_append,ih,List.length_cons];simp [KA];omega
theorem ZJ (s:SoaR):s.ok=((aM s.main).isSome&&(aM s.mail).isSome&&decide (0≤s.serial)&&decide (s.serial≤4294967295)&&(dP s).all lK):=by
 simp [SoaR.ok,dP,Bool.and_assoc]
theorem Gj (s:SoaR) (w:World) (h1:s.main.length≤4611686018427387904) (h2:s.mail.length≤4611686018427387904):Calls Tryz.prog 179 #[.agg s.cells.toArray] w (bC w (if s.ok=true then .tuple #[aE s.data, .int .i64 0]else .tuple #[aE [], .int .i64 1])):=by
 have hA:=fun w=>Ek s.main w aC;have hB:=fun w=>Ek s.mail w aC;cases hm:aM s.main with
 | none =>
  simp only [hm,Option.isSome_none,Bool.false_eq_true,if_false]at hA;have hno:s.ok=false:=by simp [SoaR.ok,hm]
  rw [hno];go_enter Tryz.func179,Tryz.ntmps179
  refine_lift mT fun _ _=>?_;refine mW (vs:=s.cells) fun p w1 x1 hp=>?_;refine aB ?_;have hp':Pts w1 p [aE s.main,aE s.mail, .int .i64 s.serial, .int .i64 s.refresh, .int .i64 s.retry, .int .i64 s.expire, .int .i64 s.minimum]:=hp;refine_lift fN fun _ _=>?_;refine wW (hA _) fun w2 x2=>?_;have hp':=hp'.ext x2;refine_lift fN fun _ _=>?_;refine wW (hB _) fun w3 x3=>?_;cases hl:(aM s.mail).isSome with
  | true =>
   simp only [hl,if_true];have hp':=hp'.ext x3;refine_lift cL ?_;go_ret2;exact ⟨rfl,(x1.trans x2).trans x3⟩
  | false =>
   simp only [hl,Bool.false_eq_true,if_false];have hp':=hp'.ext x3;refine_lift cL ?_;go_ret2;exact ⟨rfl,(x1.trans x2).trans x3⟩
 | some ls =>
  simp only [hm,Option.isSome_some,if_true]at hA;cases hm2:aM s.mail with
  | none =>
   simp only [hm2,Option.isSome_none,Bool.false_eq_true,if_false]at hB;have hno:s.ok=false:=by simp [SoaR.ok,hm2]
   rw [hno];go_enter Tryz.func179,Tryz.ntmps179
   refine_lift mT fun _ _=>?_;refine mW (vs:=s.cells) fun p w1 x1 hp=>?_;refine aB ?_;have hp':Pts w1 p [aE s.main,aE s.mail, .int .i64 s.serial, .int .i64 s.refresh, .int .i64 s.retry, .int .i64 s.expire, .int .i64 s.minimum]:=hp;refine_lift fN fun _ _=>?_;refine wW (hA _) fun w2 x2=>?_;have hp':=hp'.ext x2;refine_lift fN fun _ _=>?_;refine wW (hB _) fun w3 x3=>?_;have hp':=hp'.ext x3;refine_lift cL ?_;go_ret2;exact ⟨rfl,(x1.trans x2).trans x3⟩
  | some ms =>
   simp only [hm2,Option.isSome_some,if_true]at hB;have hfm:=fM hm;have hfm2:=fM hm2;rw [ZJ,hm,hm2];simp only [Option.isSome_some,Bool.true_and];go_enter Tryz.func179,Tryz.ntmps179
   refine_lift mT fun _ _=>?_;refine mW (vs:=s.cells) fun p w1 x1 hp=>?_;refine aB ?_;have hp':Pts w1 p [aE s.main,aE s.mail, .int .i64 s.serial, .int .i64 s.refresh, .int .i64 s.retry, .int .i64 s.expire, .int .i64 s.minimum]:=hp;refine_lift fN fun _ _=>?_;refine wW (hA _) fun w2 x2=>?_;have hp':=hp'.ext x2;refine_lift fN fun _ _=>?_;refine wW (hB _) fun w3 x3=>?_;have hp':=hp'.ext x3;have x13:=(x1.trans x2).trans x3;clear x1 x2 x3 hp hA hB
   (repeat' first|((with_reducible refine aZ ?_);go_step)|((with_reducible refine aS ?_);first|refine dU ?_|(refine bG ?_ ?_<;>intro hc))|fail)
   ·have hc:=‹4294967295<s.serial›;go_ret2;refine ⟨?_,x13⟩;have hno:(decide (0≤s.serial)&&decide (s.serial≤4294967295))=false:=by simp only [Bool.and_eq_false_iff,decide_eq_false_iff_not];omega
    simp only [hno,Bool.false_and,Bool.false_eq_true,if_false];rfl
   ·have hc:=‹s.serial≤4294967295›;have hc0:=‹¬s.serial<0›;have hser:(decide (0≤s.serial)&&decide (s.serial≤4294967295))=true:=by simp;omega
    refine rP (e:=5) (l:=s.main ++ [0]++(s.mail ++ [0])) rfl rfl zDk zDk (by simp;omega) ?_;intro v w4 x4 o4;refine aB ?_;have hp':=hp'.ext x4;have hsn:s.serial=((s.serial.toNat:Nat):Int):=aC;refine_lift cL ?_;rw [hsn];refine gS (Fp (B:=w3.heap.size) s.serial.toNat o4 x4.size aC (by simp;omega)) ?_;rintro e w5 ⟨v5,rfl,o5,m5⟩;refine ⟨_,rfl,?_⟩;refine aB ?_;have x35:=o4.mvx m5 x4 (Nat.le_refl _);have hp':=‹Pts w3 p _›.ext x35;have x15:=x13.trans x35;rw [← hsn];refine_lift BW fun _ _ _ _=>?_;refine cG (v:=.agg ((dP s).map (Value.int .i64)).toArray) rfl (Runs.build rfl (by kernel_rfl)) ?_;refine aB ?_;refine_lift cL ?_;clear hp' m5;have hbase:s.main ++ [0]++(s.mail ++ [0])++KA s.serial.toNat=pJ s:=rfl;rw [hbase]at o5;have hbl:(pJ s).length≤600:=by simp [pJ,KA];omega
    go_loopw [8,55] (fun v6 i wr=>∃ k:Nat,k≤4∧i=.int .i64 k∧Ext w wr∧w3.heap.size≤wr.heap.size∧Own w3.heap.size 1 5 wr v6 (aL (pJ s++vR ((dP s).take k)))∧((dP s).take k).all lK=true) (fun _ i _=>4 - (intOf i).toNat)
    case atStart=>exact ⟨0,aC,rfl,x15,x35.size,by simpa [vR]using o5,rfl⟩
    case round =>
     obtain ⟨k,hk,rfl,hx,hsz,ho,hall⟩:=hrel;have hlen:(dP s).length=4:=rfl;by_cases hlt:k<4
     ·have hlt2:k<(dP s).length:=hlt;have hdata:s.data=pJ s++vR (dP s):=HR s;have hsplit:(dP s).all lK=true→lK (dP s)[k]=true:=fun h=>List.all_eq_true.1 h _ (List.getElem_mem hlt2);refine_lift JS ?_;intro _ _ _ _ _ _;refine cG (v:=.int .i64 (dP s)[k]) rfl (Runs.idxA (n:=4) (i:=k) rfl rfl (by simp [hlt2]) hlt zDk) ?_;refine aB ?_;refine_lift XJ (fun hc _=>?_) (fun hc=>?_) (fun hc _=>?_)
      ·have hc2:=‹2147483647<(dP s)[k]›;go_ret2;refine ⟨?_,hx⟩;have hno:(dP s).all lK=false:=by
        cases h:(dP s).all lK with
        | false=>rfl
        | true=>have:=hsplit h;simp [lK]at this;omega
       simp only [hser,hno,Bool.and_false,Bool.false_eq_true,if_false];rfl
      ·have hc2:=‹(dP s)[k]≤2147483647›;have hc1:=‹¬(dP s)[k]<0›;have hnn:(dP s)[k]=(((dP s)[k].toNat:Nat):Int):=aC;have hbs:(vR ((dP s).take k)).length≤16:=by rw [QJ];simp;omega
       rw [hnn];refine gS (Fp (B:=w3.heap.size) (dP s)[k].toNat ho hsz aC (by rw [List.length_append];omega)) ?_;rintro e w6 ⟨v6,rfl,o6,m6⟩;refine ⟨_,rfl,?_⟩;refine aB ?_;have hx6:=ho.mvx m6 hx x13.size;have hs6:w3.heap.size≤w6.heap.size:=Nat.le_trans hsz m6.size;rw [List.append_assoc,← NN _ _ hlt2]at o6;refine_lift cL ?_;refine ⟨⟨k+1,aC,rfl,hx6,hs6,o6,?_⟩,by simp [intOf];omega⟩;rw [List.take_add_one,List.getElem?_eq_getElem hlt2,Option.toList_some,List.all_append,hall];simp only [List.all_cons,List.all_nil,lK,Bool.true_and,Bool.and_true,Bool.and_eq_true,decide_eq_true_eq];omega
      ·have hc2:=‹(dP s)[k]<0›;go_ret2;refine ⟨?_,hx⟩;have hno:(dP s).all lK=false:=by
        cases h:(dP s).all lK with
        | false=>rfl
        | true=>have:=hsplit h;simp [lK]at this;omega
       simp only [hser,hno,Bool.and_false,Bool.false_eq_true,if_false];rfl
     ·have:k=4:=aC;subst this;have hsl:=ho.sl;rw [show (dP s).take 4=dP s from rfl]at hsl hall;refine_lift yL fun _=>?_;go_ret2;refine ⟨?_,hx⟩;simp only [hser,hall,Bool.and_self,if_true];rw [HR];rfl
   ·have hc:=‹s.serial<0›;go_ret2;refine ⟨?_,x13⟩;have hno:(decide (0≤s.serial)&&decide (s.serial≤4294967295))=false:=by simp only [Bool.and_eq_false_iff,decide_eq_false_iff_not];omega
    simp only [hno,Bool.false_and,Bool.false_eq_true,if_false];rfl
end Go.Proofs.X
