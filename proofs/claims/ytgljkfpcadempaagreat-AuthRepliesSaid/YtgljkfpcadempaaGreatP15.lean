/- Laws and walks that the proof of the statement is made of (part 15). -/
import Derived.Test.YtgljkfpcadempaaGreatRows
import Derived.Test.YtgljkfpcadempaaGreatP14
set_option linter.unusedSimpArgs false
set_option linter.unusedVariables false
namespace Go.Proofs.X
open Go.RowKit
set_option maxRecDepth 100000
def NI (n:List UInt8):List UInt8:=if (aV n).isSome=true then n ++ [0] else []
def RdS.host (s:List UInt8) (r:RdS):List UInt8 × RdS:=(NI (fU s r).1,(fU s r).2)
theorem CW {w:World} {b:Nat} {s:List UInt8} {r:RdS} (h:dI w b s r) (hr:r.Ok s) (hs:s.length≤100000000):Calls Tryz.prog 147 #[.pointer (some ⟨b,0,none⟩)] w (lP w b s (aI (r.host s).1) (r.host s).2):=by
 obtain ⟨n1,n2⟩:=pW hr hs
 have hH:=fun w=>WF (fU s r).1 w (by omega)
 have hcn:=HR h hr hs
 unfold RdS.host NI
 generalize fU s r=N at *
 go_enter Tryz.func147,Tryz.ntmps147
 refine_lift dJ fun _ _ => ?_
 refine aN (vs:=[.pointer (some ⟨b,0,none⟩)]) (enters_of Tryz.func45 rfl rfl) rfl rfl hcn ?_
 rintro _ w1 ⟨rfl,h1,m1⟩
 refine ⟨_,rfl,?_⟩
 refine aA ?_
 by_cases hl:(aV N.1).isSome=true
 ·rw [if_pos hl] at hH
  refine_lift bG ?_
  refine aD (enters_of Tryz.func184 rfl rfl) rfl rfl (hH _) ?_;intro w2 x2;refine aA ?_
  refine_lift bG ?_
  go_ret
  rw [if_pos hl]
  exact ⟨rfl,x2.at h1,m1.trans (x2.mv _)⟩
 ·rw [if_neg hl] at hH
  refine_lift bG ?_
  refine aD (enters_of Tryz.func184 rfl rfl) rfl rfl (hH _) ?_;intro w2 x2;refine aA ?_
  refine_lift bG ?_
  go_ret
  rw [if_neg hl]
  exact ⟨rfl,x2.at h1,m1.trans (x2.mv _)⟩
theorem lY {s:List UInt8} {r:RdS} (hr:r.Ok s) (hs:s.length≤100000000):(r.host s).1.length≤255∧(r.host s).2.Ok s:=by
 obtain ⟨n1,n2⟩:=pW hr hs
 unfold RdS.host NI
 refine ⟨?_,n2⟩
 dsimp only
 split
 ·rw [List.length_append];simp;omega
 ·exact Nat.zero_le _
def RdS.data (s:List UInt8) (r:RdS) (kind n:Int):List UInt8 × RdS :=
 let r0:=r.want (decide (r.at_ + n≤(s.length:Int))) 3
 if r0.e≠0 then ([],r0) else
 let o:List UInt8 × RdS:=if kind=2∨kind=5∨kind=12 then r0.host s
  else if kind=15 then ((r0.take s 2).1 ++ ((r0.take s 2).2.host s).1,((r0.take s 2).2.host s).2)
  else if kind=6 then ((r0.host s).1 ++ ((r0.host s).2.host s).1 ++ (((r0.host s).2.host s).2.take s 20).1,(((r0.host s).2.host s).2.take s 20).2)
  else r0.take s n
 (o.1,o.2.want (decide (o.2.at_=r.at_ + n)) 2)
set_option maxHeartbeats 2000000 in
theorem ST {w:World} {b:Nat} {s:List UInt8} {r:RdS} (h:dI w b s r) (hr:r.Ok s) (hs:s.length≤1000000) (kind n:Int) (hn0:0≤n) (hn1:n≤65535):Calls Tryz.prog 99 #[.pointer (some ⟨b,0,none⟩), .int .i64 kind, .int .i64 n] w (lP w b s (aI (r.data s kind n).1) (r.data s kind n).2):=by
 have hp:=aE (cs:=sA s r) h
 have a0:=hr.lo
 have a2:=hr.far
 have hs8:s.length≤100000000:=by omega
 have hcw:=gF h (decide (r.at_ + n≤(s.length:Int))) 3
 have hw:=hr.want (decide (r.at_ + n≤(s.length:Int))) (er:=3) (by decide)
 unfold RdS.data
 generalize r.want (decide (r.at_ + n≤(s.length:Int))) 3=r0 at *
 dsimp only
 generalize hend:r.at_ + n=en at *
 have hen:en≤200000000:=by omega
 go_enter Tryz.func99,Tryz.ntmps99
 refine_lift xI fun _ _ _ _ => ?_
 rw [hend]
 refine aN (vs:=[.pointer (some ⟨b,0,none⟩), .bool (decide (en≤(s.length:Int))), .int .i64 3]) (enters_of Tryz.func44 rfl rfl) rfl rfl hcw ?_
 rintro _ w1 ⟨rfl,h1,m1⟩
 refine ⟨_,rfl,?_⟩
 refine aA ?_
 by_cases c0:r0.e=0
 ·rw [decide_eq_true c0]
  by_cases c1:kind=2∨kind=5∨kind=12
  ·have hb2:=lY hw hs8
   refine_lift UG (fun _ _ _ _ _ => ?_) (fun _ _ _ _ _ => ?_) (fun _ _ _ _ => ?_)
   all_goals first
    | (exfalso;omega)
    | skip
   all_goals (
    refine aN (vs:=[.pointer (some ⟨b,0,none⟩)]) (enters_of Tryz.func147 rfl rfl) rfl rfl (CW h1 hw hs8) ?_
    rintro _ w2 ⟨rfl,h2,m2⟩
    refine ⟨_,rfl,?_⟩
    refine aA ?_
    have hK:=h2
    have mK:=m1.trans m2
    have hpK:=aE (cs:=sA s (r0.host s).2) hK
    have hwK:=gF hK (decide (((r0.host s).2).at_=en)) 2
    refine_lift dJ fun _ _ => ?_
    refine aN (vs:=[.pointer (some ⟨b,0,none⟩), .bool (decide (((r0.host s).2).at_=en)), .int .i64 2]) (enters_of Tryz.func44 rfl rfl) rfl rfl hwK ?_
    rintro _ w9 ⟨rfl,h9,m9⟩
    refine ⟨_,rfl,?_⟩
    refine aA ?_
    refine_lift bG ?_
    go_ret
    rw [if_neg (by simpa using c0),if_pos c1]
    exact ⟨rfl,h9,mK.trans m9⟩
   )
  ·by_cases c2:kind=15
   ·have ht2:=mZ s r0 2
    have hb2:=hw.take hs8 (n:=2) (by omega)
    have hb3:=lY hb2 hs8
    refine_lift XK fun _ _ _ _ _ _ _ _ => ?_
    all_goals first
     | (exfalso;omega)
     | skip
    refine aN (vs:=[.pointer (some ⟨b,0,none⟩), .int .i64 2]) (enters_of Tryz.func98 rfl rfl) rfl rfl (yW h1 hw hs8 2 (by omega) (by omega)) ?_
    rintro _ w2 ⟨rfl,h2,m2⟩
    refine ⟨_,rfl,?_⟩
    refine aA ?_
    refine_lift bG ?_
    refine aN (vs:=[.pointer (some ⟨b,0,none⟩)]) (enters_of Tryz.func147 rfl rfl) rfl rfl (CW h2 hb2 hs8) ?_
    rintro _ w3 ⟨rfl,h3,m3⟩
    refine ⟨_,rfl,?_⟩
    refine aA ?_
    have hK:=h3
    have mK:=m1.trans (m2.trans m3)
    have hpK:=aE (cs:=sA s ((r0.take s 2).2.host s).2) hK
    have hwK:=gF hK (decide ((((r0.take s 2).2.host s).2).at_=en)) 2
    refine_lift dJ fun _ _ => ?_
    refine aN (vs:=[.pointer (some ⟨b,0,none⟩), .bool (decide ((((r0.take s 2).2.host s).2).at_=en)), .int .i64 2]) (enters_of Tryz.func44 rfl rfl) rfl rfl hwK ?_
    rintro _ w9 ⟨rfl,h9,m9⟩
    refine ⟨_,rfl,?_⟩
    refine aA ?_
    refine_lift bG ?_
    go_ret
    rw [if_neg (by simpa using c0),if_neg c1,if_pos c2]
    exact ⟨rfl,h9,mK.trans m9⟩
   ·by_cases c3:kind=6
    ·have hb2:=lY hw hs8
     have hb3:=lY hb2.2 hs8
     have ht4:=mZ s ((r0.host s).2.host s).2 20
     refine_lift YA fun _ _ _ _ _ _ _ _ _ => ?_
     all_goals first
      | (exfalso;omega)
      | skip
     refine aN (vs:=[.pointer (some ⟨b,0,none⟩)]) (enters_of Tryz.func147 rfl rfl) rfl rfl (CW h1 hw hs8) ?_
     rintro _ w2 ⟨rfl,h2,m2⟩
     refine ⟨_,rfl,?_⟩
     refine aA ?_
     refine_lift dJ fun _ _ => ?_
     refine aN (vs:=[.pointer (some ⟨b,0,none⟩)]) (enters_of Tryz.func147 rfl rfl) rfl rfl (CW h2 hb2.2 hs8) ?_
     rintro _ w3 ⟨rfl,h3,m3⟩
     refine ⟨_,rfl,?_⟩
     refine aA ?_
     refine_lift bG ?_
     refine aN (vs:=[.pointer (some ⟨b,0,none⟩), .int .i64 20]) (enters_of Tryz.func98 rfl rfl) rfl rfl (yW h3 hb3.2 hs8 20 (by omega) (by omega)) ?_
     rintro _ w4 ⟨rfl,h4,m4⟩
     refine ⟨_,rfl,?_⟩
     refine aA ?_
     have hK:=h4
     have mK:=m1.trans (m2.trans (m3.trans m4))
     have hpK:=aE (cs:=sA s (((r0.host s).2.host s).2.take s 20).2) hK
     have hwK:=gF hK (decide (((((r0.host s).2.host s).2.take s 20).2).at_=en)) 2
     refine_lift dJ fun _ _ => ?_
     refine aN (vs:=[.pointer (some ⟨b,0,none⟩), .bool (decide (((((r0.host s).2.host s).2.take s 20).2).at_=en)), .int .i64 2]) (enters_of Tryz.func44 rfl rfl) rfl rfl hwK ?_
     rintro _ w9 ⟨rfl,h9,m9⟩
     refine ⟨_,rfl,?_⟩
     refine aA ?_
     refine_lift bG ?_
     go_ret
     rw [if_neg (by simpa using c0),if_neg c1,if_neg c2,if_pos c3]
     exact ⟨rfl,h9,mK.trans m9⟩
    ·refine_lift XJ fun _ _ _ _ _ _ _ => ?_
     all_goals first
      | (exfalso;omega)
      | skip
     refine aN (vs:=[.pointer (some ⟨b,0,none⟩), .int .i64 n]) (enters_of Tryz.func98 rfl rfl) rfl rfl (yW h1 hw hs8 n (by omega) (by omega)) ?_
     rintro _ w2 ⟨rfl,h2,m2⟩
     refine ⟨_,rfl,?_⟩
     refine aA ?_
     have hK:=h2
     have mK:=m1.trans m2
     have hpK:=aE (cs:=sA s (r0.take s n).2) hK
     have hwK:=gF hK (decide (((r0.take s n).2).at_=en)) 2
     refine_lift dJ fun _ _ => ?_
     refine aN (vs:=[.pointer (some ⟨b,0,none⟩), .bool (decide (((r0.take s n).2).at_=en)), .int .i64 2]) (enters_of Tryz.func44 rfl rfl) rfl rfl hwK ?_
     rintro _ w9 ⟨rfl,h9,m9⟩
     refine ⟨_,rfl,?_⟩
     refine aA ?_
     refine_lift bG ?_
     go_ret
     rw [if_neg (by simpa using c0),if_neg c1,if_neg c2,if_neg c3]
     exact ⟨rfl,h9,mK.trans m9⟩
 ·rw [decide_eq_false c0]
  refine_lift bG ?_
  go_ret
  rw [if_pos (by simpa using c0)]
  exact ⟨rfl,h1,m1⟩
section
variable {P:Program} {ops:Array Oper} {Q:Exit→Act→World→Prop} {w:World} {rest:List Oper} {ts:List Value} {df:List Deferred} {ty:TypeId} {ps:String} {af:Array Edge} {g:Option (Nat × Bool)}
theorem gW (s:List UInt8):Lib.strCells ⟨s.toArray⟩=(aS s).flatten:=by
 induction s with
 | nil=>rfl
 | cons x s ih =>
  simp only [Lib.strCells,aS,List.map_cons,List.flatten_cons] at ih ⊢
  rw [ih]
  rfl
theorem CX (t u ty e:TypeId) (i:TypeInfo) (ht:P.underlying t=some (.slice e)) (hu:P.underlying u=some .string) (hi:P.info? e=some i) (hs1:i.size=1)
 (g sLen sCap:Nat) (cur:Array Value) (fz:Nat × Nat) (hg:w.heap[g]? = some (.cells cur e fz)) (hfz:fz.2≤fz.1∨cur.size≤fz.1) (s:ByteArray)
 (hroom:sLen + s.size≤sCap) (hfit:sLen + s.size≤cur.size) :
 (Builtin.append_ #[t,u] ty #[.slice (some ⟨g,0,none⟩) sLen sCap, .string s]).run P w =
   .ok (.slice (some ⟨g,0,none⟩) (sLen + s.size) sCap) (w.setRow g (cur.toList.take sLen ++ Lib.strCells s ++ cur.toList.drop (sLen + s.size)).toArray):=by
 have hf:=Lib.run_firstCells_string (P:=P) w 1 s
 have hst:=eM P g sLen e fz (Lib.strCells s) 0 cur w hg hfz (by simpa [Lib.strCells_length] using hfit) (Lib.strCells_oneCell s)
 simp only [Nat.add_zero,Lib.strCells_length] at hst
 simp [Builtin.append_,run_underlying ht,run_underlying hu,sizeOf,typeInfo,hi,hs1,Builtin.lenOf,hroom,hf,Addr.add_lit,hst]
theorem zU {t u e B:Nat} {ty:TypeId} {v:Value} {l s:List UInt8} (ht:lU P t e 1 1=true) (hu:P.underlying u=some .string) (h:Own B 1 e w v (aS l))
 (hB:B≤w.heap.size) (hm:l.length + s.length≤140737488355328) :
 ∃ v' w',(Builtin.append_ #[t,u] ty #[v,aI s]).run P w=.ok v' w'∧Own B 1 e w' v' (aS (l ++ s))∧Mv v.ownBlock w w':=by
 obtain ⟨hut,i,z,hi,hz,hzc,hs,hby,_⟩:=iU ht
 obtain ⟨⟨hx1,hrow⟩,heach⟩:=h
 have hbl:∀ l:List UInt8,(aS l).length=l.length:=fun l=>by simp [aS]
 have hbf:∀ l:List UInt8,(aS l).flatten.length=l.length:=fun l=>by rw [← gW,Lib.strCells_length];rfl
 have happ:(aS (l ++ s)).flatten=(aS l).flatten ++ (aS s).flatten:=by simp [aS]
 have hone:∀ x ∈ aS (l ++ s),x.length=1:=by intro x hx;simp only [aS,List.mem_map] at hx;obtain ⟨_,_,rfl⟩:=hx;rfl
 have hss:(⟨s.toArray⟩:ByteArray).size=s.length:=rfl
 have hsmall:l.length + s.length≤9223372036854775807:=by omega
 have hmax:l.length + s.length≤maxLen:=by unfold maxLen;omega
 rw [hbl] at hrow
 rcases hrow with ⟨rfl,hn0⟩ | ⟨g,cap,cur,fz,rfl,hbg,hg,hfz,hnc,hcm,hcs,htake⟩
 ·have hl0:l=[]:=List.eq_nil_of_length_eq_zero hn0
  subst hl0
  by_cases hm0:s.length=0
  ·refine ⟨.slice none 0 0,w,?_,by rw [List.eq_nil_of_length_eq_zero hm0];exact Own.nil _ _ _ _,Mv.refl _ _⟩
   have hf:=Lib.run_firstCells_string (P:=P) w 1 ⟨s.toArray⟩
   have hn:Lib.strCells ⟨s.toArray⟩=[]:=by rw [gW,List.eq_nil_of_length_eq_zero hm0];rfl
   rw [hn] at hf
   have hz0:(⟨s.toArray⟩:ByteArray).size=0:=hm0
   unfold aI
   generalize (⟨s.toArray⟩:ByteArray)=sb at *
   rw [hz0] at hf
   simp [Builtin.append_,run_underlying hut,run_underlying hu,sizeOf,typeInfo,hi,hs,Builtin.lenOf,hz0,hf]
  ·have hr:=run_append_nil_string (P:=P) w t u ty e i z hut hu hi hz ⟨s.toArray⟩ (by rw [hss];omega) (by rw [hss];simp at hm;omega) (by rw [hby,hss];simp at hm;omega)
   have hge:=grownCap_ge w s.length 0 e
   have hcm':grownCap w s.length 0 e≤maxLen:=grownCap_le_maxLen w s.length 0 e (by simpa using hmax)
   have e1:((⟨s.toArray⟩:ByteArray).data.map fun b=>Value.int .u8 b.toNat)=(aS s).flatten.toArray:=by
    rw [← gW]
    apply Array.ext'
    simp [Lib.strCells]
   rw [e1,hss] at hr
   refine ⟨_,_,hr,⟨⟨?_, .inr ⟨w.heap.size,grownCap w s.length 0 e,_,(0,0),?_,hB,heap_alloc_new w.drew _, .inl (Nat.le_refl _),?_,hcm',?_,?_⟩⟩,hone⟩,⟨rfl,rfl,rfl,by simp,fun k hk _=>(Ext.alloc w.drew _).block k hk,Nat.le_succ _⟩⟩
   ·rw [hbf,hbl];simp
   ·rw [hbl];simp
   ·rw [hbl];simpa using hge
   ·simp only [Array.size_append,List.size_toArray,size_zeroCells,hzc,hbf]
    omega
   ·rw [hbl]
    simp only [Array.toList_append,List.nil_append]
    have:s.length * 1=(aS s).flatten.length:=by rw [hbf];omega
    rw [this]
    exact List.take_left
 ·have hcz:cur.size=cap:=by simpa using hcs
  have htk:cur.toList.take l.length=(aS l).flatten:=by simpa using htake
  by_cases hroom:l.length + s.length≤cap
  ·have hr:=CX (P:=P) (w:=w) t u ty e i hut hu hi hs g l.length cap cur fz hg hfz ⟨s.toArray⟩ hroom (by rw [hss];omega)
   refine ⟨_,_,hr,⟨⟨?_, .inr ⟨g,cap,_,fz,?_,hbg,setRow_heap w g cur _ e _ hg,?_,?_,hcm,?_,?_⟩⟩,hone⟩,⟨rfl,rfl,rfl,by simp,fun k _ hk=>setRow_other w g k _ (fun e=>hk (by simp [Value.ownBlock,e])),Nat.le_refl _⟩⟩
   ·rw [hbf,hbl];simp
   ·rw [hbl,hss];simp
   ·simp only [List.size_toArray,List.length_append,List.length_take,List.length_drop,Array.length_toList,Lib.strCells_length,hss]
    omega
   ·rw [hbl];simpa using hroom
   ·simp only [List.size_toArray,List.length_append,List.length_take,List.length_drop,Array.length_toList,Lib.strCells_length,hss]
    omega
   ·rw [htk,gW,← happ,hbl]
    have:(l ++ s).length * 1=(aS (l ++ s)).flatten.length:=by rw [hbf];omega
    rw [this]
    simp only [List.append_assoc]
    exact List.take_left
  ·have holds:∀ j u,(aS l).flatten[j]? = some u→w.cell? ((⟨g,0,none⟩:Addr).add j)=some u:=by
    intro j u hj
    rw [dW,cell_of_row w g _ cur _ fz hg]
    rw [← htk,List.getElem?_take] at hj
    split at hj
    ·rw [Nat.zero_add];simpa using hj
    ·cases hj
   have hr:=Lib.run_append_grow_string (P:=P) w t u ty e i z hut hu hi hz ⟨g,0,none⟩ l.length cap (aS l).flatten (by rw [hs,hbf];omega) holds ⟨s.toArray⟩ (by rw [hss];omega) (by rw [hss];omega) (by rw [hby,hss];exact growslice_fits (by omega) (by omega))
   rw [hss] at hr
   have hge:=grownCap_ge w (l.length + s.length) cap e
   have hcm':grownCap w (l.length + s.length) cap e≤maxLen:=grownCap_le_maxLen w (l.length + s.length) cap e hmax
   refine ⟨_,_,hr,⟨⟨?_, .inr ⟨w.heap.size,grownCap w (l.length + s.length) cap e,_,(0,0),?_,hB,heap_alloc_new w.drew _, .inl (Nat.le_refl _),?_,hcm',?_,?_⟩⟩,hone⟩,⟨rfl,rfl,rfl,by simp,fun k hk _=>(Ext.alloc w.drew _).block k hk,Nat.le_succ _⟩⟩
   ·rw [hbf,hbl];simp
   ·rw [hbl];simp
   ·rw [hbl];simpa using hge
   ·simp only [Array.size_append,List.size_toArray,size_zeroCells,hzc,hbf,Lib.strCells_length,hss]
    omega
   ·rw [hbl]
    simp only [Array.toList_append,List.append_assoc,gW]
    have:(l ++ s).length * 1=((aS l).flatten ++ (aS s).flatten).length:=by rw [← happ,hbf];omega
    rw [this,← List.append_assoc,happ]
    exact List.take_left
theorem zV {t u e B d:Nat} {x0 y:Operand} {v0:Value} {l s:List UInt8} (h0:(Act.mk ts.toArray df).eval x0=v0)
 (h:Own B 1 e w v0 (aS l)) (hy:(Act.mk ts.toArray df).eval y=aI s) (hB:B≤w.heap.size) (hm:l.length + s.length≤140737488355328)
 (hk:∀ v' w',Own B 1 e w' v' (aS (l ++ s))→Mv v0.ownBlock w w'→wpList P ops Q rest (Act.mk (ts.set d v').toArray df) w')
 (ht:lU P t e 1 1=true:=by decide +kernel) (hu:P.underlying u=some .string:=by decide +kernel) :
 wpList P ops Q (Oper.mk (some d) (.call ⟨.builtin .append,#[x0,y],#[t,u]⟩) ty ps af none :: rest) (Act.mk ts.toArray df) w:=by
 obtain ⟨v',w',hr,ho,hmv⟩:=zU (P:=P) (ty:=ty) ht hu h hB hm
 refine wpList_plain rfl fun K hK => ?_
 unfold Oper.wp execOp
 simp only [resolve,invoke,builtin,Sem.run_bind,Sem.run_pure,Result.andThen_ok,List.map_toArray,List.map_cons,List.map_nil,h0,hy,hr]
 refine hK _ _ ?_
 have:=hk v' w' ho hmv
 simpa [Act.put] using this
end
def SU (ps:List (List UInt8 × Nat)):List (Value × Value):=ps.map fun p=>(aI p.1, .int .i64 (p.2:Nat))
def zW (v:Value) (m:Nat):List Value:=[v, .map (some m)]
structure WrAt (w0 w:World) (b m:Nat) (l:List UInt8) (ps:List (List UInt8 × Nat)):Prop where
 hb:w0.heap.size≤b
 hm:w0.heap.size≤m
 ne:b≠m
 ext:Ext w0 w
 blk:∃ v,w.heap[b]? = some (.cells (zW v m).toArray 99 (0,0))∧Own w0.heap.size 1 5 w v (aS l)
 map:MapAt Tryz.prog 47 w m (SU ps)
def Kp (w w':World):Prop:=∀ (k:Nat) (cs:Array Value) (t:TypeId) (fz:Nat × Nat),t≠99→t≠5→w.heap[k]? = some (.cells cs t fz)→w'.heap[k]? = some (.cells cs t fz)
theorem Kp.refl (w:World):Kp w w:=fun _ _ _ _ _ _ h=>h
theorem Kp.trans {w w1 w2:World} (h:Kp w w1) (k:Kp w1 w2):Kp w w2:=fun n cs t fz a c x=>k n cs t fz a c (h n cs t fz a c x)
theorem Ext.kp {w w':World} (h:Ext w w'):Kp w w':=fun _ _ _ _ _ _ x=>h.at x
theorem Mv.kpRow {B k:Nat} {w w':World} {v:Value} {es:List (List Value)} (ho:Own B k 5 w v es) (h:Mv v.ownBlock w w'):Kp w w' :=
 fun _ _ _ _ _ hu x=>h.at x (fun e=>ho.neBlock x hu e.symm)
theorem Mv.kpBox {w w':World} {b:Nat} {cs:Array Value} {fz:Nat × Nat} (hB:w.heap[b]? = some (.cells cs 99 fz)) (h:Mv (some b) w w'):Kp w w' :=
 fun _ _ _ _ hw _ x=>h.at x (by intro e;cases e;rw [hB] at x;simp only [Option.some.injEq,Obj.cells.injEq] at x;exact hw x.2.1.symm)
theorem Mv.kpMap {w w':World} {m:Nat} {ents:List (Value × Value)} {kt:TypeId} (hM:MapAt Tryz.prog kt w m ents) (h:Mv (some m) w w'):Kp w w' :=
 fun _ _ _ _ _ _ x=>h.at x (by intro e;cases e;obtain ⟨es,ck,hme,_⟩:=hM.out;rw [hme] at x;cases x)
def vI (w0 w:World) (b m:Nat) (l:List UInt8) (ps:List (List UInt8 × Nat)) (e:Ending) (w':World):Prop:=e=.returned (.tuple #[])∧WrAt w0 w' b m l ps∧Kp w w'
def cG (n:Nat):List UInt8:=[UInt8.ofNat (n / 256),UInt8.ofNat n]
theorem yZ {w0 w:World} {b m:Nat} {l:List UInt8} {ps:List (List UInt8 × Nat)} (h:WrAt w0 w b m l ps) (s:List UInt8) (hl:l.length + s.length≤100000000000000):Calls Tryz.prog 104 #[.pointer (some ⟨b,0,none⟩),aI s] w (vI w0 w b m (l ++ s) ps):=by
 obtain ⟨hb,hm,hbm,hx,⟨v,hB,ho⟩,hM⟩:=h
 have hp:=aE (cs:=zW v m) hB
 go_enter Tryz.func104,Tryz.ntmps104
 refine_lift bG ?_
 refine zV (e:=5) (v0:=v) rfl ho rfl hx.size (by omega) ?_ (by decide +kernel) (by kernel_rfl)
 intro v1 w1 o1 m1
 refine aA ?_
 have hB1:=m1.at hB (fun e=>(ho.neBlock hB (by decide)) e.symm)
 have hM1:=hM.mvr m1 ho rfl
 have x1:Ext w0 w1:=hx.move m1 (fun k e=>(ho.block k e).1)
 clear hp
 refine_lift bG ?_
 refine aM (n:=0) (v:=v1) hB1 rfl rfl rfl (by simp [zW]) (by decide +kernel) o1.one ?_
 intro w2 p2
 have x2:Ext w0 w2:=x1.move p2.mv (by rintro k ⟨⟩;exact hb)
 have hB2:w2.heap[b]? = some (.cells (zW v1 m).toArray 99 (0,0)):=p2.this
 have o2:=o1.mv p2.mv (.inr (o1.neBlock hB1 (by decide)))
 have hM2:=hM1.at (fun o h=>p2.mv.at h (by intro e;exact hbm (Option.some.inj e).symm))
 refine_lift bG ?_
 go_end0
 exact ⟨rfl,⟨hb,hm,hbm,x2,⟨v1,hB2,o2⟩,hM2⟩,(Mv.kpRow ho m1).trans (Mv.kpBox hB1 p2.mv)⟩
theorem lZ (n:Nat):IntKind.u8.wrap ((n:Nat):Int)=(((UInt8.ofNat n).toNat:Nat):Int):=by
 simp [IntKind.wrap,IntKind.signed,IntKind.bits]
theorem jS {w0 w:World} {b m:Nat} {l:List UInt8} {ps:List (List UInt8 × Nat)} (h:WrAt w0 w b m l ps) (n:Nat) (hn:n≤100000000000000) (hl:l.length + 2≤100000000000000):Calls Tryz.prog 54 #[.pointer (some ⟨b,0,none⟩), .int .i64 n] w (vI w0 w b m (l ++ cG n) ps):=by
 obtain ⟨hb,hm,hbm,hx,⟨v,hB,ho⟩,hM⟩:=h
 have hp:=aE (cs:=zW v m) hB
 go_enter Tryz.func54,Tryz.ntmps54
 refine_lift bG ?_
 rw [show (↑n / 2 ^ Int.toNat 8:Int)=((n / 256:Nat):Int) by simp,lZ,lZ]
 refine bN (e:=5) (k:=1) (bytes:=1) (xs:=[.int .u8 ((UInt8.ofNat (n / 256)).toNat:Nat), .int .u8 ((UInt8.ofNat n).toNat:Nat)]) rfl rfl rfl (by simp [Value.cells]) (by decide +kernel) (by simp) ?_
 intro u1 w1 y1 _ sl1 _
 refine aA ?_
 have ho1:=ho.ext y1
 have x1':=hx.trans y1
 have hB1':=y1.at hB
 have hM1':=hM.at (fun o h=>y1.at h)
 refine kX (B:=w0.heap.size) (k:=1) (e:=5) (bytes:=1) (x:=u1) (es:=aS l) (fs:=aS (cG n)) rfl ho1 rfl sl1 (by decide +kernel) (by simp [aS,cG,Value.oneCell']) x1'.size (by simp [aS,cG];omega) (by simp [aS,cG];omega) ?_
 intro v1 w1 o1 m1
 have m1:Mv v.ownBlock _ w1:=m1
 refine aA ?_
 have hB1:=m1.at hB1' (fun e=>(ho1.neBlock hB1' (by decide)) e.symm)
 have hM1:=hM1'.mvr m1 ho1 rfl
 have x1:Ext w0 w1:=x1'.move m1 (fun k e=>(ho1.block k e).1)
 clear hp
 refine_lift bG ?_
 refine aM (n:=0) (v:=v1) hB1 rfl rfl rfl (by simp [zW]) (by decide +kernel) o1.one ?_
 intro w2 p2
 have x2:Ext w0 w2:=x1.move p2.mv (by rintro k ⟨⟩;exact hb)
 have hB2:w2.heap[b]? = some (.cells (zW v1 m).toArray 99 (0,0)):=p2.this
 have o2:=o1.mv p2.mv (.inr (o1.neBlock hB1 (by decide)))
 have hM2:=hM1.at (fun o h=>p2.mv.at h (by intro e;exact hbm (Option.some.inj e).symm))
 refine_lift bG ?_
 go_end0
 exact ⟨rfl,⟨hb,hm,hbm,x2,⟨v1,hB2,by simpa [aS] using o2⟩,hM2⟩,(y1.kp.trans (Mv.kpRow ho1 m1)).trans (Mv.kpBox hB1 p2.mv)⟩
structure HldR where
 o:List UInt8
 l:List RSet
 org:List UInt8
 up:Bool
 deriving Inhabited
structure HldsAt (w:World) (v:Value) (hs:List HldR):Prop where
 out:∃ css,Sl 4 w v css∧css.length=hs.length∧∀ (i:Nat) (h:HldR),hs[i]? = some h→∃ x,css[i]? = some [aI h.o,x,aI h.org, .bool h.up]∧SetsAt w x h.l
theorem HldsAt.ext {w w':World} {v:Value} {hs:List HldR} (h:HldsAt w v hs) (hx:Ext w w'):HldsAt w' v hs:=by
 obtain ⟨css,h1,h2,h3⟩:=h
 exact ⟨css,h1.ext hx,h2,fun i s hi=>let ⟨x,a,b⟩:=h3 i s hi;⟨x,a,b.ext hx⟩⟩
theorem HldsAt.elem {w:World} {v:Value} {hs:List HldR} (h:HldsAt w v hs) {i:Nat} {x:HldR} (hi:hs[i]? = some x):∃ y,Pts w (dN v (i * 4)) [aI x.o,y,aI x.org, .bool x.up]∧SetsAt w y x.l:=by
 obtain ⟨css,h1,h2,h3⟩:=h
 obtain ⟨y,h4,h5⟩:=h3 i x hi
 exact ⟨y,h1.elem h4,h5⟩
theorem HldsAt.sl {w:World} {v:Value} {hs:List HldR} (h:HldsAt w v hs):∃ css:List (List Value),Sl 4 w v css∧css.length=hs.length:=by
 obtain ⟨css,h1,h2,_⟩:=h
 exact ⟨css,h1,h2⟩
def uH (n:List UInt8):List HldR→Nat→Option Nat→Int→Option Nat
 | [],_,b,_=>b
 | h :: t,i,b,most=>if bQ n h.org=true∧most < ((gL h.org:Nat):Int) then uH n t (i + 1) (some i) ((gL h.org:Nat):Int) else uH n t (i + 1) b most
def OF (hs:List HldR) (n:List UInt8):Option Nat:=uH n hs 0 none (-1)
def WM (v:Value):Option Nat→Value
 | none=>.pointer none
 | some i=>dN v (i * 4)
theorem CY (n:List UInt8):gL n≤1000:=by
 unfold gL
 cases h:aV n with
 | none=>simp
 | some ls =>
  have h1:=dG h
  have h2:=fH ls
  rw [h1.2.1] at h2
  simp
  omega
def VI:List Value:=[aI [], .slice none 0 0,aI [], .bool false]
set_option maxHeartbeats 2000000 in
theorem WN (v:Value) (hs:List HldR) (n:List UInt8) (w:World) (hv:HldsAt w v hs) (hl:hs.length≤1000):Calls Tryz.prog 30 #[v,aI n] w (bM w (WM v (OF hs n))):=by
 obtain ⟨css,hsl,hcl⟩:=hv.sl
 have hgo:uH n (hs.drop 0) 0 none (-1)=OF hs n:=rfl
 generalize OF hs n=RES at *
 go_enter Tryz.func30,Tryz.ntmps30
 refine_lift dJ fun _ _ => ?_
 go_loopw [5,6,7,8,9,12] (fun bv mv _ _ _ iv wr=>∃ (k:Nat) (b:Option Nat) (most:Int),k≤hs.length∧iv=.int .i64 k∧bv=WM v b∧mv=.int .i64 most∧-1≤most∧most≤1000∧Ext w wr∧uH n (hs.drop k) k b most=RES) (fun _ _ _ _ _ iv _=>hs.length - (intOf iv).toNat)
 case atStart=>exact ⟨0,none,-1,Nat.zero_le _,rfl,rfl,rfl,by omega,by omega,Ext.refl _,hgo⟩
 case round =>
  obtain ⟨k,b,most,hk,rfl,rfl,rfl,hm0,hm1,hx,hg⟩:=hrel
  have hsr:=hsl.ext hx
  by_cases hlt:k < hs.length
  ·obtain ⟨y,h4,hy⟩:=(hv.ext hx).elem (List.getElem?_eq_getElem hlt)
   rw [List.drop_eq_getElem_cons hlt] at hg
   unfold uH at hg
   refine_lift GI ?_;intro _ _ _ _ _ _
   refine aL (z:=VI) rfl (by decide +kernel) ?_
   intro w3 x3 s3 h3
   refine aA ?_
   refine_lift bG ?_
   refine aG (v:=.agg #[aI hs[k].o,y,aI hs[k].org, .bool hs[k].up]) rfl rfl rfl h3 (show aR Tryz.prog 65 4=true by decide +kernel) rfl (eR rfl (by obtain ⟨_,hq,_⟩:=hy.sl;exact hq.one) rfl rfl) ?_
   intro w4 p4
   have x4:Ext wr w4:=x3.move p4.mv (by rintro k ⟨⟩;exact Nat.le_refl _)
   have h4':=aE (cs:=[aI hs[k].o,y,aI hs[k].org, .bool hs[k].up]) p4.this
   clear p4 h3 x3 h4
   have hsr4:=hsr.ext x4
   clear hsr
   refine_lift dJ fun _ _ => ?_
   refine aK (enters_of Tryz.func63 rfl rfl) rfl rfl (FD hs[k].org _) ?_
   intro v5 w5 x5 o5
   refine aA ?_
   have hs5:=o5.sl
   have hl5:(aP ((aV hs[k].org).getD [])).length=gL hs[k].org:=by simp [aP,gL]
   have hln:=CY hs[k].org
   have hp5:=h4'.ext x5
   clear h4'
   refine_lift dJ fun _ _ => ?_
   rw [hl5]
   refine aD (enters_of Tryz.func64 rfl rfl) rfl rfl (sX n hs[k].org _) ?_;intro w6 x6;refine aA ?_
   have hsr6:=hsr4.ext (x5.trans x6)
   have hx6:=hx.trans (x4.trans (x5.trans x6))
   clear hsr4
   cases hu:bQ n hs[k].org with
   | false =>
    rw [if_neg (by rintro ⟨h,_⟩;rw [hu] at h;cases h)] at hg
    refine_lift bG ?_
    exact ⟨⟨k + 1,b,most,by omega,by go_num,rfl,rfl,hm0,hm1,hx6,hg⟩,by simp [intOf];omega⟩
   | true =>
    by_cases hc:most < ((gL hs[k].org:Nat):Int)
    ·rw [if_pos ⟨hu,hc⟩] at hg
     refine_lift nK fun _ => ?_
     all_goals first
      | (exfalso;omega)
      | skip
     exact ⟨⟨k + 1,some k,_,by omega,by go_num,rfl,rfl,by omega,by omega,hx6,hg⟩,by simp [intOf];omega⟩
    ·rw [if_neg (fun h=>hc h.2)] at hg
     refine_lift nK fun _ => ?_
     all_goals first
      | (exfalso;omega)
      | skip
     exact ⟨⟨k + 1,b,most,by omega,by go_num,rfl,rfl,hm0,hm1,hx6,hg⟩,by simp [intOf];omega⟩
  ·have hk2:k=hs.length:=by omega
   subst hk2
   rw [List.drop_length] at hg
   unfold uH at hg
   refine_lift nK fun _ => ?_
   go_ret
   rw [← hg]
   exact ⟨rfl,hx⟩
open Go.ChangeShapes Go.WideShapes Go.ChangeAt Go.RowKit
theorem HS {H:Type} {enc:TypeId × Value→H} {w:World} {base:Nat} {spare:Nat→Bool} {held:Bool} {fuel:Nat} {cl:List Value} {x:DataW H × List MemPlace} (h:DataW.trod enc Tryz.prog w base spare held fuel 52 cl=some x):∃ (p:HldR) (u:Value),cl=[aI p.o,u,aI p.org, .bool p.up]∧SetsAt w u p.l:=by
 obtain ⟨xs,n',_,_,hl,hxl,hf⟩:=DataW.trod_struct Tryz.underlying52 h
 have c2:Tryz.prog.cellsOf 47=1:=by kernel_rfl
 have c4:Tryz.prog.cellsOf 4=1:=by kernel_rfl
 have c25:Tryz.prog.cellsOf 50=2:=by kernel_rfl
 have c8:Tryz.prog.cellsOf 52=4:=by kernel_rfl
 rw [c8] at hl
 match cl,hl,xs,hxl with
 | [a,b,d,f],_,[y0,y1,y2],_ =>
  have g0:=hf 0 _ rfl
  have g1:=hf 1 _ rfl
  have g2:=hf 2 _ rfl
  simp [c2,c4,c25] at g0 g1 g2
  obtain ⟨o,ls,u,e0,hu⟩:=KK (c:=#[a,b]) g0
  obtain ⟨rfl,rfl⟩:a=aI o∧b=u:=by simpa using e0
  obtain ⟨s1,rfl,_⟩:=lC Tryz.underlying47 g1
  obtain ⟨n2,rfl⟩:=kS Tryz.underlying4 g2
  exact ⟨⟨o,ls,s1,n2⟩,b,rfl,hu⟩
theorem HT {H:Type} {enc:TypeId × Value→H} {w:World} {base:Nat} {spare:Nat→Bool} {held:Bool} {fuel:Nat} {v:Value} {x:DataW H × List MemPlace} (h:DataW.trod enc Tryz.prog w base spare held fuel 22 [v]=some x):∃ hs:List HldR,HldsAt w v hs:=by
 obtain ⟨es,hs,he⟩:=mO Tryz.underlying22 (show Tryz.prog.cellsOf 52=4 by kernel_rfl) (by omega) h
 obtain ⟨l,rfl⟩:∃ l:List {p:HldR × Value // SetsAt w p.2 p.1.l},es=l.map fun p=>[aI p.1.1.o,p.1.2,aI p.1.1.org, .bool p.1.1.up]:=by
  refine qF fun c hc => ?_
  obtain ⟨n,y,hy⟩:=he c hc
  obtain ⟨p,u,rfl,hu⟩:=HS hy
  exact ⟨⟨(p,u),hu⟩,rfl⟩
 refine ⟨l.map fun p=>p.1.1,_,hs,by simp,?_⟩
 intro i s hi
 rw [List.getElem?_map] at hi
 obtain ⟨p,hp,rfl⟩:=Option.map_eq_some_iff.1 hi
 exact ⟨p.1.2,by rw [List.getElem?_map,hp];rfl,p.2⟩
end Go.Proofs.X
set_option linter.unusedSimpArgs false
set_option linter.unusedVariables false
namespace Go.Proofs.X
open Go.RowKit
end Go.Proofs.X
set_option linter.unusedSimpArgs false
set_option linter.unusedVariables false
namespace Go.Proofs.X
open Go.RowKit
end Go.Proofs.X
set_option linter.unusedSimpArgs false
set_option linter.unusedVariables false
namespace Go.Proofs.X
open Go.RowKit
end Go.Proofs.X
set_option linter.unusedSimpArgs false
set_option linter.unusedVariables false
namespace Go.Proofs.X
open Go.RowKit
set_option maxRecDepth 100000
structure ZonesAt (w:World) (v:Value) (zs:List (List UInt8 × List RSet)):Prop where
 out:∃ css,Sl 2 w v css∧css.length=zs.length∧∀ (i:Nat) (z:List UInt8 × List RSet),zs[i]? = some z→∃ u,css[i]? = some [aI z.1,u]∧SetsAt w u z.2
theorem ZonesAt.ext {w w':World} {v:Value} {zs:List (List UInt8 × List RSet)} (h:ZonesAt w v zs) (hx:Ext w w'):ZonesAt w' v zs:=by
 obtain ⟨css,h1,h2,h3⟩:=h
 exact ⟨css,h1.ext hx,h2,fun i z hi=>let ⟨u,a,b⟩:=h3 i z hi;⟨u,a,b.ext hx⟩⟩
def QY (o:List UInt8) (l:List RSet) (o':List UInt8) (l':List RSet):List RSet:=if PC o l o' l'=0 then l' else l
def QZ (room:Int) (o:List UInt8) (l:List RSet) (ds:List DeltaR) (o':List UInt8) (l':List RSet):List DeltaR:=if PC o l o' l'=0 then MT room (ds ++ [UV o l o l']) else ds
structure JOk (o:List UInt8) (l:List RSet) (room:Int) (ds:List DeltaR):Prop where
 zone:ZoneOk o l
 fits:0≤room∧room≤20
 len:(ds.length:Int)≤room
 each:∀ d ∈ ds,d.gone.length≤4000∧d.new.length≤4000
theorem PU {o o':List UInt8} {l l':List RSet} (h:PC o l o' l'=0):o'=o∧ZoneOk o l'∧rT (eF o l').serial (eF o l).serial=true:=by
 unfold PC at h
 split at h
 ·rename_i q;exact absurd h q
 ·rename_i q
  split at h
  ·cases h
  ·rename_i q2
   have e:o'=o:=by simpa using q2
   subst e
   split at h
   ·cases h
   ·rename_i q3
    exact ⟨rfl,jC (by simpa using q),by simpa using q3⟩
theorem PV {o:List UInt8} {l l':List RSet} (h:ZoneOk o l) (h':ZoneOk o l'):(UV o l o l').gone.length≤4000∧(UV o l o l').new.length≤4000:=by
 rw [(UY (SL h h')).2.2.2]
 have a:=(MS h).2.2.2
 have b:=(MS h').2.2.2
 unfold BI
 exact ⟨Nat.le_trans (List.length_filter_le _ _) a,Nat.le_trans (List.length_filter_le _ _) b⟩
theorem JOk.next {o:List UInt8} {l:List RSet} {room:Int} {ds:List DeltaR} (h:JOk o l room ds) (o':List UInt8) (l':List RSet):JOk o (QY o l o' l') room (QZ room o l ds o' l'):=by
 unfold QY QZ
 split
 ·rename_i q
  obtain ⟨rfl,hz,_⟩:=PU q
  refine ⟨hz,h.fits,?_,?_⟩
  ·rw [NE _ _ h.fits.1]
   exact Int.min_le_right _ _
  ·intro d hd
   rcases List.mem_append.1 (List.mem_of_mem_drop hd) with hd | hd
   ·exact h.each d hd
   ·rw [List.mem_singleton.1 hd]
    exact PV h.zone hz
 ·exact h
theorem JOk.small {o:List UInt8} {l:List RSet} {room:Int} {ds:List DeltaR} (h:JOk o l room ds):l.length≤100000∧(∀ s ∈ l,s.data.length≤1000000)∧(∀ s ∈ l,∀ d ∈ s.data,d.length≤4611686018427387904)∧ds.length≤1000∧(∀ d ∈ ds,d.gone.length≤100000∧d.new.length≤100000):=by
 obtain ⟨a,b,c,_⟩:=MS h.zone
 have hl:=h.len
 have hr:=h.fits
 refine ⟨by omega,fun s hs=>by have:=b s hs;omega,fun s hs d hd=>by have:=c s hs d hd;omega,by omega,fun d hd=>by have:=h.each d hd;omega⟩
def pX (n:Nat):List UInt8:=cG (n / 65536) ++ cG n
theorem NJ {w0 w:World} {b m:Nat} {l:List UInt8} {ps:List (List UInt8 × Nat)} (h:WrAt w0 w b m l ps) (n:Nat) (hn:n≤100000000000000) (hl:l.length + 4≤100000000000000):Calls Tryz.prog 57 #[.pointer (some ⟨b,0,none⟩), .int .i64 n] w (vI w0 w b m (l ++ pX n) ps):=by
 go_enter Tryz.func57,Tryz.ntmps57
 refine_lift dJ fun _ _ => ?_
 have c1:=jS h (n / 65536) (by omega) (by omega)
 refine aN (vs:=[.pointer (some ⟨b,0,none⟩), .int .i64 ((n / 65536:Nat):Int)]) (enters_of Tryz.func54 rfl rfl) rfl (congrArg (fun z=>[Value.pointer (some ⟨b,0,none⟩),Value.int .i64 z]) (show ((n:Int) / 2 ^ Int.toNat 16)=((n / 65536:Nat):Int) by simp)) c1 ?_
 rintro _ w1 ⟨rfl,h1,g1⟩
 refine ⟨_,rfl,?_⟩
 refine aA ?_
 have c2:=jS h1 n hn (by simp [cG];omega)
 refine_lift bG ?_
 refine aN (vs:=[.pointer (some ⟨b,0,none⟩), .int .i64 ((n:Nat):Int)]) (enters_of Tryz.func54 rfl rfl) rfl rfl c2 ?_
 rintro _ w2 ⟨rfl,h2,g2⟩
 refine ⟨_,rfl,?_⟩
 refine aA ?_
 refine_lift bG ?_
 go_end0
 exact ⟨rfl,by simpa [pX] using h2,g1.trans g2⟩
def nA (x:List UInt8):List UInt8:=UInt8.ofNat x.length :: x
def eG:List (List UInt8)→List UInt8→List (List UInt8 × Nat)→List UInt8 × List (List UInt8 × Nat)
 | [],l,ps=>(l ++ [0],ps)
 | x :: ls,l,ps=>match ps.find? (fun p=>decide (p.1=enc (x :: ls))) with
   | some p=>if p.2 < 16384 then (l ++ cG (49152 ||| p.2),ps) else eG ls (l ++ nA x) ps
   | none=>eG ls (l ++ nA x) (ps ++ [(enc (x :: ls),l.length)])
def Keys (ps:List (List UInt8 × Nat)):Prop:=ps.Pairwise fun a b=>a.1≠b.1
theorem NK {ps:List (List UInt8 × Nat)} (hk:Keys ps) {i:Nat} {p:List UInt8 × Nat} (h:ps[i]? = some p):ps.find? (fun q=>decide (q.1=p.1))=some p:=by
 induction ps generalizing i with
 | nil=>simp at h
 | cons q ps ih =>
  obtain ⟨h1,h2⟩:=List.pairwise_cons.1 hk
  cases i with
  | zero =>
   simp at h
   subst h
   simp
  | succ i =>
   simp at h
   rw [List.find?_cons_of_neg (by simpa using h1 p (List.mem_of_getElem? h))]
   exact ih h2 h
theorem SV {ps:List (List UInt8 × Nat)} {i:Nat} {n:List UInt8} {v:Value} (h:(SU ps)[i]? = some (aI n,v)):∃ k,ps[i]? = some (n,k)∧v=.int .i64 (k:Nat):=by
 simp only [SU,List.getElem?_map] at h
 cases hp:ps[i]? with
 | none=>rw [hp] at h;cases h
 | some p =>
  rw [hp] at h
  simp only [Option.map_some,Option.some.injEq,Prod.mk.injEq] at h
  obtain ⟨h1,h2⟩:=h
  exact ⟨p.2,by rw [← (show p.1=n by simpa [aI] using h1)],h2.symm⟩
theorem IW {ps:List (List UInt8 × Nat)} {n:List UInt8} (h:∀ (i:Nat) (e:Value × Value),(SU ps)[i]? = some e→e.1≠aI n):ps.find? (fun q=>decide (q.1=n))=none:=by
 rw [List.find?_eq_none]
 intro q hq e
 obtain ⟨i,hi⟩:=List.getElem?_of_mem hq
 have e:q.1=n:=by simpa using e
 exact h i (aI q.1, .int .i64 (q.2:Nat)) (by simp [SU,hi]) (by rw [e])
theorem Keys.add {ps:List (List UInt8 × Nat)} {n:List UInt8} {k:Nat} (hk:Keys ps) (h:ps.find? (fun q=>decide (q.1=n))=none):Keys (ps ++ [(n,k)]):=by
 unfold Keys
 rw [List.pairwise_append]
 refine ⟨hk,List.pairwise_singleton _ _,?_⟩
 intro a ha b hb
 simp at hb
 subst hb
 rw [List.find?_eq_none] at h
 simpa using h a ha
def sLen:Value→Nat
 | .string s=>s.size
 | _=>0
set_option maxHeartbeats 2000000 in
theorem IX {w0 w:World} {b m:Nat} {l:List UInt8} {ps:List (List UInt8 × Nat)} (h:WrAt w0 w b m l ps) (hk:Keys ps) (ls:List (List UInt8)) (hf:ls.all iI=true) (hn:(enc ls).length≤1000) (hl:l.length + 2000≤100000000000000):Calls Tryz.prog 56 #[.pointer (some ⟨b,0,none⟩),aI (enc ls)] w (vI w0 w b m (eG ls l ps).1 (eG ls l ps).2):=by
 have hgo:eG (ls.drop 0) l ps=eG ls l ps:=by rw [List.drop_zero]
 generalize eG ls l ps=RES at *
 go_enter Tryz.func56,Tryz.ntmps56
 refine_lift dJ fun _ _ => ?_
 go_loopw [1,4,5,6] (fun nv _ _ _ wr=>∃ (k:Nat) (l':List UInt8) (ps':List (List UInt8 × Nat)),k≤ls.length∧nv=aI (enc (ls.drop k))∧WrAt w0 wr b m l' ps'∧Keys ps'∧l'.length + (enc (ls.drop k)).length≤l.length + 1000∧(enc (ls.drop k)).length≤1000∧Kp w wr∧eG (ls.drop k) l' ps'=RES) (fun nv _ _ _ _=>sLen nv)
 case atStart=>exact ⟨0,l,ps,Nat.zero_le _,by rw [List.drop_zero],h,hk,by rw [List.drop_zero];omega,by rw [List.drop_zero];exact hn,Kp.refl _,hgo⟩
 case round =>
  obtain ⟨k,l',ps',hkl,rfl,hW,hK,hle,hle2,hKp,hg⟩:=hrel
  have hfd:(ls.drop k).all iI=true:=by
   rw [List.all_eq_true] at hf ⊢
   exact fun x hx=>hf x (List.mem_of_mem_drop hx)
  have hdl:(ls.drop k).length=ls.length - k:=List.length_drop
  obtain ⟨hb,hm,hbm,hx,⟨v,hB,ho⟩,hM⟩:=hW
  have hp:=aE (cs:=zW v m) hB
  have hsl:=ho.sl
  cases hd:ls.drop k with
  | nil =>
   rw [hd] at hg hle hle2
   unfold eG at hg
   refine_lift nK fun _ => ?_
   all_goals first
    | (exfalso;simp_all [enc];done)
    | skip
   refine bN (e:=5) (k:=1) (bytes:=1) (xs:=[.int .u8 0]) rfl rfl rfl (by simp [Value.cells]) (by decide +kernel) (by simp) ?_
   intro u1 w1 y1 _ sl1 _
   refine aA ?_
   have ho1:=ho.ext y1
   have x1':=hx.trans y1
   have hB1':=y1.at hB
   have hM1':=hM.at (fun o h=>y1.at h)
   refine kX (B:=w0.heap.size) (k:=1) (e:=5) (bytes:=1) (x:=u1) (es:=aS l') (fs:=aS [0]) rfl ho1 rfl sl1 (by decide +kernel) (by simp [aS,Value.oneCell']) x1'.size (by simp [aS];omega) (by simp [aS];omega) ?_
   intro v1 w1 o1 m1
   have m1:Mv v.ownBlock _ w1:=m1
   refine aA ?_
   have hB1:=m1.at hB1' (fun e=>(ho1.neBlock hB1' (by decide)) e.symm)
   have hM1:=hM1'.mvr m1 ho1 rfl
   have x1:Ext w0 w1:=x1'.move m1 (fun k e=>(ho1.block k e).1)
   clear hp
   refine_lift bG ?_
   refine aM (n:=0) (v:=v1) hB1 rfl rfl rfl (by simp [zW]) (by decide +kernel) o1.one ?_
   intro w2 p2
   have x2:Ext w0 w2:=x1.move p2.mv (by rintro k ⟨⟩;exact hb)
   have hB2:w2.heap[b]? = some (.cells (zW v1 m).toArray 99 (0,0)):=p2.this
   have o2:=o1.mv p2.mv (.inr (o1.neBlock hB1 (by decide)))
   have hM2:=hM1.at (fun o h=>p2.mv.at h (by intro e;exact hbm (Option.some.inj e).symm))
   refine_lift bG ?_
   go_end0
   rw [← hg]
   exact ⟨rfl,⟨hb,hm,hbm,x2,⟨v1,hB2,by simpa [aS] using o2⟩,hM2⟩,hKp.trans ((y1.kp.trans (Mv.kpRow ho1 m1)).trans (Mv.kpBox hB1 p2.mv))⟩
  | cons x xs =>
   rw [hd] at hg hle hle2 hfd
   have hx1:1≤x.length∧x.length≤63:=by
    have:=(List.all_eq_true.1 hfd) x (by simp)
    simpa [iI] using this
   have hxs:ls.drop (k + 1)=xs:=by rw [← List.drop_drop,hd];rfl
   have hen:enc (x :: xs)=UInt8.ofNat x.length :: (x ++ enc xs):=by simp [enc]
   have hlen:(UInt8.ofNat x.length :: (x ++ enc xs)).length=x.length + (enc xs).length + 1:=by simp
   have hlen2:(enc (x :: xs)).length=x.length + (enc xs).length + 1:=by rw [hen,hlen]
   have hb0:(UInt8.ofNat x.length).toNat=x.length:=by simp;omega
   have htk:List.take ((UInt8.ofNat x.length).toNat + 1) (UInt8.ofNat x.length :: (x ++ enc xs))=nA x:=by rw [hb0];simp [nA]
   have hdp:List.drop ((UInt8.ofNat x.length).toNat + 1) (UInt8.ofNat x.length :: (x ++ enc xs))=enc xs:=by rw [hb0];simp
   obtain ⟨lx,hlx⟩:=PP (enc (x :: xs)) (by omega)
   have hzv:∀ w,(zeroValue 3).run Tryz.prog w=.ok (.int .i64 0) w:=fun w=>by kernel_rfl
   obtain ⟨bv,bb,hrl,hcase⟩:=iG IS (show oT Tryz.prog 96 47 3=true by decide +kernel) hzv hM hlx true
   simp only [if_true] at hrl
   have hne0:enc (x :: xs)≠[]:=by rw [hen];simp
   refine_lift xI ?_;intro _ _ _ _
   all_goals first
    | (exfalso;exact hne0 (by simpa using ‹_›))
    | skip
   refine cH rfl (Runs.lookup rfl rfl hrl) ?_
   refine aA ?_
   rcases hcase with ⟨i,hie,rfl⟩ | ⟨hno,rfl,rfl⟩
   ·obtain ⟨at_,hat,rfl⟩:=SV hie
    have hfind:=NK hK hat
    unfold eG at hg
    dsimp only at hfind
    rw [hfind] at hg
    dsimp only at hg
    by_cases c1:at_ < 16384
    ·rw [if_pos c1] at hg
     refine_lift LQ fun _ _ _ _ _ => ?_
     all_goals first
      | (exfalso;omega)
      | skip
     refine aT (Runs.orN (m:=49152) (n:=at_) rfl rfl (by omega) (by omega)) ?_
     refine aA ?_
     have cw:=jS (⟨hb,hm,hbm,hx,⟨v,hB,ho⟩,hM⟩:WrAt w0 wr b m l' ps') (49152 ||| at_) (by have:=Nat.or_lt_two_pow (x:=49152) (y:=at_) (n:=16) (by decide) (by omega);omega) (by omega)
     refine aN (vs:=[.pointer (some ⟨b,0,none⟩), .int .i64 ((49152 ||| at_:Nat):Int)]) (enters_of Tryz.func54 rfl rfl) rfl rfl cw ?_
     rintro _ w1 ⟨rfl,h1,g1⟩
     refine ⟨_,rfl,?_⟩
     refine aA ?_
     refine_lift bG ?_
     refine bodyPost_ret (results_none rfl _ _ _) rfl ?_
     rw [← hg]
     exact ⟨rfl,h1,hKp.trans g1⟩
    ·rw [if_neg c1] at hg
     rw [hen]
     refine_lift vZ fun _ _ _ => ?_
     all_goals first
      | (exfalso;omega)
      | skip
     have hW9:WrAt w0 _ b m l' ps':=⟨hb,hm,hbm,hx,⟨v,hB,ho⟩,hM⟩
     have ct:=yZ hW9 (nA x) (by simp [nA];omega)
     refine aN (vs:=[.pointer (some ⟨b,0,none⟩),aI (nA x)]) (enters_of Tryz.func104 rfl rfl) rfl (congrArg (fun z=>[Value.pointer (some ⟨b,0,none⟩),aI z]) htk) ct ?_
     rintro _ w5 ⟨rfl,h5,g5⟩
     refine ⟨_,rfl,?_⟩
     refine aA ?_
     clear hp hsl
     refine_lift bG ?_
     refine ⟨⟨k + 1,l' ++ nA x,ps',by have:=congrArg List.length hd;simp at this;omega,by rw [hxs];exact congrArg aI hdp,h5,hK,by rw [hxs];simp [nA];omega,by rw [hxs];omega,hKp.trans g5,by rw [hxs];exact hg⟩,?_⟩
     show (List.drop ((UInt8.ofNat x.length).toNat + 1) (UInt8.ofNat x.length :: (x ++ enc xs))).length < (enc (x :: xs)).length
     rw [hdp,hlen2]
     omega
   ·unfold eG at hg
    rw [IW hno] at hg
    dsimp only at hg
    refine_lift dJ fun _ _ => ?_
    all_goals first
     | (exfalso;simp_all;done)
     | skip
    refine bV 10 (Ext wr) (by decide +kernel) ?_
    intro w1 x1 _
    refine ⟨x1,?_⟩
    refine cV 0 ?_;refine cV 1 ?_;refine cV 2 ?_;refine cV 3 ?_;refine cV 4 ?_;refine cV 5 ?_;refine cV 6 ?_;refine cV 7 ?_;refine cV 8 ?_;refine cV 9 ?_
    refine bE (i:=10) (by decide +kernel) rfl rfl ?_
    have hM1:=hM.at (fun o h=>x1.at h)
    obtain ⟨w7,o7,hr7,p7,hm7⟩:=kZ IS (show oT Tryz.prog 96 47 3=true by decide +kernel) hM1 hlx (v:=.int .i64 ((aS l').length:Nat)) hno
    refine mA rfl rfl rfl rfl hr7 ?_
    have x7:Ext w0 w7:=(hx.trans x1).move p7.mv (by rintro k ⟨⟩;exact hm)
    have hB7:=p7.mv.at (x1.at hB) (by intro e;exact hbm (Option.some.inj e))
    obtain ⟨es,ck,hme,_⟩:=hM1.out
    have ho7:=(ho.ext x1).mv p7.mv (.inr ((ho.ext x1).neMap hme))
    have hm8:MapAt Tryz.prog 47 w7 m (SU (ps' ++ [(enc (x :: xs),l'.length)])):=by simpa [SU,aS] using hm7
    refine aJ ⟨bT rfl,?_⟩
    refine cN (by decide +kernel) ?_
    rw [hen]
    refine_lift dJ fun _ _ => ?_
    have hW9:WrAt w0 _ b m l' (ps' ++ [(enc (x :: xs),l'.length)]):=⟨hb,hm,hbm,x7,⟨v,hB7,ho7⟩,hm8⟩
    have ct:=yZ hW9 (nA x) (by simp [nA];omega)
    refine aN (vs:=[.pointer (some ⟨b,0,none⟩),aI (nA x)]) (enters_of Tryz.func104 rfl rfl) rfl (congrArg (fun z=>[Value.pointer (some ⟨b,0,none⟩),aI z]) htk) ct ?_
    rintro _ w5 ⟨rfl,h5,g5⟩
    refine ⟨_,rfl,?_⟩
    refine aA ?_
    clear hp hsl
    refine_lift bG ?_
    refine ⟨⟨k + 1,l' ++ nA x,(ps' ++ [(enc (x :: xs),l'.length)]),by have:=congrArg List.length hd;simp at this;omega,by rw [hxs];exact congrArg aI hdp,h5,hK.add (IW hno),by rw [hxs];simp [nA];omega,by rw [hxs];omega,hKp.trans ((x1.kp.trans (Mv.kpMap hM1 p7.mv)).trans g5),by rw [hxs];exact hg⟩,?_⟩
    show (List.drop ((UInt8.ofNat x.length).toNat + 1) (UInt8.ofNat x.length :: (x ++ enc xs))).length < (enc (x :: xs)).length
    rw [hdp,hlen2]
    omega
def gX (n:List UInt8):List (List UInt8):=(aV n).getD []
theorem gG {n:List UInt8} (h:(aV n).isSome=true):(gX n).all iI=true∧enc (gX n)=n∧n.length≤254:=by
 cases hl:aV n with
 | none=>rw [hl] at h;cases h
 | some ls =>
  have:=dG hl
  simpa [gX,hl] using this
theorem tF {w0 w:World} {b m:Nat} {l:List UInt8} {ps:List (List UInt8 × Nat)} (h:WrAt w0 w b m l ps) (hk:Keys ps) (n:List UInt8) (hn:(aV n).isSome=true) (hl:l.length + 2000≤100000000000000):Calls Tryz.prog 56 #[.pointer (some ⟨b,0,none⟩),aI n] w (vI w0 w b m (eG (gX n) l ps).1 (eG (gX n) l ps).2):=by
 obtain ⟨h1,h2,h3⟩:=gG hn
 have:=IX h hk (gX n) h1 (by rw [h2];omega) hl
 rw [h2] at this
 exact this
theorem iE:∀ (ls:List (List UInt8)) (l:List UInt8) (ps:List (List UInt8 × Nat)),Keys ps→Keys (eG ls l ps).2:=by
 intro ls
 induction ls with
 | nil=>intro l ps h;exact h
 | cons x ls ih =>
  intro l ps h
  unfold eG
  split
  ·split
   ·exact h
   ·exact ih _ _ h
  ·rename_i hn
   exact ih _ _ (h.add hn)
theorem kU:∀ (ls:List (List UInt8)) (l:List UInt8) (ps:List (List UInt8 × Nat)),∃ t,(eG ls l ps).1=l ++ t∧t.length≤(enc ls).length + 2:=by
 intro ls
 induction ls with
 | nil=>intro l ps;exact ⟨[0],rfl,by simp⟩
 | cons x ls ih =>
  intro l ps
  have he:(enc (x :: ls)).length=(nA x).length + (enc ls).length:=by simp [enc,nA];omega
  unfold eG
  split
  ·split
   ·exact ⟨_,rfl,by simp [cG]⟩
   ·obtain ⟨t,h1,h2⟩:=ih (l ++ nA x) ps
    exact ⟨nA x ++ t,by rw [h1,List.append_assoc],by rw [List.length_append];omega⟩
  ·obtain ⟨t,h1,h2⟩:=ih (l ++ nA x) (ps ++ [(enc (x :: ls),l.length)])
   exact ⟨nA x ++ t,by rw [h1,List.append_assoc],by rw [List.length_append];omega⟩
def eQ (r:Rec) (l:List UInt8) (ps:List (List UInt8 × Nat)):List UInt8 × List (List UInt8 × Nat) :=
 if r.kind=6 then ((eG (gX (gE r.data).mail) (eG (gX (gE r.data).main) l ps).1 (eG (gX (gE r.data).main) l ps).2).1 ++ r.data.drop (r.data.length - 20),(eG (gX (gE r.data).mail) (eG (gX (gE r.data).main) l ps).1 (eG (gX (gE r.data).main) l ps).2).2)
 else if (aY r.kind r.data).2=0∧r.kind≠33 then eG (gX (aY r.kind r.data).1) (l ++ r.data.take (r.data.length - (aY r.kind r.data).1.length - 1)) ps
 else (l ++ r.data,ps)
def pY (r:Rec) (l:List UInt8) (ps:List (List UInt8 × Nat)):List UInt8 × List (List UInt8 × Nat) :=
 (l ++ cG ((eQ r (l ++ cG 0) ps).1.length - l.length - 2) ++ (eQ r (l ++ cG 0) ps).1.drop (l.length + 2),(eQ r (l ++ cG 0) ps).2)
theorem BS {k:Int} {d:List UInt8} (h:(aY k d).2=0):(aV (aY k d).1).isSome=true∧(aY k d).1.length + 1≤d.length:=by
 unfold aY at h ⊢
 split at h
 ·cases h
 ·split at h
  ·cases h
  ·rename_i c1 c2
   rw [if_neg c1,if_neg c2]
   cases hh:eX (d.drop (dY k).toNat) with
   | none=>rw [hh] at h;cases h
   | some n =>
    obtain ⟨e1,e2⟩:=rP hh
    have:=congrArg List.length e1
    simp at this
    exact ⟨e2,by simp;omega⟩
theorem tG (r:Rec) (l2:List UInt8) (ps:List (List UInt8 × Nat)) (hd:r.data.length≤4000) (hS:r.kind=6→(aV (gE r.data).main).isSome=true∧(aV (gE r.data).mail).isSome=true∧20≤r.data.length):∃ y,(eQ r l2 ps).1=l2 ++ y∧y.length≤5000:=by
 unfold eQ
 split
 ·rename_i c6
  obtain ⟨s1',s2',s3'⟩:=hS c6
  obtain ⟨y7,e7,n7⟩:=kU (gX (gE r.data).main) l2 ps
  obtain ⟨y8,e8,n8⟩:=kU (gX (gE r.data).mail) (eG (gX (gE r.data).main) l2 ps).1 (eG (gX (gE r.data).main) l2 ps).2
  have a1:=gG s1'
  have a2:=gG s2'
  rw [a1.2.1] at n7
  rw [a2.2.1] at n8
  refine ⟨y7 ++ (y8 ++ r.data.drop (r.data.length - 20)),?_,?_⟩
  ·dsimp only
   rw [e8,e7]
   simp
  ·simp only [List.length_append,List.length_drop]
   omega
 ·split
  ·rename_i c0
   obtain ⟨k1,k2⟩:=BS c0.1
   obtain ⟨y7,e7,n7⟩:=kU (gX (aY r.kind r.data).1) (l2 ++ r.data.take (r.data.length - (aY r.kind r.data).1.length - 1)) ps
   have a1:=gG k1
   rw [a1.2.1] at n7
   refine ⟨r.data.take (r.data.length - (aY r.kind r.data).1.length - 1) ++ y7,by rw [e7,List.append_assoc],?_⟩
   simp only [List.length_append,List.length_take]
   omega
  ·exact ⟨r.data,rfl,by omega⟩
theorem VJ (l:List UInt8) (k:Nat) (a:UInt8):(aS l).set k [.int .u8 ((a.toNat:Nat):Int)]=aS (l.set k a):=by simp [aS,List.map_set]
theorem NL (l y:List UInt8) (n:Nat):((aS (l ++ cG 0 ++ y)).set l.length [.int .u8 (IntKind.u8.wrap ((n:Int) / 2 ^ Int.toNat 8))]).set (l.length + 1) [.int .u8 (IntKind.u8.wrap (n:Int))]=aS (l ++ cG n ++ y):=by
 rw [show ((n:Int) / 2 ^ Int.toNat 8)=((n / 256:Nat):Int) by simp,lZ,lZ,VJ,VJ]
 congr 1
 simp [cG,List.set_append]
set_option maxHeartbeats 2000000 in
theorem PW {w0 w:World} {b m:Nat} {l:List UInt8} {ps:List (List UInt8 × Nat)} (h:WrAt w0 w b m l ps) (hk:Keys ps) (r:Rec) (hd:r.data.length≤4000) (hS:r.kind=6→(aV (gE r.data).main).isSome=true∧(aV (gE r.data).mail).isSome=true∧20≤r.data.length) (hl:l.length + 10000≤100000000000000):Calls Tryz.prog 58 #[.pointer (some ⟨b,0,none⟩),mG r] w (vI w0 w b m (pY r l ps).1 (pY r l ps).2):=by
 unfold pY
 have hh:=BS (k:=r.kind) (d:=r.data)
 have hpre:=tG r (l ++ cG 0) ps hd hS
 go_enter Tryz.func58,Tryz.ntmps58
 refine_lift lF fun _ _ => ?_
 refine eK (vs:=[aI r.name, .int .i64 r.kind, .int .i64 r.ttl,aI r.data]) rfl rfl ?_
 intro w1 x1 s1 hb1
 refine aA ?_
 obtain ⟨hb,hm,hbm,hx,⟨v,hB,ho⟩,hM⟩:=h
 have hp:=aE (cs:=zW v m) (x1.at hB)
 have hsl:=(ho.ext x1).sl
 have hW1:WrAt w0 w1 b m l ps:=⟨hb,hm,hbm,hx.trans x1,⟨v,x1.at hB,ho.ext x1⟩,hM.at (fun o h=>x1.at h)⟩
 refine_lift dJ fun _ _ => ?_
 have cw:=jS hW1 0 (by omega) (by omega)
 refine aN (vs:=[.pointer (some ⟨b,0,none⟩), .int .i64 ((0:Nat):Int)]) (enters_of Tryz.func54 rfl rfl) rfl rfl cw ?_
 rintro _ w2 ⟨rfl,h2,g2⟩
 refine ⟨_,rfl,?_⟩
 refine aA ?_
 clear hp
 have hc2:=g2 _ _ _ _ (by decide) (by decide) hb1
 have hpc2:=aE (cs:=[aI r.name, .int .i64 r.kind, .int .i64 r.ttl,aI r.data]) hc2
 have hl2:(l ++ cG 0).length=l.length + 2:=by simp [cG]
 generalize hL2:l ++ cG 0=l2 at *
 refine_lift dJ fun _ _ => ?_
 refine aD (enters_of Tryz.func105 rfl rfl) rfl rfl (VN r.kind r.data _ (by omega)) ?_;intro w3 x3;refine aA ?_
 have hpc3:=hpc2.ext x3
 have hc3:=x3.at hc2
 obtain ⟨f1,f2,f3,f4,⟨v2,f5,f6⟩,f7⟩:=h2
 have h3:WrAt w0 w3 b m l2 ps:=⟨f1,f2,f3,f4.trans x3,⟨v2,x3.at f5,f6.ext x3⟩,f7.at (fun o h=>x3.at h)⟩
 clear hpc2
 have hDe:eQ r l2 ps=eQ r l2 ps:=rfl
 conv at hDe=>rhs;unfold eQ
 obtain ⟨ht,hte⟩:∃ y,y=aY r.kind r.data:=⟨_,rfl⟩
 rw [← hte] at hh hDe
 rw [← hte]
 refine_lift RS (fun _ _ _ hc _ _ _ => ?_) (fun _ _ _ hc _ => ?_) (fun _ _ _ hc => ?_) (fun _ _ _ _ _ => ?_)
 all_goals first
  | (have c6:¬ r.kind=6:=by assumption
     have c0:¬ (ht.2=0∧r.kind≠33):=by
      first
       | (have:¬ ht.2=0:=by assumption
          exact fun h=>this h.1)
       | (have:r.kind=33:=by simpa using ‹(!decide (r.kind=33))=false›
          exact fun h=>h.2 this)
     have ct:=yZ h3 r.data (by omega)
     refine aN (vs:=[.pointer (some ⟨b,0,none⟩),aI r.data]) (enters_of Tryz.func104 rfl rfl) rfl rfl ct ?_
     rintro _ w9 ⟨rfl,h9,g9⟩
     refine ⟨_,rfl,?_⟩
     refine aA ?_
     have hZ:WrAt w0 w9 b m (eQ r l2 ps).1 (eQ r l2 ps).2:=by
      rw [hDe,if_neg c6,if_neg c0]
      exact h9
     have gZ:Kp w3 w9:=g9)
  | (have c6:¬ r.kind=6:=by assumption
     have c0:ht.2=0∧r.kind≠33:=⟨by assumption,by simpa using ‹(!decide (r.kind=33))=true›⟩
     obtain ⟨k1,k2⟩:=hh c0.1
     have ct:=yZ h3 (r.data.take (r.data.length - ht.1.length - 1)) (by rw [List.length_take];omega)
     refine aN (vs:=[.pointer (some ⟨b,0,none⟩),aI (r.data.take (r.data.length - ht.1.length - 1))]) (enters_of Tryz.func104 rfl rfl) rfl (congrArg (fun z=>[Value.pointer (some ⟨b,0,none⟩),aI (r.data.take z)]) (by omega)) ct ?_
     rintro _ w8 ⟨rfl,h8,g8⟩
     refine ⟨_,rfl,?_⟩
     refine aA ?_
     have hpc8:=aE (cs:=[aI r.name, .int .i64 r.kind, .int .i64 r.ttl,aI r.data]) (g8 _ _ _ _ (by decide) (by decide) hc3)
     clear hpc3
     refine_lift bG ?_
     have cn:=tF h8 hk ht.1 k1 (by rw [List.length_append,List.length_take];omega)
     refine aN (vs:=[.pointer (some ⟨b,0,none⟩),aI ht.1]) (enters_of Tryz.func56 rfl rfl) rfl rfl cn ?_
     rintro _ w9 ⟨rfl,h9,g9⟩
     refine ⟨_,rfl,?_⟩
     refine aA ?_
     have hZ:WrAt w0 w9 b m (eQ r l2 ps).1 (eQ r l2 ps).2:=by
      rw [hDe,if_neg c6,if_pos c0]
      exact h9
     have gZ:Kp w3 w9:=g8.trans g9)
  | skip
 ·have c6:r.kind=6:=by assumption
  obtain ⟨s1',s2',s3'⟩:=hS c6
  refine aD (enters_of Tryz.func106 rfl rfl) rfl rfl (FN r.data _ (by omega)) ?_;intro w4 x4;refine aA ?_
  refine_lift bG ?_
  refine aL (z:=bK) rfl (by decide +kernel) ?_
  intro w5 x5 s5 h5
  refine aA ?_
  refine aG (v:=.agg (gE r.data).cells.toArray) rfl rfl rfl h5 (show aR Tryz.prog 160 7=true by decide +kernel) rfl (pL _) ?_
  intro w6 p6
  have x46:Ext w4 w6:=x5.move p6.mv (by rintro k ⟨⟩;exact Nat.le_refl _)
  have x36:=x4.trans x46
  have hb6:w6.heap[w4.heap.size]? = some (.cells (gE r.data).cells.toArray 160 (0,0)):=p6.this
  have hs6:=aE (cs:=(gE r.data).cells) hb6
  obtain ⟨f1,f2,f3,f4,⟨v3,f5,f6⟩,f7⟩:=h3
  have h6:WrAt w0 w6 b m l2 ps:=⟨f1,f2,f3,f4.trans x36,⟨v3,x36.at f5,f6.ext x36⟩,f7.at (fun o h=>x36.at h)⟩
  have hc6:=x36.at hc3
  clear p6 h5
  generalize w4.heap.size=d at *
  refine_lift dJ fun _ _ => ?_
  have cn:=tF h6 hk (gE r.data).main s1' (by omega)
  have hk7:=iE (gX (gE r.data).main) l2 ps hk
  obtain ⟨y7,e7,n7⟩:=kU (gX (gE r.data).main) l2 ps
  refine aN (vs:=[.pointer (some ⟨b,0,none⟩),aI (gE r.data).main]) (enters_of Tryz.func56 rfl rfl) rfl rfl cn ?_
  rintro _ w7 ⟨rfl,h7,g7⟩
  refine ⟨_,rfl,?_⟩
  refine aA ?_
  have hb7:=g7 _ _ _ _ (by decide) (by decide) hb6
  have hs7:=aE (cs:=(gE r.data).cells) hb7
  have hc7:=g7 _ _ _ _ (by decide) (by decide) hc6
  clear hs6
  refine_lift dJ fun _ _ => ?_
  have cn2:=tF h7 hk7 (gE r.data).mail s2' (by rw [e7,List.length_append];have:=(gG s1').2.1;rw [this] at n7;have:=(gG s1').2.2;omega)
  obtain ⟨y8,e8,n8⟩:=kU (gX (gE r.data).mail) (eG (gX (gE r.data).main) l2 ps).1 (eG (gX (gE r.data).main) l2 ps).2
  refine aN (vs:=[.pointer (some ⟨b,0,none⟩),aI (gE r.data).mail]) (enters_of Tryz.func56 rfl rfl) rfl rfl cn2 ?_
  rintro _ w8 ⟨rfl,h8,g8⟩
  refine ⟨_,rfl,?_⟩
  refine aA ?_
  have hc8:=g8 _ _ _ _ (by decide) (by decide) hc7
  have hpc8:=aE (cs:=[aI r.name, .int .i64 r.kind, .int .i64 r.ttl,aI r.data]) hc8
  clear hpc3 hs7
  refine_lift bG ?_
  have ct:=yZ h8 (r.data.drop (r.data.length - 20)) (by rw [e8,e7,List.length_drop,List.length_append,List.length_append];rw [(gG s1').2.1] at n7;rw [(gG s2').2.1] at n8;have:=(gG s1').2.2;have:=(gG s2').2.2;omega)
  refine aN (vs:=[.pointer (some ⟨b,0,none⟩),aI (r.data.drop (r.data.length - 20))]) (enters_of Tryz.func104 rfl rfl) rfl (congrArg (fun z=>[Value.pointer (some ⟨b,0,none⟩),aI (r.data.drop z)]) (by omega)) ct ?_
  rintro _ w9 ⟨rfl,h9,g9⟩
  refine ⟨_,rfl,?_⟩
  refine aA ?_
  have hZ:WrAt w0 w9 b m (eQ r l2 ps).1 (eQ r l2 ps).2:=by
   rw [hDe,if_pos c6]
   exact h9
  have gZ:Kp w3 w9:=((x36.kp.trans g7).trans g8).trans g9
  clear hpc8
  obtain ⟨y,ey,ny⟩:=hpre
  generalize eQ r l2 ps=Z at *
  obtain ⟨e1,e2,e3,e4,⟨vz,e5,e6⟩,e7⟩:=hZ
  have hpz:=aE (cs:=zW vz m) e5
  have hslz:=e6.sl
  have hbz:(aS Z.1).length=Z.1.length:=by simp [aS]
  have hbl:(aS l).length=l.length:=by simp [aS]
  have hlz:Z.1.length=l.length + 2 + y.length:=by rw [ey,List.length_append,hl2]
  refine_lift bG ?_
  have hn:((aS Z.1).length:Int) - (aS l).length - 2=((Z.1.length - l.length - 2:Nat):Int):=by omega
  rw [hn]
  refine bV 19 (fun w'=>Pts w' (.pointer (some ⟨b,0,none⟩)) (zW vz m)∧∃ es:List (List Value),es.length=Z.1.length∧Sl 1 w' vz es) (by decide +kernel) ?_
  intro wA xA _
  refine ⟨⟨hpz.ext xA,aS Z.1,hbz,hslz.ext xA⟩,?_⟩
  refine cV 0 ?_;refine cV 1 ?_;refine cV 2 ?_
  refine bD (i:=3) (v:=vz) rfl rfl (by decide +kernel) (by decide +kernel) (by decide +kernel) (by decide +kernel) (by decide +kernel) rfl (fun w' hF=>by obtain ⟨hF,_⟩:=hF;exact OK) (fun _ _ _ h=>h) ?_
  refine aA ?_
  refine cV 4 ?_;refine cV 5 ?_;refine cV 6 ?_;refine cV 7 ?_
  refine bD (i:=8) (v:=vz) rfl rfl (by decide +kernel) (by decide +kernel) (by decide +kernel) (by decide +kernel) (by decide +kernel) rfl (fun w' hF=>by obtain ⟨hF,_⟩:=hF;exact OK) (fun _ _ _ h=>h) ?_
  refine aA ?_
  refine cV 9 ?_;refine cV 10 ?_;refine cV 11 ?_;refine cV 12 ?_;refine cV 13 ?_;refine cV 14 ?_;refine cV 15 ?_
  refine bD (i:=16) (v:=dN vz (l.length * 1)) rfl rfl (by decide +kernel) (by decide +kernel) (by decide +kernel) (by decide +kernel) (by decide +kernel) rfl (fun w' hF=>by obtain ⟨_,es,h1,h2⟩:=hF;rw [← hbl];exact Runs.idxT rfl h2 (by omega) (by decide +kernel)) (fun _ _ _ h=>h) ?_
  refine aA ?_
  refine bE (i:=17) (by decide +kernel) rfl rfl ?_
  refine fE (c:=.int .u8 (IntKind.u8.wrap (((Z.1.length - l.length - 2:Nat):Int) / 2 ^ Int.toNat 8))) (i:=l.length) rfl rfl rfl (e6.ext xA) (by omega) (by decide +kernel) rfl ?_
  intro wB oB mB
  have pB:=aE (cs:=zW vz m) (mB.at (xA.at e5) (fun e=>(e6.neBlock e5 (by decide)) e.symm))
  refine aJ ⟨cC ⟨pB,_,by rw [List.length_set];exact hbz,oB.sl⟩,?_⟩
  have hslB:=oB.sl
  have hlB:((aS Z.1).set l.length [.int .u8 (IntKind.u8.wrap (((Z.1.length - l.length - 2:Nat):Int) / 2 ^ Int.toNat 8))]).length=Z.1.length:=by rw [List.length_set];exact hbz
  refine bE (i:=18) (by decide +kernel) rfl rfl ?_
  refine aT (v:=dN vz ((l.length + 1) * 1)) (by rw [← hbl];exact Runs.idxT rfl hslB (by omega) (by decide +kernel)) ?_
  refine aA ?_
  refine aJ ⟨cC ⟨pB,_,hlB,hslB⟩,?_⟩
  refine bE (i:=19) (by decide +kernel) rfl rfl ?_
  refine fE (c:=.int .u8 (IntKind.u8.wrap ((Z.1.length - l.length - 2:Nat):Int))) (i:=l.length + 1) rfl rfl rfl oB (by omega) (by decide +kernel) rfl ?_
  intro wC oC mC
  refine aJ ⟨bT rfl,?_⟩
  refine cN (by decide +kernel) ?_
  refine_lift bG ?_
  go_end0
  have hBb:=mB.at (xA.at e5) (fun e=>(e6.neBlock e5 (by decide)) e.symm)
  have hCb:=mC.at hBb (fun e=>(oB.neBlock hBb (by decide)) e.symm)
  have xC:Ext w0 wC:=((e4.trans xA).move mB (fun k e=>((e6.ext xA).block k e).1)).move mC (fun k e=>(oB.block k e).1)
  have mapC:=((e7.at (fun o h=>xA.at h)).mvr mB (e6.ext xA) rfl).mvr mC oB rfl
  have oC':Own w0.heap.size 1 5 wC vz (aS (l ++ cG (Z.1.length - l.length - 2) ++ Z.1.drop (l.length + 2))):=by
   have e0:Z.1.drop (l.length + 2)=y:=by rw [ey,← hl2,List.drop_left]
   rw [e0,← NL]
   rw [hL2,← ey]
   exact oC
  exact ⟨rfl,⟨e1,e2,e3,xC,⟨vz,hCb,oC'⟩,mapC⟩,(((((x1.kp.trans g2).trans x3.kp).trans gZ).trans xA.kp).trans (Mv.kpRow (e6.ext xA) mB)).trans (Mv.kpRow oB mC)⟩
 all_goals obtain ⟨y,ey,ny⟩:=hpre
 all_goals generalize eQ r l2 ps=Z at *
 all_goals obtain ⟨e1,e2,e3,e4,⟨vz,e5,e6⟩,e7⟩:=hZ
 all_goals have hpz:=aE (cs:=zW vz m) e5
 all_goals have hslz:=e6.sl
 all_goals have hbz:(aS Z.1).length=Z.1.length:=by simp [aS]
 all_goals have hbl:(aS l).length=l.length:=by simp [aS]
 all_goals have hlz:Z.1.length=l.length + 2 + y.length:=by rw [ey,List.length_append,hl2]
 all_goals refine_lift bG ?_
 all_goals have hn:((aS Z.1).length:Int) - (aS l).length - 2=((Z.1.length - l.length - 2:Nat):Int):=by omega
 all_goals rw [hn]
 all_goals refine bV 19 (fun w'=>Pts w' (.pointer (some ⟨b,0,none⟩)) (zW vz m)∧∃ es:List (List Value),es.length=Z.1.length∧Sl 1 w' vz es) (by decide +kernel) ?_
 all_goals intro wA xA _
 all_goals refine ⟨⟨hpz.ext xA,aS Z.1,hbz,hslz.ext xA⟩,?_⟩
 all_goals refine cV 0 ?_;refine cV 1 ?_;refine cV 2 ?_
 all_goals refine bD (i:=3) (v:=vz) rfl rfl (by decide +kernel) (by decide +kernel) (by decide +kernel) (by decide +kernel) (by decide +kernel) rfl (fun w' hF=>by obtain ⟨hF,_⟩:=hF;exact OK) (fun _ _ _ h=>h) ?_
 all_goals refine aA ?_
 all_goals refine cV 4 ?_;refine cV 5 ?_;refine cV 6 ?_;refine cV 7 ?_
 all_goals refine bD (i:=8) (v:=vz) rfl rfl (by decide +kernel) (by decide +kernel) (by decide +kernel) (by decide +kernel) (by decide +kernel) rfl (fun w' hF=>by obtain ⟨hF,_⟩:=hF;exact OK) (fun _ _ _ h=>h) ?_
 all_goals refine aA ?_
 all_goals refine cV 9 ?_;refine cV 10 ?_;refine cV 11 ?_;refine cV 12 ?_;refine cV 13 ?_;refine cV 14 ?_;refine cV 15 ?_
 all_goals refine bD (i:=16) (v:=dN vz (l.length * 1)) rfl rfl (by decide +kernel) (by decide +kernel) (by decide +kernel) (by decide +kernel) (by decide +kernel) rfl (fun w' hF=>by obtain ⟨_,es,h1,h2⟩:=hF;rw [← hbl];exact Runs.idxT rfl h2 (by omega) (by decide +kernel)) (fun _ _ _ h=>h) ?_
 all_goals refine aA ?_
 all_goals refine bE (i:=17) (by decide +kernel) rfl rfl ?_
 all_goals refine fE (c:=.int .u8 (IntKind.u8.wrap (((Z.1.length - l.length - 2:Nat):Int) / 2 ^ Int.toNat 8))) (i:=l.length) rfl rfl rfl (e6.ext xA) (by omega) (by decide +kernel) rfl ?_
 all_goals intro wB oB mB
 all_goals have pB:=aE (cs:=zW vz m) (mB.at (xA.at e5) (fun e=>(e6.neBlock e5 (by decide)) e.symm))
 all_goals refine aJ ⟨cC ⟨pB,_,by rw [List.length_set];exact hbz,oB.sl⟩,?_⟩
 all_goals have hslB:=oB.sl
 all_goals have hlB:((aS Z.1).set l.length [.int .u8 (IntKind.u8.wrap (((Z.1.length - l.length - 2:Nat):Int) / 2 ^ Int.toNat 8))]).length=Z.1.length:=by rw [List.length_set];exact hbz
 all_goals refine bE (i:=18) (by decide +kernel) rfl rfl ?_
 all_goals refine aT (v:=dN vz ((l.length + 1) * 1)) (by rw [← hbl];exact Runs.idxT rfl hslB (by omega) (by decide +kernel)) ?_
 all_goals refine aA ?_
 all_goals refine aJ ⟨cC ⟨pB,_,hlB,hslB⟩,?_⟩
 all_goals refine bE (i:=19) (by decide +kernel) rfl rfl ?_
 all_goals refine fE (c:=.int .u8 (IntKind.u8.wrap ((Z.1.length - l.length - 2:Nat):Int))) (i:=l.length + 1) rfl rfl rfl oB (by omega) (by decide +kernel) rfl ?_
 all_goals intro wC oC mC
 all_goals refine aJ ⟨bT rfl,?_⟩
 all_goals refine cN (by decide +kernel) ?_
 all_goals refine_lift bG ?_
 all_goals go_end0
 all_goals have hBb:=mB.at (xA.at e5) (fun e=>(e6.neBlock e5 (by decide)) e.symm)
 all_goals have hCb:=mC.at hBb (fun e=>(oB.neBlock hBb (by decide)) e.symm)
 all_goals have xC:Ext w0 wC:=((e4.trans xA).move mB (fun k e=>((e6.ext xA).block k e).1)).move mC (fun k e=>(oB.block k e).1)
 all_goals have mapC:=((e7.at (fun o h=>xA.at h)).mvr mB (e6.ext xA) rfl).mvr mC oB rfl
 all_goals have oC':Own w0.heap.size 1 5 wC vz (aS (l ++ cG (Z.1.length - l.length - 2) ++ Z.1.drop (l.length + 2))):=by rw [show Z.1.drop (l.length + 2)=y by rw [ey,← hl2,List.drop_left],← NL,hL2,← ey];exact oC
 all_goals exact ⟨rfl,⟨e1,e2,e3,xC,⟨vz,hCb,oC'⟩,mapC⟩,(((((x1.kp.trans g2).trans x3.kp).trans gZ).trans xA.kp).trans (Mv.kpRow (e6.ext xA) mB)).trans (Mv.kpRow oB mC)⟩
end Go.Proofs.X
