/- Laws and walks that the proof of the statement is made of (part 11). -/
import Derived.Test.YtgljkfpcadempaaGreatP10
set_option linter.unusedSimpArgs false
set_option linter.unusedVariables false
namespace Go.Proofs.X
open Go.RowKit
set_option maxRecDepth 100000
theorem PF (s:RSet) (u:Value) (w:World):Calls Tryz.prog 123 #[.agg #[aI s.name, .int .i64 s.kind, .int .i64 s.ttl,u]] w (bM w (.bool (eN s))):=by
 go_enter Tryz.func123,Tryz.ntmps123
 refine_lift lF fun _ _ => ?_
 refine bJ (vs:=[aI s.name, .int .i64 s.kind, .int .i64 s.ttl,u]) rfl rfl ?_
 intro ps w1 x1 hs
 refine aA ?_
 refine_lift bR ?_
 go_ret
 exact ⟨rfl,x1⟩
theorem PG (pk:Value) (k:Int) (s:RSet) (u:Value) (w:World) (hk:Pts w pk [.int .i64 k]):Calls Tryz.prog 125 #[.agg #[aI s.name, .int .i64 s.kind, .int .i64 s.ttl,u],pk] w (bM w (.bool (!bP k s))):=by
 go_enter Tryz.func125,Tryz.ntmps125
 refine_lift lF fun _ _ => ?_
 refine bJ (vs:=[aI s.name, .int .i64 s.kind, .int .i64 s.ttl,u]) rfl rfl ?_
 intro ps w1 x1 hs
 refine aA ?_
 refine_lift xD (fun hc => ?_) (fun hc => ?_)
 all_goals
  go_ret
  refine ⟨?_,x1⟩
  simp_all [bP]
theorem Pts.take {w:World} {p:Value} {vs:List Value} (h:Pts w p vs) (n:Nat):Pts w p (vs.take n):=by
 obtain ⟨b,o,e,hc⟩:=h
 refine ⟨b,o,e,fun j x hx=>hc j x ?_⟩
 rw [List.getElem?_take] at hx
 split at hx
 ·exact hx
 ·cases hx
def iR (o:List UInt8) (v:Value) (k:Int) (a u e:Value):List Value:=[aI o,v, .int .i64 k,a,u,e]
theorem kM {w:World} {b:Nat} {o:List UInt8} {v a u e:Value} {k:Int} (h:w.heap[b]? = some (.cells (iR o v k a u e).toArray 116 (0,0))) :
 Pts w (.pointer (some ⟨b,0,none⟩)) (iR o v k a u e)∧Pts w (dT (.pointer (some ⟨b,0,none⟩)) 0) [aI o,v]∧Pts w (dT (.pointer (some ⟨b,0,none⟩)) 2) [.int .i64 k,a,u,e]:=by
 have hp:=aE h
 exact ⟨hp,(hp.part 0).take 2,hp.part 2⟩
section
variable {P:Program} {w:World} {ts:List Value} {df:List Deferred} {d:Option Nat} {ty:TypeId} {ps:String} {af:Array Edge} {g:Option (Nat × Bool)}
theorem Runs.fieldA {s:TypeId} {m n off:Nat} {ad:Addr} (hx:ts.getD m undef=.pointer (some ad)) (hf:lS P s n off=true) :
 Runs P (Oper.mk d (.fieldAddr s (.tmp m) n) ty ps af g) (Act.mk ts.toArray df) w (dT (.pointer (some ad)) off):=by
 obtain ⟨fs,f,i,ht,hf,ho,hie,hz⟩:=jY hf
 have hx':(Act.mk ts.toArray df).eval (.tmp m)=.pointer (some ad):=by rw [fP];exact hx
 constructor
 simp [execOp,hx',Instr.fieldAt,Instr.sureAddr,run_underlying ht,hf,fieldPlace,sizeOf,typeInfo,hie,hz,dT,ho]
end
set_option maxHeartbeats 3000000 in
theorem FE (b:Nat) (o:List UInt8) (v:Value) (l:List RSet) (k0 kind:Int) (a:Value) (w0 w:World) (hx:Ext w0 w) (hv:SetsAt w0 v l) (hz:ZoneOk o l) (hbk:w0.heap.size≤b)
 (hb:w.heap[b]? = some (.cells (iR o v k0 a (.slice none 0 0) (.slice none 0 0)).toArray 116 (0,0))) (ha:a.oneCell'=true) :
 Calls Tryz.prog 121 #[.pointer (some ⟨b,0,none⟩), .int .i64 kind] w fun e w'=>e=.returned (.tuple #[])∧Ext w0 w'∧Mv (some b) w w'∧∃ u,w'.heap[b]? = some (.cells (iR o v kind a u (.slice none 0 0)).toArray 116 (0,0))∧Own w.heap.size 4 106 w' u (aO [dV o l]):=by
 obtain ⟨hp,hp0,hp2⟩:=kM hb
 have hvw:=hv.ext hx
 have hblt:=(Array.getElem?_eq_some_iff.1 hb).1
 go_enter Tryz.func121,Tryz.ntmps121
 refine_lift zO ?_;intro _ _ _
 refine aD (enters_of Tryz.func176 rfl rfl) rfl rfl (MW o v l _ hvw hz) ?_;intro w1 x1;refine aA ?_
 refine_lift bR ?_
 refine aL (z:=KD) rfl (by decide +kernel) ?_
 intro w2 x2 s2 h2
 refine aA ?_
 refine aG (v:=mG (dV o l)) rfl rfl rfl h2 (show aR Tryz.prog 106 4=true by decide +kernel) rfl (eR rfl rfl rfl rfl) ?_
 intro w3 p3
 have x3:Ext w1 w3:=x2.move p3.mv (by rintro k ⟨⟩;exact Nat.le_refl _)
 have h3:=aE (cs:=[aI (dV o l).name, .int .i64 (dV o l).kind, .int .i64 (dV o l).ttl,aI (dV o l).data]) p3.this
 have x13:=x1.trans x3
 have hb3:=x13.at hb
 have h3b:w3.heap[w1.heap.size]? = some (.cells [aI (dV o l).name, .int .i64 (dV o l).kind, .int .i64 (dV o l).ttl,aI (dV o l).data].toArray 106 (0,0)):=p3.this
 clear p3 h2 x2
 have hzb:b≠w1.heap.size:=by have:=x1.size;omega
 refine_lift bR ?_
 refine bV 12 (fun w'=>Pts w' (.pointer (some ⟨w1.heap.size,0,none⟩)) [aI (dV o l).name, .int .i64 (dV o l).kind, .int .i64 (dV o l).ttl,aI (dV o l).data]) (by decide +kernel) ?_
 intro w4 x4 _
 refine ⟨h3.ext x4,?_⟩
 refine GH 0 ?_;refine GH 1 ?_;refine GH 2 ?_
 refine bD (i:=3) (v:=mG (dV o l)) rfl rfl (by decide +kernel) (by decide +kernel) (by decide +kernel) (by decide +kernel) (by decide +kernel) rfl (fun w' hF=>by exact rn) (fun _ _ _ h=>h) ?_
 refine aA ?_
 refine RI 5 ?_
 refine dL (i:=6) rfl rfl rfl (by decide +kernel) (by decide +kernel) (by decide +kernel) rfl (fun _=>Runs.fieldA (off:=2) rfl (by decide +kernel)) (fun _ _ _ h=>h) ?_
 refine aA ?_
 refine dL (i:=7) rfl rfl rfl (by decide +kernel) (by decide +kernel) (by decide +kernel) rfl (fun _=>Runs.fieldA (off:=0) rfl (by decide +kernel)) (fun _ _ _ h=>h) ?_
 refine aA ?_
 have h4:=x4.at h3b
 have hb4:=x4.at hb3
 have x04:=x13.trans x4
 refine OI (i:=4) (j:=8) (by decide +kernel) rfl rfl rfl ?_ ?_
 ·refine bN (e:=106) (k:=4) (bytes:=48) (xs:=[mG (dV o l)]) rfl rfl rfl (by simp [Value.cells,mG]) (by decide +kernel) (by simp) ?_
  intro u5 w5 x5 _ sl5 o5
  refine aA ?_
  have h5:=x5.at h4
  have hb5:=x5.at hb4
  refine aJ ⟨cC (aE h5),?_⟩
  refine bE (i:=8) (by decide +kernel) rfl rfl ?_
  refine aM (n:=2) hb5 rfl rfl rfl (by simp [iR]) (by decide +kernel) rfl ?_
  intro w6 p6
  have h6:=p6.at h5 (fun e=>hzb e.symm)
  have hb6:w6.heap[b]? = some (.cells (iR o v kind a (.slice none 0 0) (.slice none 0 0)).toArray 116 (0,0)):=p6.this
  have o6:=(show Own _ 4 106 w5 u5 (aO [dV o l]) from o5).mv p6.mv (.inr (o5.neBlock hb5 (by decide)))
  have m6:Mv (some b) w w6:=((x04.trans x5).mv _).trans p6.mv
  have zz:=x04.size
  refine aJ ⟨cC (aE h6),?_⟩
  refine RI 9 ?_
  refine dL (i:=10) rfl rfl rfl (by decide +kernel) (by decide +kernel) (by decide +kernel) rfl (fun _=>Runs.fieldA (off:=2) rfl (by decide +kernel)) (fun _ _ _ h=>h) ?_
  refine aA ?_
  refine dL (i:=11) rfl rfl rfl (by decide +kernel) (by decide +kernel) (by decide +kernel) rfl (fun _=>Runs.fieldA (off:=2) rfl (by decide +kernel)) (fun _ _ _ h=>h) ?_
  refine aA ?_
  refine bE (i:=12) (by decide +kernel) rfl rfl ?_
  refine aM (n:=4) hb6 rfl rfl rfl (by simp [iR]) (by decide +kernel) o6.sl.one ?_
  intro w7 p7
  refine aJ ⟨bT rfl,?_⟩
  refine cN (by decide +kernel) ?_
  refine_lift bR ?_
  have m7:Mv (some b) w w7:=m6.trans p7.mv
  refine bodyPost_end (results_none rfl _ _ _) rfl ?_
  exact ⟨rfl,hx.move m7 (by rintro k ⟨⟩;exact hbk),m7,_,p7.this,(o6.mv p7.mv (.inr (o6.neBlock hb6 (by decide)))).weaken zz⟩
 ·refine aM (n:=2) hb4 rfl rfl rfl (by simp [iR]) (by decide +kernel) rfl ?_
  intro w5 p5
  have h5:=p5.at h4 (fun e=>hzb e.symm)
  have hb5:w5.heap[b]? = some (.cells (iR o v kind a (.slice none 0 0) (.slice none 0 0)).toArray 116 (0,0)):=p5.this
  refine aJ ⟨cC (aE h5),?_⟩
  refine bE (i:=4) (by decide +kernel) rfl rfl ?_
  refine bN (e:=106) (k:=4) (bytes:=48) (xs:=[mG (dV o l)]) rfl rfl rfl (by simp [Value.cells,mG]) (by decide +kernel) (by simp) ?_
  intro u6 w6 x6 _ sl6 o6'
  refine aA ?_
  have h6:=x6.at h5
  have hb6:=x6.at hb5
  have o6:=(show Own _ 4 106 w6 u6 (aO [dV o l]) from o6')
  have m6:Mv (some b) w w6:=((x04.mv _).trans p5.mv).trans (x6.mv _)
  have zz:w.heap.size≤w5.heap.size:=Nat.le_trans x04.size (Nat.le_of_eq p5.size.symm)
  refine aJ ⟨cC (aE h6),?_⟩
  refine RI 9 ?_
  refine dL (i:=10) rfl rfl rfl (by decide +kernel) (by decide +kernel) (by decide +kernel) rfl (fun _=>Runs.fieldA (off:=2) rfl (by decide +kernel)) (fun _ _ _ h=>h) ?_
  refine aA ?_
  refine dL (i:=11) rfl rfl rfl (by decide +kernel) (by decide +kernel) (by decide +kernel) rfl (fun _=>Runs.fieldA (off:=2) rfl (by decide +kernel)) (fun _ _ _ h=>h) ?_
  refine aA ?_
  refine bE (i:=12) (by decide +kernel) rfl rfl ?_
  refine aM (n:=4) hb6 rfl rfl rfl (by simp [iR]) (by decide +kernel) o6.sl.one ?_
  intro w7 p7
  refine aJ ⟨bT rfl,?_⟩
  refine cN (by decide +kernel) ?_
  refine_lift bR ?_
  have m7:Mv (some b) w w7:=m6.trans p7.mv
  refine bodyPost_end (results_none rfl _ _ _) rfl ?_
  exact ⟨rfl,hx.move m7 (by rintro k ⟨⟩;exact hbk),m7,_,p7.this,(o6.mv p7.mv (.inr (o6.neBlock hb6 (by decide)))).weaken zz⟩
theorem BL {o:List UInt8} {l:List RSet} (h:ZoneOk o l):nV l []=true:=by
 obtain ⟨s,hs,h1,_⟩:=h.soaSet
 have hm:=h.small h1
 refine List.any_eq_true.2 ⟨s,h1,?_⟩
 have ht:=lW (n:=s.name)
 rw [hm.2] at ht
 obtain ⟨a,ha⟩:=Option.isSome_iff_exists.1 ht
 have hr:dB []=some []:=rfl
 rw [kQ ha hr]
 simp
theorem yN {l:List RSet} {ls:List (List UInt8)} (h:nV l (enc ls)=true):iX l ls=ls:=by
 cases ls with
 | nil=>rfl
 | cons x t=>rw [iX,if_pos h]
theorem FG {l:List RSet} {x:List UInt8} {t:List (List UInt8)} (h:nV l (enc (x :: t))=false):iX l (x :: t)=iX l t:=by
 rw [iX,if_neg (by simp [h])]
theorem pS {l:List (List UInt8)}:∀ f ∈ aP l,∀ u ∈ f,u.oneCell'=true:=by
 intro f hf u hu
 obtain ⟨r,_,rfl⟩:=List.mem_map.1 hf
 simp only [List.mem_cons,List.not_mem_nil,or_false] at hu
 subst hu
 rfl
theorem FH (x:List UInt8) (t:List (List UInt8)):(enc t).length < (enc (x :: t)).length:=by simp [enc];omega
set_option maxHeartbeats 4000000 in
theorem SI (o:List UInt8) (v:Value) (l:List RSet) (n:List UInt8) (w0 w:World) (hx0:Ext w0 w) (hv0:SetsAt w0 v l) (hz:ZoneOk o l) (hn:(aV n).isSome=true) :
 Calls Tryz.prog 120 #[.agg #[aI o,v],aI n] w (oA w fun r w'=>∃ u css,r=.tuple #[u, .bool (pP l n)]∧Own w.heap.size 4 131 w' u css∧SetsC w0 css (aZ l n)):=by
 have hv:=hv0.ext hx0
 have hl:=tC hz
 have hex:∀ (m:List UInt8) (w':World),SetsAt w' v l→Calls Tryz.prog 173 #[.agg #[aI o,v],aI m] w' (bM w' (.bool (nV l m))):=fun m w' h=>MU o v l m w' h
 obtain ⟨ls0,hls0⟩:=Option.isSome_iff_exists.1 hn
 obtain ⟨f1,f2,f3⟩:=dG hls0
 go_enter Tryz.func120,Tryz.ntmps120
 refine_lift zN ?_;intro _ _ _
 refine bJ (vs:=[aI o,v]) rfl rfl ?_
 intro p w1 x1 hp
 refine aA ?_
 have hv1:=hv.ext x1
 refine_lift oQ fun _ _ _ _ => ?_
 refine aD (enters_of Tryz.func173 rfl rfl) rfl rfl (hex n _ hv1) ?_;intro w2 x2;refine aA ?_
 have hx2:=x1.trans x2
 have hp2:=hp.ext x2
 have hv2:=hv.ext hx2
 cases hi:nV l n with
 | true =>
  refine_lift dR fun _ _ => ?_
  refine aK (enters_of Tryz.func174 rfl rfl) rfl rfl (UZ o v l n n w0 _ (hx0.trans hx2) hv0 (by omega)) ?_
  intro u w3 x3 ho
  obtain ⟨css,ho,hc⟩:=ho
  refine_lift bR ?_
  go_ret2
  exact ⟨_,rfl,hx2.trans x3,u,css,by rw [pP,hi];rfl,ho.weaken hx2.size,by rw [aZ,if_pos hi];exact hc⟩
 | false =>
  refine_lift dR fun _ _ => ?_
  go_loopw [6] (fun a wr=>∃ ls:List (List UInt8),a=aI (enc ls)∧Ext w2 wr∧ls.all iI=true∧(enc ls).length≤254∧iX l ls=iX l ls0) (fun a _=>rB a)
  case atStart=>exact ⟨ls0,by rw [f2],Ext.refl _,f1,by rw [f2];exact f3,rfl⟩
  case round =>
   obtain ⟨ls,rfl,hx,g1,g2,g3⟩:=hrel
   have hvr:=hv2.ext hx
   have hpr:=hp2.ext hx
   refine_lift TW ?_;intro _ _ _ _ _
   refine aD (enters_of Tryz.func173 rfl rfl) rfl rfl (hex (enc ls) _ hvr) ?_;intro w4 x4;refine aA ?_
   have hx4:=hx.trans x4
   cases hi4:nV l (enc ls) with
   | false =>
    cases ls with
    | nil=>rw [show enc []=[] from rfl,BL hz] at hi4;cases hi4
    | cons x t =>
     refine_lift bR ?_
     refine aD (enters_of Tryz.func175 rfl rfl) rfl rfl (MV _ (iC g1 g2)) ?_;intro w5 x5;refine aA ?_
     refine_lift bR ?_
     have ht:=FH x t
     exact ⟨⟨t,rfl,hx4.trans x5,by simp at g1;simp;exact g1.2,by omega,by rw [← g3,FG hi4]⟩,by simp [kW];omega⟩
   | true =>
    have hab:iX l ls=ls:=yN hi4
    rw [hab] at g3
    have hp4:=hpr.ext x4
    refine_lift dR fun _ _ => ?_
    refine bN (e:=9) (k:=1) (bytes:=16) (xs:=[aI [42]]) rfl rfl rfl (by simp [aI,Value.cells]) (by decide +kernel) (by simp) ?_
    intro v5 w5 x5 _ sl5 o5
    refine aA ?_
    refine_lift bR ?_
    refine aK (enters_of Tryz.func63 rfl rfl) rfl rfl (FD (enc ls) _) ?_
    intro v6 w6 x6 o6
    rw [iC g1 g2] at o6
    refine aA ?_
    have o5':=(show Own _ 1 9 w5 v5 (aP [[42]]) from o5).ext x6
    have hlen:ls.length≤254:=by have:=fH ls;omega
    refine bU (e:=9) (k:=1) rfl o5' rfl o6.sl pS (Nat.le_trans x5.size x6.size) (by simp [aP];omega) ?_
    intro v7 w7 o7 m7 _
    refine aA ?_
    have x7:=o5'.mvx m7 (x5.trans x6) (Nat.le_refl _)
    have hst:oI l n=(jG ([42] :: ls)).getD []:=by rw [oI,hls0,Option.getD_some,← g3]
    have hv7:=(hvr.ext x4).ext x7
    have hp7:=hp4.ext x7
    have hx7:=hx2.trans (hx4.trans x7)
    refine_lift bR ?_
    obtain ⟨e8,c8⟩:∃ e:Int,Calls Tryz.prog 71 #[v7] w7 (bM w7 (.tuple #[aI (oI l n), .int .i64 e])):=by
     have h:=XL v7 ([42] :: ls) w7 o7.sl (by simp;omega)
     rw [hst]
     cases hj:jG ([42] :: ls) with
     | none=>rw [hj] at h;exact ⟨1,h⟩
     | some m=>rw [hj] at h;exact ⟨0,h⟩
    refine aD (enters_of Tryz.func71 rfl rfl) rfl rfl (c8) ?_;intro w8 x8;refine aA ?_
    have hv8:=hv7.ext x8
    have hp8:=hp7.ext x8
    have hx8:=hx7.trans x8
    refine_lift dR fun _ _ => ?_
    refine aK (enters_of Tryz.func174 rfl rfl) rfl rfl (UZ o v l (oI l n) n w0 _ (hx0.trans hx8) hv0 (by omega)) ?_
    intro u w9 x9 ho
    obtain ⟨css,ho,hc⟩:=ho
    have su:=ho.sl
    have hcl:=hc.len
    refine_lift bR ?_
    go_ret2
    refine ⟨_,rfl,hx8.trans x9,u,css,?_,ho.weaken hx8.size,by rw [aZ,if_neg (by simp [hi])];exact hc⟩
    rw [pP,hi,Bool.false_or,← hcl]
    congr 4
    simp
theorem KG {α:Type} (p:α→Bool) (l:List α):(∃ (k:Nat) (hk:k < l.length),oP p l=k∧p l[k]=true∧(l.take k).filter (fun s => !p s)=l.take k)∨(oP p l=-1∧l.filter (fun s => !p s)=l):=by
 unfold oP
 cases h:l.findIdx? p with
 | none =>
  rw [List.findIdx?_eq_none_iff] at h
  refine .inr ⟨rfl,?_⟩
  rw [List.filter_eq_self]
  intro a ha
  simp [h a ha]
 | some k =>
  rw [List.findIdx?_eq_some_iff_getElem] at h
  obtain ⟨hk,h1,h2⟩:=h
  refine .inl ⟨k,hk,rfl,h1,?_⟩
  rw [List.filter_eq_self]
  intro a ha
  obtain ⟨j,hj,rfl⟩:=List.mem_iff_getElem.1 ha
  have hj':j < k:=by simp at hj;omega
  have:=h2 j hj'
  simp only [List.getElem_take]
  simpa using this
theorem SetsC.row {w:World} {css:List (List Value)} {l:List RSet} (h:SetsC w css l) {i:Nat} (hi:i < l.length):∃ x,css[i]? = some [aI l[i].name, .int .i64 l[i].kind, .int .i64 l[i].ttl,x]∧Sl 1 w x (aP l[i].data):=h.at' i _ (List.getElem?_eq_getElem hi)
set_option maxHeartbeats 4000000 in
theorem CQ {B:Nat} (v:Value) (l:List RSet) (css:List (List Value)) (f:FuncId) (caps:Array Value) (p:RSet→Bool) (w0 w:World) (hx0:Ext w0 w) (hB:w0.heap.size≤B) (ho:Own B 4 131 w v css) (hc:SetsC w0 css l) (he:Enters Tryz.prog f) (hf:SetFn w0 f caps l p) :
 Calls Tryz.prog 124 #[v, .func (.func f) #[] caps] w fun e w'=>∃ v' css',e=.returned v'∧Own B 4 131 w' v' css'∧SetsC w0 css' (l.filter fun s => !p s)∧Ext w0 w':=by
 have hcl:=hc.len
 have hsv:SetsAt w v l:=(hc.ext hx0).sets ho.sl
 have hidx:=lX v l f caps p w hsv he (hf.ext hx0)
 go_enter Tryz.func124,Tryz.ntmps124
 refine_lift zO ?_;intro _ _ _
 refine aD (enters_of Tryz.func122 rfl rfl) rfl rfl (hidx) ?_;intro w1 x1;refine aA ?_
 have ho1:=ho.ext x1
 have hx1:=hx0.trans x1
 rcases KG p l with ⟨k,hk,hi,hp,hfil⟩ | ⟨hi,hfil⟩
 ·rw [hi]
  rcases ho.form with ⟨rfl,hn⟩ | ⟨g,cap,rfl,hg,hb,hcap,hcm⟩
  ·rw [hn] at hcl;simp at hcl;omega
  ·refine_lift zO fun _ _ _ => ?_
   go_loopw [5,6,7] (fun i j _ wr=>∃ (m n:Nat) (cs:List (List Value)),i=.int .i64 m∧j=.int .i64 n∧m < n∧n≤l.length∧cs.length=css.length∧Ext w0 wr∧Own B 4 131 wr (.slice (some ⟨g,0,none⟩) css.length cap) cs∧SetsC w0 (cs.take m) ((l.take n).filter fun s => !p s)∧cs.drop n=css.drop n) (fun _ j _ _=>l.length - (intOf j).toNat)
   case atStart =>
    refine ⟨k,k + 1,css,rfl,by go_num,by omega,by omega,rfl,hx1,ho1,?_,rfl⟩
    rw [List.take_succ_eq_append_getElem hk,List.filter_append,hfil]
    simp only [hp,Bool.not_true,List.filter_cons,Bool.false_eq_true,if_false,List.filter_nil,List.append_nil]
    exact hc.take k
   case round =>
    obtain ⟨m,n,cs,rfl,rfl,hmn,hnl,hlen,hx,hor,hkept,hrest⟩:=hrel
    have hsl:=hor.sl
    by_cases hlt:n < l.length
    ·obtain ⟨x,hcx,hdx⟩:=hc.row hlt
     have hcs:cs[n]? = some [aI l[n].name, .int .i64 l[n].kind, .int .i64 l[n].ttl,x]:=by
      have:=congrArg (·[0]?) hrest
      simp only [List.getElem?_drop,Nat.add_zero] at this
      rw [this,hcx]
     have hel:=hsl.elem hcs
     refine_lift xG ?_;intro _ _ _ _ _ _
     refine aL (z:=fX) rfl (by decide +kernel) ?_
     intro w2 x2 s2 h2
     refine aA ?_
     refine aG (v:=.agg #[aI l[n].name, .int .i64 l[n].kind, .int .i64 l[n].ttl,x]) rfl rfl rfl h2 (show aR Tryz.prog 131 4=true by decide +kernel) rfl (eR rfl rfl rfl hdx.one) ?_
     intro w3 p3
     have x3:Ext wr w3:=x2.move p3.mv (by rintro k ⟨⟩;exact Nat.le_refl _)
     have h3:=aE (cs:=[aI l[n].name, .int .i64 l[n].kind, .int .i64 l[n].ttl,x]) p3.this
     have hx3:=hx.trans x3
     clear p3 h2 x2
     refine_lift dR fun _ _ => ?_
     refine fL he rfl rfl rfl (hf _ (List.getElem_mem hlt) x _ hx3 (hdx.ext hx3)) ?_
     rintro e w4 ⟨rfl,x4⟩
     refine ⟨_,rfl,?_⟩
     refine aA ?_
     have hx4:=hx3.trans x4
     have ho4:=hor.ext (x3.trans x4)
     have hs4:=ho4.sl
     have h4:=h3.ext x4
     have hst:(l.take (n + 1)).filter (fun s => !p s)=(l.take n).filter (fun s => !p s) ++ if p l[n]=true then [] else [l[n]]:=by
      rw [List.take_succ_eq_append_getElem hlt,List.filter_append]
      cases hq:p l[n] <;> simp [hq]
     clear hel hsl h3
     cases hpn:p l[n] with
     | true =>
      rw [hpn,if_pos rfl,List.append_nil] at hst
      refine_lift bR ?_
      exact ⟨⟨m,n + 1,cs,rfl,by go_num,by omega,by omega,hlen,hx4,ho4,by rw [hst];exact hkept,by rw [← List.drop_drop,hrest,List.drop_drop]⟩,by simp [intOf];omega⟩
     | false =>
      rw [hpn,if_neg (by simp)] at hst
      refine_lift dR fun _ _ => ?_
      refine wS (i:=m) (c:=.agg #[aI l[n].name, .int .i64 l[n].kind, .int .i64 l[n].ttl,x]) rfl rfl rfl ho4 (by omega) (by simp [Value.cells]) (show aR Tryz.prog 131 4=true by decide +kernel) (eR rfl rfl rfl hdx.one) ?_
      intro w5 o5 m5
      have x5:Ext w0 w5:=ho4.mvx m5 hx4 hB
      refine_lift bR ?_
      refine ⟨⟨m + 1,n + 1,_,by go_num,by go_num,by omega,by omega,by rw [List.length_set];exact hlen,x5,o5,?_,?_⟩,by simp [intOf];omega⟩
      ·rw [hst]
       have e:(cs.set m [aI l[n].name, .int .i64 l[n].kind, .int .i64 l[n].ttl,x]).take (m + 1)=cs.take m ++ [[aI l[n].name, .int .i64 l[n].kind, .int .i64 l[n].ttl,x]]:=by
        rw [List.take_succ_eq_append_getElem (by rw [List.length_set];omega),List.take_set_of_le (Nat.le_refl _)]
        simp
       exact e ▸ hkept.append (SetsC.one hdx)
      ·rw [List.drop_set_of_lt (by omega),← List.drop_drop,hrest,List.drop_drop]
    ·have:n=l.length:=by omega
     subst this
     rw [List.take_length] at hkept
     rw [← hlen] at hor
     have hml:(cs.take m).length=m:=by rw [List.length_take];omega
     have hkl:=hkept.len
     refine_lift zO fun _ _ _ => ?_
     have e38:dU (.slice (some ⟨g,0,none⟩) css.length cap) 4 m cs.length=.slice (some ⟨g,m * 4,none⟩) (cs.length - m) (cap - m):=by
      unfold dU
      simp only [if_neg (show ¬ cap=m by omega)]
      simp [dW]
     refine GP (m:=m) (z:=fX) hor e38 (by omega) ?_
     intro w9 o9 m9
     have x9:Ext w0 w9:=hor.mvx m9 hx hB
     refine_lift dR fun _ _ => ?_
     refine aT (Runs.takeC (k:=4) (n:=m) (l:=css.length) (c:=cap) (ad:=some ⟨g,0,none⟩) rfl rfl (by omega) (by decide +kernel)) ?_
     refine aA ?_
     refine_lift bR ?_
     go_ret
     have e41:Value.slice (if cap=0 then some (⟨g,0,none⟩:Addr) else Option.map (fun x:Addr=>x.add (0 * 4)) (some (⟨g,0,none⟩:Addr))) (m - 0) (cap - 0)=.slice (some ⟨g,0,none⟩) m cap:=by
      simp [dW]
     exact ⟨_,_,rfl,by rw [e41];exact o9,hkept,x9⟩
 ·rw [hi]
  refine_lift bR ?_
  go_ret
  exact ⟨_,_,rfl,ho1,by rw [hfil];exact hc,hx1⟩
theorem pT (k:Int) (d:List UInt8):(aV (fold (aY k d).1)).isSome=true:=by
 have h0:(aV (fold [])).isSome=true:=rfl
 unfold aY
 split
 ·exact h0
 ·split
  ·exact h0
  ·split
   ·exact h0
   ·rename_i n hn
    unfold eX at hn
    split at hn
    ·rename_i hh
     cases hn
     rw [pR]
     exact hh.2
    ·cases hn
theorem qL (l:List RSet) (n:List UInt8):(aZ l n).length≤l.length:=by
 unfold aZ
 split <;> exact HK _ _ _
theorem qM:∀ {L:List RSet},(∀ s ∈ L,s.data.length≤20)→(aX L).length≤20 * L.length
 | [],_=>by simp [aX]
 | s :: L,h=>by
   have e:aX (s :: L)=cE s ++ aX L:=by simp [aX]
   have ih:=qM (L:=L) fun t ht=>h t (by simp [ht])
   have:=h s (by simp)
   rw [e,List.length_append,cE,List.length_map,List.length_cons]
   omega
structure StepA (w0:World) (b:Nat) (o:List UInt8) (v:Value) (A:List Rec) (r:StepR) (w':World):Prop where
 ext:Ext w0 w'
 out:∃ a u,w'.heap[b]? = some (.cells (iR o v r.kind a u (.slice none 0 0)).toArray 116 (0,0))∧Own w0.heap.size 4 106 w' a (aO (A ++ r.ans))∧Own w0.heap.size 4 106 w' u (aO r.auth)∧(r.more=true→u=.slice none 0 0)
theorem StepA.of {w0 w1 w':World} {b:Nat} {o:List UInt8} {v:Value} {A:List Rec} {r:StepR} {a u:Value} {row:Option Nat} {cs:List Value} (hx:Ext w0 w1) (hm:Mv row w1 w') (hrow:row=some b) (hbk:w0.heap.size≤b)
 (hb1:w1.heap[b]? = some (.cells cs.toArray 116 (0,0))) (hb:w'.heap[b]? = some (.cells (iR o v r.kind a u (.slice none 0 0)).toArray 116 (0,0))) (ha:Own w0.heap.size 4 106 w1 a (aO (A ++ r.ans))) (hu:Own w0.heap.size 4 106 w1 u (aO r.auth)) (hn:r.more=true→u=.slice none 0 0:=by (intro h;cases h)):StepA w0 b o v A r w':=by
 subst hrow
 exact ⟨hx.move hm (by rintro k ⟨⟩;exact hbk),a,u,hb,ha.mv hm (.inr (ha.neBlock hb1 (by decide))),hu.mv hm (.inr (hu.neBlock hb1 (by decide))),hn⟩
set_option maxHeartbeats 8000000 in
theorem SJ (b:Nat) (o:List UInt8) (v:Value) (l:List RSet) (n:List UInt8) (k c:Int) (a:Value) (A:List Rec) (w0 w:World) (hx:Ext w0 w) (hv:SetsAt w0 v l) (hz:ZoneOk o l) (hbk:w0.heap.size≤b)
 (hb:w.heap[b]? = some (.cells (iR o v 0 a (.slice none 0 0) (.slice none 0 0)).toArray 116 (0,0))) (ha:Own w0.heap.size 4 106 w a (aO A)) (hn:(aV n).isSome=true) (hA:A.length≤100000) :
 Calls Tryz.prog 66 #[.pointer (some ⟨b,0,none⟩),aI n, .int .i64 k, .int .i64 c] w fun e w'=>e=.returned (.tuple #[aI (bX o l n k c).next, .bool (bX o l n k c).more])∧StepA w0 b o v A (bX o l n k c) w':=by
 have hzb:=mX hz
 have hzr:=mT hz
 have hblt:=(Array.getElem?_eq_some_iff.1 hb).1
 go_enter Tryz.func66,Tryz.ntmps66
 refine_lift zN ?_;intro _ _ _
 refine bJ (vs:=[.int .i64 k]) rfl rfl ?_
 intro pk w1 x1 hk
 refine aA ?_
 have hx1:=hx.trans x1
 have hb1:=x1.at hb
 obtain ⟨hp,hp0,hp2⟩:=kM hb1
 have ha1:=ha.ext x1
 have hv1:=hv.ext hx1
 refine_lift oQ fun _ _ _ _ => ?_
 refine aD (enters_of Tryz.func64 rfl rfl) rfl rfl (sX n o _) ?_;intro w2 x2;refine aA ?_
 have hb2:=x2.at hb1
 have hx2:=hx1.trans x2
 have ha2:=ha1.ext x2
 cases hu:bQ n o with
 | false =>
  refine_lift LM (fun _ => ?_) (fun _ _ _ => ?_)
  ·refine aT (Runs.fieldA (off:=2) rfl (by decide +kernel)) ?_
   refine aA ?_
   refine_lift bR ?_
   refine aM (n:=2) hb2 rfl rfl rfl (by simp [iR]) (by decide +kernel) rfl ?_
   intro w3 p3
   refine_lift bR ?_
   go_ret2
   have hr:bX o l n k c=⟨4,[],[],[],false⟩:=by rw [bX,if_pos hu,if_pos ‹c=0›]
   rw [hr]
   exact ⟨rfl,StepA.of hx2 p3.mv rfl hbk hb2 p3.this (by rw [List.append_nil];exact ha2) (Own.nil _ _ _ _)⟩
  ·have hr:bX o l n k c=⟨0,[],[],[],false⟩:=by rw [bX,if_pos hu,if_neg ‹¬ c=0›]
   go_ret2
   rw [hr]
   exact ⟨rfl,StepA.of hx2 (Mv.refl _ _) rfl hbk hb2 hb2 (by rw [List.append_nil];exact ha2) (Own.nil _ _ _ _)⟩
 | true =>
  have hu':¬ bQ n o=false:=by simp [hu]
  refine_lift oQ fun _ _ _ _ => ?_
  have c39:∀ w',SetsAt w' v l→Calls Tryz.prog 118 #[.agg #[aI o,v],aI n] w' (bM w' (.tuple #[aI (eH o l n).1, .bool (eH o l n).2])):=fun w' h=>by
   have:=UP o v l n w' h hzb
   rw [if_pos hzr,tX hz.chk] at this
   exact this
  have hv2:=hv1.ext x2
  refine aD (enters_of Tryz.func118 rfl rfl) rfl rfl (c39 _ hv2) ?_;intro w3 x3;refine aA ?_
  have hb3:=x3.at hb2
  have hx3:=hx2.trans x3
  have ha3:=ha2.ext x3
  have hv3:=hv2.ext x3
  have hk3:=(hk.ext x2).ext x3
  obtain ⟨qp,qp0,qp2⟩:=kM hb3
  clear hp hp0 hp2
  cases hc:(eH o l n).2 with
  | true =>
   refine_lift zO fun _ _ _ => ?_
   refine aK (enters_of Tryz.func112 rfl rfl) rfl rfl (TP v l (eH o l n).1 2 _ hv3 (fun s hs=>by have:=hzb s hs;omega)) ?_
   intro r4 w4 x4 hr4
   obtain ⟨y4,rfl,hy4⟩:=lL hr4
   clear hr4
   refine_lift bR ?_
   refine aL (z:=fX) rfl (by decide +kernel) ?_
   intro w5 x5 s5 h5
   refine aA ?_
   refine aG (v:=.agg #[aI ((bB l (eH o l n).1 2).getD bW).name, .int .i64 ((bB l (eH o l n).1 2).getD bW).kind, .int .i64 ((bB l (eH o l n).1 2).getD bW).ttl,y4]) rfl rfl rfl h5 (show aR Tryz.prog 131 4=true by decide +kernel) rfl (eR rfl rfl rfl hy4.one) ?_
   intro w6 p6
   have x6:Ext w4 w6:=x5.move p6.mv (by rintro k ⟨⟩;exact Nat.le_refl _)
   have h6:=aE (cs:=[aI ((bB l (eH o l n).1 2).getD bW).name, .int .i64 ((bB l (eH o l n).1 2).getD bW).kind, .int .i64 ((bB l (eH o l n).1 2).getD bW).ttl,y4]) p6.this
   have x36:=x4.trans x6
   have hx6:=hx3.trans x36
   have hb6:=x36.at hb3
   have ha6:=ha3.ext x36
   have y6:=hy4.ext x6
   clear p6 h5 x5
   refine_lift dR fun _ _ => ?_
   refine bN (e:=131) (k:=4) (bytes:=56) (xs:=[.agg #[aI ((bB l (eH o l n).1 2).getD bW).name, .int .i64 ((bB l (eH o l n).1 2).getD bW).kind, .int .i64 ((bB l (eH o l n).1 2).getD bW).ttl,y4]]) rfl rfl rfl (by simp [Value.cells]) (by decide +kernel) (by simp) ?_
   intro v8 w8 x8 _ sl8 _
   refine aA ?_
   have hs8:SetsAt w8 v8 [(bB l (eH o l n).1 2).getD bW]:=(SetsC.one (s:=(bB l (eH o l n).1 2).getD bW) (y6.ext x8)).sets sl8
   have hlen:(aX [(bB l (eH o l n).1 2).getD bW]).length≤1000000:=by
    rw [← eI]
    have:=fI (fun s hs=>(lM (hz.may hs)).2) (eH o l n).1 2
    omega
   refine_lift bR ?_
   refine aK (enters_of Tryz.func119 rfl rfl) rfl rfl (UM v8 _ _ hs8 hlen) ?_
   intro r9 w9 x9 o9
   rw [← eI] at o9
   refine aA ?_
   have x69:=x8.trans x9
   have hx9:=hx6.trans x69
   have hb9:=x69.at hb6
   have ha9:=ha6.ext x69
   have zz:w0.heap.size≤w8.heap.size:=(hx6.trans x8).size
   refine_lift bR ?_
   refine aT (Runs.fieldA (off:=2) rfl (by decide +kernel)) ?_
   refine aA ?_
   refine_lift bR ?_
   refine aM (n:=2) hb9 rfl rfl rfl (by simp [iR]) (by decide +kernel) rfl ?_
   intro w10 p10
   have hb10:w10.heap[b]? = some (.cells (iR o v 3 a (.slice none 0 0) (.slice none 0 0)).toArray 116 (0,0)):=p10.this
   obtain ⟨ap,ap0,ap2⟩:=kM hb10
   refine_lift bR ?_
   refine aT (Runs.fieldA (off:=2) rfl (by decide +kernel)) ?_
   refine aA ?_
   refine_lift bR ?_
   refine aM (n:=4) hb10 rfl rfl rfl (by simp [iR]) (by decide +kernel) o9.sl.one ?_
   intro w11 p11
   refine_lift bR ?_
   go_ret2
   have hr:bX o l n k c=⟨3,[],eO (bB l (eH o l n).1 2),[],false⟩:=by rw [bX,if_neg hu',if_pos hc]
   rw [hr]
   exact ⟨rfl,StepA.of hx9 (p10.mv.trans p11.mv) rfl hbk hb9 p11.this (by rw [List.append_nil];exact ha9) (o9.weaken zz)⟩
  | false =>
   have hc':¬ (eH o l n).2=true:=by simp [hc]
   refine_lift zO fun _ _ _ => ?_
   refine aK (enters_of Tryz.func120 rfl rfl) rfl rfl (SI o v l n w0 _ hx3 hv hz hn) ?_
   intro r4 w4 x4 hr4
   obtain ⟨u,css,rfl,ho,hcs⟩:=hr4
   have hx4:=hx3.trans x4
   have hb4:=x4.at hb3
   have ha4:=ha3.ext x4
   have hk4:=hk3.ext x4
   have z34:=hx3.size
   obtain ⟨sp,sp0,sp2⟩:=kM hb4
   clear qp qp0 qp2
   have hne:a.ownBlock≠some b:=ha4.neBlock hb4 (by decide)
   cases hsb:pP l n with
   | false =>
    refine_lift oQ fun _ _ _ _ => ?_
    refine aN (enters_of Tryz.func121 rfl rfl) rfl rfl (FE b o v l 0 2 a w0 _ hx4 hv hz hbk hb4 ha4.sl.one) ?_
    rintro e w5 ⟨rfl,x5,m5,u5,b5,o5⟩
    refine ⟨_,rfl,?_⟩
    refine aA ?_
    refine_lift bR ?_
    go_ret2
    have hr:bX o l n k c=⟨2,[],[dV o l],[],false⟩:=by rw [bX,if_neg hu',if_neg hc',if_pos hsb]
    rw [hr]
    exact ⟨rfl,x5,a,u5,b5,by rw [List.append_nil];exact ha4.mv m5 (.inr hne),o5.weaken hx4.size,fun h=>by cases h⟩
   | true =>
    have hsb':¬ pP l n=false:=by simp [hsb]
    have hL:SetsAt w4 u (aZ l n):=(hcs.ext hx4).sets ho.sl
    have hf1:SetFn w4 123 #[] (aZ l n) eN:=fun s _ x w' _ _=>PF s x w'
    have hcl:=hcs.len
    have hl200:=tC hz
    have hspl:=qL l n
    refine_lift oQ fun _ _ _ _ => ?_
    refine aD (enters_of Tryz.func122 rfl rfl) rfl rfl (lX u (aZ l n) 123 #[] eN _ hL (enters_of Tryz.func123 rfl rfl) hf1) ?_;intro w5 x5;refine aA ?_
    have hx5:=hx4.trans x5
    have hb5:=x5.at hb4
    have ha5:=ha4.ext x5
    have ho5:=ho.ext x5
    have hk5:=hk4.ext x5
    by_cases hal:(aZ l n).any eN=true∧k≠5∧k≠255
    ·rcases qJ eN (aZ l n) with ⟨i,hi,hidx,hpi,hfind⟩ | ⟨_,hno⟩
     ·rw [hidx]
      have hset:bF l n=(aZ l n)[i]:=by rw [bF,hfind];rfl
      obtain ⟨h51,h52⟩:=hal.2
      have hcut:((aZ l n).take (i + 1)).drop i=[bF l n]:=by
       rw [hset,List.take_succ_eq_append_getElem hi,List.drop_append]
       simp [Nat.min_eq_left (Nat.le_of_lt hi)]
      obtain ⟨x,hcx,hdx⟩:=hcs.row hi
      rw [← hset] at hcx hdx
      have hmem:bF l n ∈ aZ l n:=by rw [hset];exact List.getElem_mem hi
      obtain ⟨hrne,hd20,hd1⟩:=fF hz.chk hmem
      have hsl5:=ho5.sl
      have hdl:((bF l n).data.getD 0 []).length≤9223372036854775807:=by
       obtain ⟨t,ht,_,_,e3,_⟩:=iY hz.chk hmem
       have:=gD hz t ht ((bF l n).data.getD 0 []) (by rw [e3,List.getD_eq_getElem?_getD,List.getElem?_eq_getElem (by rw [← e3];omega)];simp)
       omega
      have hd0:(aP (bF l n).data)[0]? = some [aI ((bF l n).data.getD 0 [])]:=iW _ _ _ (by rw [List.getD_eq_getElem?_getD,List.getElem?_eq_getElem (by omega)];simp)
      (repeat' first | ((with_reducible refine cY ?_);go_step) | ((with_reducible refine cJ ?_);first | refine eS ?_ | (refine dD ?_ ?_ <;> intro hc)) | fail)
      ·have hr:bX o l n k c=⟨0,[],[],[],false⟩:=by rw [bX,if_neg hu',if_neg hc',if_neg hsb',if_pos hal,if_pos ‹c=8›]
       go_ret2
       rw [hr]
       exact ⟨rfl,StepA.of hx5 (Mv.refl _ _) rfl hbk hb5 hb5 (by rw [List.append_nil];exact ha5) (Own.nil _ _ _ _)⟩
      ·have hc8:=‹¬ c=8›
       refine bV 12 (Ext w5) (by decide +kernel) ?_
       intro w6 x6 _
       refine ⟨x6,?_⟩
       refine RI 0 ?_
       refine GH 1 ?_;refine GH 2 ?_
       refine dL (i:=3) rfl rfl rfl (by decide +kernel) (by decide +kernel) (by decide +kernel) rfl (fun _=>Runs.fieldA (off:=2) rfl (by decide +kernel)) (fun _ _ _ h=>h) ?_;refine aA ?_
       refine GH 4 ?_;refine GH 5 ?_;refine GH 6 ?_;refine GH 7 ?_;refine GH 8 ?_;refine GH 9 ?_
       refine bD (i:=10) (v:=dU u 4 i (i + 1)) rfl rfl (by decide +kernel) (by decide +kernel) (by decide +kernel) (by decide +kernel) (by decide +kernel) rfl (fun w' hF=>Runs.cut (k:=4) (m:=i) (n:=i + 1) (es:=css) rfl rfl (hsl5.ext hF) (by omega) (by omega) (by decide +kernel)) (fun _ _ _ h=>h) ?_
       refine aA ?_
       refine bE (i:=11) (by decide +kernel) rfl rfl ?_
       have hs6:SetsAt w6 (dU u 4 i (i + 1)) [bF l n]:=by
        have h1:=((hcs.ext (hx5.trans x6)).take (i + 1)).drop i
        rw [hcut] at h1
        exact h1.sets ((hsl5.ext x6).cut (by omega) (by omega))
       refine aK (enters_of Tryz.func119 rfl rfl) rfl rfl (UM _ _ _ hs6 (by rw [dF,cE,List.length_map];omega)) ?_
       intro r7 w7 x7 o7
       rw [dF] at o7
       refine aA ?_
       have x57:=x6.trans x7
       have hb7:=x57.at hb5
       have ha7:=ha5.ext x57
       refine aJ ⟨cC x57,?_⟩
       refine bE (i:=12) (by decide +kernel) rfl rfl ?_
       refine bU (e:=106) (k:=4) rfl ha7 rfl o7.sl eA (hx5.trans x57).size (by rw [aQ,aQ,cE,List.length_map];omega) ?_
       intro a8 w8 o8 m8 _
       refine aA ?_
       have hb8:=m8.at hb7 (fun e=>hne e.symm)
       have hx8:=ha7.mvx m8 (hx5.trans x57) (Nat.le_refl _)
       have ho7:=ho5.ext x57
       have ho8:=ho7.mv m8 (ho7.ne ha7 (by decide))
       have hrc:aO A ++ aO (cE (bF l n))=aO (A ++ cE (bF l n)):=by simp [aO]
       rw [hrc] at o8
       refine aJ ⟨bT rfl,?_⟩
       refine RI 13 ?_
       refine dL (i:=14) rfl rfl rfl (by decide +kernel) (by decide +kernel) (by decide +kernel) rfl (fun _=>Runs.fieldA (off:=2) rfl (by decide +kernel)) (fun _ _ _ h=>h) ?_;refine aA ?_
       refine dL (i:=15) rfl rfl rfl (by decide +kernel) (by decide +kernel) (by decide +kernel) rfl (fun _=>Runs.fieldA (off:=1) rfl (by decide +kernel)) (fun _ _ _ h=>h) ?_;refine aA ?_
       refine bE (i:=16) (by decide +kernel) rfl rfl ?_
       refine aM (n:=3) hb8 rfl rfl rfl (by simp [iR]) (by decide +kernel) o8.sl.one ?_
       intro w9 p9
       refine aJ ⟨bT rfl,?_⟩
       refine cN (by decide +kernel) ?_
       have hb9:w9.heap[b]? = some (.cells (iR o v 0 a8 (.slice none 0 0) (.slice none 0 0)).toArray 116 (0,0)):=p9.this
       have hx9:Ext w0 w9:=hx8.move p9.mv (by rintro k ⟨⟩;exact hbk)
       have ho9:=ho8.mv p9.mv (.inr (ho8.neBlock hb8 (by decide)))
       have ha9:=o8.mv p9.mv (.inr (o8.neBlock hb8 (by decide)))
       have hs9:=ho9.sl
       have el9:=hs9.elem hcx
       have hd9:=hdx.ext hx9
       have ed9:=hd9.elem hd0
       have htl:=bA (bF l n).data
       clear sp sp0 sp2 hsl5
       refine_lift dR fun _ _ => ?_
       refine aD (enters_of Tryz.func105 rfl rfl) rfl rfl (VN 5 ((bF l n).data.getD 0 []) _ hdl) ?_;intro w10 x10;refine aA ?_
       refine_lift dR fun _ _ => ?_
       refine aD (enters_of Tryz.func32 rfl rfl) rfl rfl (LR (aY 5 ((bF l n).data.getD 0 [])).1 _) ?_;intro w11 x11;refine aA ?_
       refine_lift bR ?_
       go_ret2
       have hr:bX o l n k c=⟨0,cE (bF l n),[],fold (aY 5 ((bF l n).data.getD 0 [])).1,true⟩:=by rw [bX,if_neg hu',if_neg hc',if_neg hsb',if_pos hal,if_neg hc8]
       rw [hr]
       have x911:=x10.trans x11
       exact ⟨rfl,hx9.trans x911,a8, .slice none 0 0,x911.at hb9,ha9.ext x911,Own.nil _ _ _ _,fun _=>rfl⟩
      all_goals
       exfalso
       first
        | (have hq:¬ (0:Int)≤(i:Int):=by assumption
           omega)
        | (have hq:(!decide (k=255))=false:=by assumption
           simp [h52] at hq)
        | (have hq:(!decide (k=5))=false:=by assumption
           simp [h51] at hq)
     ·rw [hno.1] at hal;cases hal.1
    ·have hf2:SetFn w1 125 #[pk] (aZ l n) (fun s => !bP k s):=fun s _ x w' hx' _=>PG pk k s x w' (hk.ext hx')
     have x15:Ext w1 w5:=x2.trans (x3.trans (x4.trans x5))
     have zb:w1.heap.size≤w3.heap.size:=(x2.trans x3).size
     have hb5':=hb5
     have hkk:(aZ l n).any eN=true→k=5∨k=255:=fun h=>by
      by_cases h5:k=5
      ·exact .inl h5
      ·by_cases h6:k=255
       ·exact .inr h6
       ·exact absurd ⟨h,h5,h6⟩ hal
     have hfe:(aZ l n).filter (fun s => !!bP k s)=(aZ l n).filter (bP k):=by simp only [Bool.not_not]
     have hMl:((aZ l n).filter (bP k)).length≤200:=Nat.le_trans (List.length_filter_le _ _) (by omega)
     have hM20:=qM (L:=(aZ l n).filter (bP k)) fun s hs=>(fF hz.chk (List.mem_filter.1 hs).1).2.1
     have hany:oP eN (aZ l n)=-1∨∃ i:Nat,oP eN (aZ l n)=i∧(k=5∨k=255):=by
      rcases qJ eN (aZ l n) with ⟨i,hi,hidx,hpi,hfind⟩ | ⟨hidx,hno⟩
      ·exact .inr ⟨i,hidx,hkk (List.any_eq_true.2 ⟨_,List.getElem_mem hi,hpi⟩)⟩
      ·exact .inl hidx
     obtain ⟨j,hj,hjk⟩:∃ j:Int,oP eN (aZ l n)=j∧(0≤j→k=5∨k=255):=by
      rcases hany with h | ⟨i,h,h2⟩
      ·exact ⟨-1,h,by omega⟩
      ·exact ⟨i,h,fun _=>h2⟩
     rw [hj]
     clear hany hj sp sp0 sp2
     (repeat' first | ((with_reducible refine cY ?_);go_step) | ((with_reducible refine cJ ?_);first | refine eS ?_ | (refine dD ?_ ?_ <;> intro hc)) | fail)
     all_goals first
      | (exfalso
         have q1:(!decide (k=5))=true:=by assumption
         have q2:(!decide (k=255))=true:=by assumption
         have q3:0≤j:=by assumption
         simp at q1 q2
         rcases hjk q3 with h | h
         ·exact q1 h
         ·exact q2 h)
      | skip
     all_goals
      refine aN (enters_of Tryz.func124 rfl rfl) rfl rfl (CQ u (aZ l n) css 125 #[pk] (fun s => !bP k s) w1 _ x15 zb ho5 (hcs.ext hx1) (enters_of Tryz.func125 rfl rfl) hf2) ?_
      rintro e w6 ⟨v6,css6,rfl,o6,c6,x6⟩
      refine ⟨_,rfl,?_⟩
      refine aA ?_
      rw [hfe] at c6
      have hb6:=x6.at hb1
      have ha6:=ha1.ext x6
      have hx6:=hx1.trans x6
      have hs6:=(c6.ext x6).sets o6.sl
      have sl6:=o6.sl
      have cl6:=c6.len
      obtain ⟨rp,rp0,rp2⟩:=kM hb6
      generalize hM:(aZ l n).filter (bP k)=M at *
      refine_lift dR fun _ _ => ?_
      refine bV 8 (Ext w6) (by decide +kernel) ?_
      intro w7 x7 _
      refine ⟨x7,?_⟩
      refine RI 0 ?_
      refine GH 1 ?_;refine GH 2 ?_
      refine dL (i:=3) rfl rfl rfl (by decide +kernel) (by decide +kernel) (by decide +kernel) rfl (fun _=>Runs.fieldA (off:=2) rfl (by decide +kernel)) (fun _ _ _ h=>h) ?_;refine aA ?_
      refine GH 4 ?_;refine GH 5 ?_;refine GH 6 ?_
      refine bE (i:=7) (by decide +kernel) rfl rfl ?_
      refine aK (enters_of Tryz.func119 rfl rfl) rfl rfl (UM v6 M _ (hs6.ext x7) (by omega)) ?_
      intro r8 w8 x8 o8
      refine aA ?_
      have x68:=x7.trans x8
      have hb8:=x68.at hb6
      have ha8:=ha6.ext x68
      refine aJ ⟨cC x68,?_⟩
      refine bE (i:=8) (by decide +kernel) rfl rfl ?_
      refine bU (e:=106) (k:=4) rfl ha8 rfl o8.sl eA (hx6.trans x68).size (by rw [aQ,aQ];omega) ?_
      intro a9 w9 o9 m9 _
      refine aA ?_
      have hb9:=m9.at hb8 (fun e=>hne e.symm)
      have hx9:=ha8.mvx m9 (hx6.trans x68) (Nat.le_refl _)
      have o69:=(o6.ext x68).mv m9 ((o6.ext x68).ne ha8 (by decide))
      have hrc:aO A ++ aO (aX M)=aO (A ++ aX M):=by simp [aO]
      rw [hrc] at o9
      refine aJ ⟨bT rfl,?_⟩
      refine RI 9 ?_
      refine dL (i:=10) rfl rfl rfl (by decide +kernel) (by decide +kernel) (by decide +kernel) rfl (fun _=>Runs.fieldA (off:=2) rfl (by decide +kernel)) (fun _ _ _ h=>h) ?_;refine aA ?_
      refine dL (i:=11) rfl rfl rfl (by decide +kernel) (by decide +kernel) (by decide +kernel) rfl (fun _=>Runs.fieldA (off:=1) rfl (by decide +kernel)) (fun _ _ _ h=>h) ?_;refine aA ?_
      refine bE (i:=12) (by decide +kernel) rfl rfl ?_
      refine aM (n:=3) hb9 rfl rfl rfl (by simp [iR]) (by decide +kernel) o9.sl.one ?_
      intro w10 p10
      refine aJ ⟨bT rfl,?_⟩
      refine cN (by decide +kernel) ?_
      have hb10:w10.heap[b]? = some (.cells (iR o v 0 a9 (.slice none 0 0) (.slice none 0 0)).toArray 116 (0,0)):=p10.this
      have hx10:Ext w0 w10:=hx9.move p10.mv (by rintro k ⟨⟩;exact hbk)
      have ha10:=o9.mv p10.mv (.inr (o9.neBlock hb9 (by decide)))
      have o610:=o69.mv p10.mv (.inr (o69.neBlock hb9 (by decide)))
      have sl10:=o610.sl
      clear rp rp0 rp2 sl6
      refine_lift LM (fun _ => ?_) (fun _ _ _ => ?_)
      ·have hl0:css6.length=0:=by have:=‹(css6.length:Int)=0›;omega
       have hM0:M=[]:=List.eq_nil_of_length_eq_zero (by omega)
       refine aN (enters_of Tryz.func121 rfl rfl) rfl rfl (FE b o v l 0 1 a9 w0 _ hx10 hv hz hbk hb10 ha10.sl.one) ?_
       rintro e w11 ⟨rfl,x11,m11,u11,b11,o11⟩
       refine ⟨_,rfl,?_⟩
       refine aA ?_
       refine_lift bR ?_
       go_ret2
       have hr:bX o l n k c=⟨1,[],[dV o l],[],false⟩:=by rw [bX,if_neg hu',if_neg hc',if_neg hsb',if_neg hal,hM,if_pos hM0]
       rw [hr]
       rw [hM0,show aX []=[] from rfl] at ha10
       exact ⟨rfl,x11,a9,u11,b11,ha10.mv m11 (.inr (ha10.neBlock hb10 (by decide))),o11.weaken hx10.size,fun h=>by cases h⟩
      ·have hl0:css6.length≠0:=by have:=‹¬ (css6.length:Int)=0›;omega
       have hM0:M≠[]:=by rintro rfl;exact hl0 cl6
       go_ret2
       have hr:bX o l n k c=⟨0,aX M,[],[],false⟩:=by rw [bX,if_neg hu',if_neg hc',if_neg hsb',if_neg hal,hM,if_neg hM0]
       rw [hr]
       exact ⟨rfl,hx10,a9, .slice none 0 0,hb10,ha10,Own.nil _ _ _ _,fun h=>by cases h⟩
def FromL (l:List RSet) (r:Rec):Prop:=∃ t ∈ l,r.data ∈ t.data
theorem FromL.opt {l:List RSet} {n:List UInt8} {k:Int}:∀ r ∈ eO (bB l n k),FromL l r:=by
 intro r hr
 cases hf:bB l n k with
 | none=>rw [hf] at hr;cases hr
 | some s =>
  rw [hf] at hr
  obtain ⟨d,hd,rfl⟩:=List.mem_map.1 hr
  exact ⟨s,(kR hf).1,hd⟩
theorem FromL.sets {l:List RSet} (h:cX l=0) {n:List UInt8} {s:RSet} (hs:s ∈ aZ l n):∀ r ∈ cE s,FromL l r:=by
 intro r hr
 obtain ⟨d,hd,rfl⟩:=List.mem_map.1 hr
 obtain ⟨t,ht,_,_,e,_⟩:=iY h hs
 exact ⟨t,ht,by rw [← e];exact hd⟩
theorem BM {o:List UInt8} {l:List RSet} (h:cX l=0) (n:List UInt8) (k c:Int):(∀ r ∈ (bX o l n k c).ans,FromL l r)∧((bX o l n k c).kind=3→∀ r ∈ (bX o l n k c).auth,FromL l r):=by
 unfold bX
 split
 ·exact ⟨by simp,by simp⟩
 ·split
  ·exact ⟨by simp,fun _=>FromL.opt⟩
  ·split
   ·exact ⟨by simp,by simp⟩
   ·split
    ·rename_i h4
     split
     ·exact ⟨by simp,by simp⟩
     ·exact ⟨FromL.sets h (mW h4.1).1,by simp⟩
    ·split
     ·exact ⟨by simp,by simp⟩
     ·refine ⟨fun r hr => ?_,by simp⟩
      obtain ⟨s,hs,d,hd,rfl⟩:=vE hr
      exact FromL.sets h (List.mem_filter.1 hs).1 _ (List.mem_map_of_mem hd)
theorem FI {o:List UInt8} {l:List RSet} (h:cX l=0) (k:Int):∀ (f:Nat) (c:Int) (n:List UInt8),(∀ r ∈ (cT o l k f c n).ans,FromL l r)∧((cT o l k f c n).kind=3→∀ r ∈ (cT o l k f c n).auth,FromL l r)
 | 0,c,n=>by simp [cT]
 | f + 1,c,n=>by
   rw [cT]
   split
   ·obtain ⟨h1,h2⟩:=FI h k f (c + 1) (bX o l n k c).next
    refine ⟨fun r hr => ?_,h2⟩
    rcases List.mem_append.1 hr with hr | hr
    ·exact (BM h n k c).1 r hr
    ·exact h1 r hr
   ·exact BM h n k c
theorem BN {o:List UInt8} {l:List RSet} (h:cX l=0) {n:List UInt8} {k c:Int} (hm:(bX o l n k c).more=true) :
 (bX o l n k c).kind=0∧(bX o l n k c).auth=[]∧c≠8∧(aV (bX o l n k c).next).isSome=true∧(bX o l n k c).ans.length≤20:=by
 generalize hr:bX o l n k c=r at *
 unfold bX at hr
 split at hr
 ·subst hr;cases hm
 ·split at hr
  ·subst hr;cases hm
  ·split at hr
   ·subst hr;cases hm
   ·split at hr
    ·rename_i h4
     split at hr
     ·subst hr;cases hm
     ·rename_i h5
      subst hr
      refine ⟨rfl,rfl,h5,pT _ _,?_⟩
      simp only [cE,List.length_map]
      exact (fF h (mW h4.1).1).2.1
    ·split at hr <;> (subst hr;cases hm)
theorem FJ {o:List UInt8} {l:List RSet} (h:cX l=0) (hl:l.length≤200) (n:List UInt8) (k c:Int):(bX o l n k c).ans.length≤4000∧(bX o l n k c).auth.length≤20:=by
 unfold bX
 split
 ·simp
 ·split
  ·have:=fI (fun s hs=>(lM (BK h hs)).2) (eH o l n).1 2
   exact ⟨by simp,this⟩
  ·split
   ·simp
   ·split
    ·rename_i h4
     split
     ·simp
     ·have:=(fF h (mW h4.1).1).2.1
      simp only [cE,List.length_map]
      exact ⟨by omega,by simp⟩
    ·split
     ·simp
     ·have h1:=qM (L:=(aZ l n).filter (bP k)) fun s hs=>(fF h (List.mem_filter.1 hs).1).2.1
      have h2:=List.length_filter_le (bP k) (aZ l n)
      have h3:=qL l n
      exact ⟨by simp only;omega,by simp⟩
def kN:List Value:=[.int .i64 0, .slice none 0 0, .slice none 0 0, .slice none 0 0]
def AnsO (B:Nat) (a:AnsR) (y:Value) (w:World):Prop :=
 ∃ u1 u2 u3,y=.agg #[.int .i64 a.kind,u1,u2,u3]∧Own B 4 106 w u1 (aO a.ans)∧Own B 4 106 w u2 (aO a.auth)∧Own B 4 106 w u3 (aO a.extra)
def AnsA (a:AnsR) (y:Value) (w:World):Prop :=
 ∃ u1 u2 u3,y=.agg #[.int .i64 a.kind,u1,u2,u3]∧Sl 4 w u1 (aO a.ans)∧Sl 4 w u2 (aO a.auth)∧Sl 4 w u3 (aO a.extra)
theorem AnsO.a {B:Nat} {a:AnsR} {y:Value} {w:World} (h:AnsO B a y w):AnsA a y w:=let ⟨u1,u2,u3,e,a,b,c⟩:=h;⟨u1,u2,u3,e,a.sl,b.sl,c.sl⟩
theorem AnsA.ext {a:AnsR} {y:Value} {w w':World} (h:AnsA a y w) (hx:Ext w w'):AnsA a y w':=let ⟨u1,u2,u3,e,a,b,c⟩:=h;⟨u1,u2,u3,e,a.ext hx,b.ext hx,c.ext hx⟩
theorem AnsO.zero (B:Nat) (w:World):AnsO B IN (.agg kN.toArray) w:=⟨_,_,_,rfl,Own.nil _ _ _ _,Own.nil _ _ _ _,Own.nil _ _ _ _⟩
set_option maxHeartbeats 8000000 in
theorem VA (o:List UInt8) (v:Value) (l:List RSet) (q:List UInt8) (k:Int) (w:World) (hv:SetsAt w v l) (hb:∀ s ∈ l,s.data.length≤1000000) :
 Calls Tryz.prog 31 #[.agg #[aI o,v], .agg #[aI q, .int .i64 k]] w (oA w fun r w'=>∃ y,r=.tuple #[y, .int .i64 (mV o l q)]∧AnsO w.heap.size (pQ o l q k) y w'):=by
 go_enter Tryz.func31,Tryz.ntmps31
 refine_lift zN ?_;intro _ _ _
 refine bJ (vs:=[aI o,v]) rfl rfl ?_
 intro p w1 x1 hp
 refine aA ?_
 refine bJ (vs:=[aI q, .int .i64 k]) rfl rfl ?_
 intro pq w2 x2 hq
 refine aA ?_
 refine aL (z:=kN) rfl (by decide +kernel) ?_
 intro w3 x3 s3 h3
 refine aA ?_
 have hx3:=x1.trans (x2.trans x3)
 have hp3:=hp.ext (x2.trans x3)
 have hq3:=hq.ext x3
 have hv3:=hv.ext hx3
 have z2:=(x1.trans x2).size
 refine_lift bR ?_
 go_step3
 refine_lift oQ fun _ _ _ _ => ?_
 refine aD (enters_of Tryz.func61 rfl rfl) rfl rfl (wH o v l _ hv3 hb) ?_;intro w4 x4;refine aA ?_
 have h4:=x4.at h3
 have hx4:=hx3.trans x4
 have hp4:=hp3.ext x4
 have hq4:=hq3.ext x4
 have hv4:=hv3.ext x4
 have ret0:∀ e:Int,e≠0→mV o l q=e→pQ o l q k=IN:=fun e he h=>by rw [pQ,if_pos (by rw [h];exact he)]
 refine_lift VW (fun _ _ _ _ _ => ?_) (fun _ _ _ => ?_)
 ·have q1:¬ bZ o l=0:=by simpa using (by assumption:(!decide (bZ o l=0))=true)
  have hE:mV o l q=bZ o l:=by rw [mV,if_pos q1]
  refine cH (v:=.agg kN.toArray) rfl (Runs.build0 (by kernel_rfl)) ?_
  refine aA ?_
  refine_lift bR ?_
  refine aG (v:=.agg kN.toArray) rfl rfl rfl h4 (by decide +kernel) rfl (by decide +kernel) ?_
  intro w5 p5
  refine_lift bR ?_
  rw [Exit.noGoto_ret]
  refine bodyPost_ret (aU (cs:=kN) rfl rfl p5.this (by decide +kernel)) rfl ⟨_,rfl,hx4.move p5.mv (by rintro k ⟨⟩;exact z2),?_⟩
  rw [ret0 _ q1 hE,hE]
  exact ⟨_,rfl,AnsO.zero _ _⟩
 ·have q1:bZ o l=0:=by simpa using (by assumption:(!decide (bZ o l=0))=false)
  refine aD (enters_of Tryz.func65 rfl rfl) rfl rfl (RV q _) ?_;intro w5 x5;refine aA ?_
  have h5:=x5.at h4
  have hx5:=hx4.trans x5
  have hp5:=hp4.ext x5
  have hq5:=hq4.ext x5
  have hv5:=hv4.ext x5
  have hE:mV o l q=dM q:=by rw [mV,if_neg (by simp [q1])]
  have hCE:(if (aV q).isSome=true then (0:Int) else 1)=dM q:=rfl
  rw [hCE]
  refine_lift TV (fun _ _ _ => ?_) (fun _ _ _ => ?_)
  ·have q2:¬ dM q=0:=by simpa using (by assumption:(!decide (dM q=0))=true)
   refine cH (v:=.agg kN.toArray) rfl (Runs.build0 (by kernel_rfl)) ?_
   refine aA ?_
   refine_lift bR ?_
   refine aG (v:=.agg kN.toArray) rfl rfl rfl h5 (by decide +kernel) rfl (by decide +kernel) ?_
   intro w6 p6
   refine_lift bR ?_
   rw [Exit.noGoto_ret]
   refine bodyPost_ret (aU (cs:=kN) rfl rfl p6.this (by decide +kernel)) rfl ⟨_,rfl,hx5.move p6.mv (by rintro k ⟨⟩;exact z2),?_⟩
   rw [ret0 _ q2 hE,hE]
   exact ⟨_,rfl,AnsO.zero _ _⟩
  ·have q2:dM q=0:=by simpa using (by assumption:(!decide (dM q=0))=false)
   have hz:=jC q1
   have hl200:=tC hz
   have hA:pQ o l q k=⟨(cT o l k 9 0 (fold q)).kind,(cT o l k 9 0 (fold q)).ans,(cT o l k 9 0 (fold q)).auth,tY l (gC (cT o l k 9 0 (fold q)))⟩:=by rw [pQ,if_neg (by rw [hE];simp [q2])]
   have hlq:(aV (fold q)).isSome=true:=by
    rw [pR]
    unfold dM at q2
    split at q2
    ·assumption
    ·cases q2
   rw [q2] at hE
   clear hCE ret0
   obtain ⟨va,vn,vc,hvs⟩:∃ a n c,v=.slice a n c:=by obtain ⟨cv,h,_⟩:=hv.sl;exact h.slf
   refine cH (v:=.agg (iR o v 0 (.slice none 0 0) (.slice none 0 0) (.slice none 0 0)).toArray) rfl (Runs.build (vals:=[(0, .agg #[aI o,v])]) rfl (by rw [hvs];kernel_rfl)) ?_
   refine aA ?_
   refine eK (vs:=iR o v 0 (.slice none 0 0) (.slice none 0 0) (.slice none 0 0)) rfl rfl ?_
   intro w6 x6 s6 b6
   refine aA ?_
   have h6:=x6.at h5
   have hp6:=hp5.ext x6
   have hq6:=hq5.ext x6
   refine_lift dR fun _ _ => ?_
   refine aD (enters_of Tryz.func32 rfl rfl) rfl rfl (LR q _) ?_;intro w7 x7;refine aA ?_
   have b7:=x7.at b6
   have h7:=x7.at h6
   have hx57:=x6.trans x7
   refine_lift dR fun _ _ => ?_
   go_step3
   refine_lift dR fun _ _ => ?_
   have hbk:w5.heap.size≤w5.heap.size:=Nat.le_refl _
   go_loopw [9,10,11] (fun nv _ cv wr=>∃ (c:Nat) (n:List UInt8) (a:Value) (A:List Rec),nv=aI n∧cv=.int .i64 c∧c≤8∧Ext w5 wr∧wr.heap[w5.heap.size]? = some (.cells (iR o v 0 a (.slice none 0 0) (.slice none 0 0)).toArray 116 (0,0))∧Own w5.heap.size 4 106 wr a (aO A)∧(aV n).isSome=true∧A.length≤20 * c ∧
    (cT o l k 9 0 (fold q)).kind=(cT o l k (9 - c) c n).kind∧(cT o l k 9 0 (fold q)).ans=A ++ (cT o l k (9 - c) c n).ans∧(cT o l k 9 0 (fold q)).auth=(cT o l k (9 - c) c n).auth) (fun _ _ c _=>9 - (intOf c).toNat)
   case atStart=>exact ⟨0,fold q, .slice none 0 0,[],rfl,rfl,by omega,hx57,b7,Own.nil _ _ _ _,hlq,by simp,rfl,rfl,rfl⟩
   case round =>
    obtain ⟨c,n,a,A,rfl,rfl,hc,hx,hbr,har,hln,hAl,e1,e2,e3⟩:=hrel
    have hqr:=hq5.ext hx
    refine_lift TW ?_;intro _ _ _ _ _
    refine aN (enters_of Tryz.func66 rfl rfl) rfl rfl (SJ w5.heap.size o v l n k c a A w5 _ hx hv5 hz hbk hbr har hln (by omega)) ?_
    rintro e w8 ⟨rfl,hx8,a8,u8,b8,oa8,ou8,hn8⟩
    refine ⟨_,rfl,?_⟩
    refine aA ?_
    have e9:9 - c=(8 - c) + 1:=by omega
    have hsl:=FJ (o:=o) hz.chk hl200 n k c
    have eu:cT o l k (9 - c) c n=if (bX o l n k c).more=true then
     ⟨(cT o l k (8 - c) (c + 1) (bX o l n k c).next).kind,(bX o l n k c).ans ++ (cT o l k (8 - c) (c + 1) (bX o l n k c).next).ans,(cT o l k (8 - c) (c + 1) (bX o l n k c).next).auth,[],false⟩
     else bX o l n k c:=by rw [e9,cT]
    rw [eu] at e1 e2 e3
    clear eu e9
    cases hm:(bX o l n k c).more with
    | true =>
     rw [if_pos hm] at e1 e2 e3
     simp only at e1 e2 e3
     obtain ⟨m1,m2,m3,m4,m5⟩:=BN hz.chk hm
     have hu8:=hn8 hm
     rw [m1,hu8] at b8
     have hc8:c≠8:=fun e=>m3 (by rw [e];rfl)
     rw [← List.append_assoc] at e2
     refine_lift bR ?_
     refine ⟨⟨c + 1,_,a8,A ++ (bX o l n k c).ans,rfl,by go_num,by omega,hx8,b8,oa8,m4,by rw [List.length_append];omega,?_,?_,?_⟩,by simp [intOf];omega⟩
     ·rw [e1,show 9 - (c + 1)=8 - c by omega];rfl
     ·rw [e2,show 9 - (c + 1)=8 - c by omega];rfl
     ·rw [e3,show 9 - (c + 1)=8 - c by omega];rfl
    | false =>
     rw [if_neg (by simp [hm])] at e1 e2 e3
     have hfrom:=FI (o:=o) hz.chk k 9 0 (fold q)
     rw [← e2] at oa8
     rw [← e3] at ou8
     rw [← e1] at b8
     have hal:(cT o l k 9 0 (fold q)).ans.length≤4200:=by rw [e2,List.length_append];omega
     have hul:(cT o l k 9 0 (fold q)).auth.length≤20:=by rw [e3];omega
     generalize cT o l k 9 0 (fold q)=R at *
     clear e1 e2 e3 hsl
     obtain ⟨sp,sp0,sp2⟩:=kM b8
     have sa8:=oa8.sl
     have h8:w8.heap[w2.heap.size]? = some (.cells kN.toArray 71 (0,0)):=by
      have a1:=(Array.getElem?_eq_some_iff.1 h5).1
      exact hx8.at h5
     refine_lift dR fun _ _ => ?_
     refine aT (Runs.fieldA (off:=2) rfl (by decide +kernel)) ?_
     refine aA ?_
     refine_lift bR ?_
     refine aK (enters_of Tryz.func67 rfl rfl) rfl rfl (tB a8 R.ans _ sa8 (by omega)) ?_
     intro v9 w9 x9 o9
     refine aA ?_
     have su9:=(ou8.ext x9).sl
     have hv8:=hv5.ext hx8
     have hp8:=hp5.ext hx8
     have zq:w2.heap.size≠w5.heap.size:=by
      have a1:=(Array.getElem?_eq_some_iff.1 h5).1
      omega
     refine_lift oQ fun _ _ _ _ => ?_
     refine aT (Runs.fieldA (off:=2) rfl (by decide +kernel)) ?_
     refine aA ?_
     refine_lift DY (fun _ _ _ => ?_) (fun _ => ?_)
     ·have h3k:=‹R.kind=3›
      refine aT (Runs.fieldA (off:=2) rfl (by decide +kernel)) ?_
      refine aA ?_
      refine_lift bR ?_
      refine bU (e:=106) (k:=4) rfl o9 rfl su9 eA x9.size (by rw [aQ,aQ];omega) ?_
      intro v10 w10 o10 m10 _
      refine aA ?_
      have xt:Ext w8 w10:=o9.mvx m10 x9 (Nat.le_refl _)
      have hrc:aO R.ans ++ aO R.auth=aO (gC R):=by rw [gC,if_pos h3k];simp [aO]
      rw [hrc] at o10
      have ot:=o10.sl
      have hfr:∀ r ∈ gC R,FromL l r:=by
       intro r hr
       rw [gC,if_pos h3k] at hr
       rcases List.mem_append.1 hr with hr | hr
       ·exact hfrom.1 r hr
       ·exact hfrom.2 h3k r hr
      clear su9
      refine_lift dR fun _ _ => ?_
      have htl:(gC R).length≤10000:=by
       unfold gC
       rw [List.length_append]
       split <;> first | omega | (simp;omega)
      have hdat:∀ r ∈ gC R,r.data.length≤9223372036854775807:=fun r hr=>by
       obtain ⟨t,ht,hd⟩:=hfr r hr
       have:=gD hz t ht _ hd
       omega
      refine aK (enters_of Tryz.func68 rfl rfl) rfl rfl (IP o v _ l (gC R) _ (hv8.ext xt) ot hz htl hdat) ?_
      intro r11 w11 x11 o11
      refine aA ?_
      have zt:=xt.size
      have xx:=xt.trans x11
      have b11:=xx.at b8
      have h11:=xx.at h8
      refine_lift bR ?_
      refine aT (Runs.fieldA (off:=2) rfl (by decide +kernel)) ?_
      refine aA ?_
      refine_lift bR ?_
      refine aM (n:=5) b11 rfl rfl rfl (by simp [iR]) (by decide +kernel) o11.sl.one ?_
      intro w12 p12
      have b12:w12.heap[w5.heap.size]? = some (.cells (iR o v R.kind a8 u8 r11).toArray 116 (0,0)):=p12.this
      have h12:=p12.at h11 zq
      have oa12:=(oa8.ext xx).mv p12.mv (.inr ((oa8.ext xx).neBlock b11 (by decide)))
      have ou12:=(ou8.ext xx).mv p12.mv (.inr ((ou8.ext xx).neBlock b11 (by decide)))
      have or12:=o11.mv p12.mv (.inr (o11.neBlock b11 (by decide)))
      obtain ⟨tp,tp0,tp2⟩:=kM b12
      clear sp sp0 sp2
      refine_lift dR fun _ _ => ?_
      refine aT (Runs.fieldA (off:=2) rfl (by decide +kernel)) ?_
      refine aA ?_
      refine_lift bR ?_
      refine aG (v:=.agg #[.int .i64 R.kind,a8,u8,r11]) rfl rfl rfl h12 (show aR Tryz.prog 71 4=true by decide +kernel) rfl (eR rfl oa12.sl.one ou12.sl.one or12.sl.one) ?_
      intro w13 p13
      refine_lift bR ?_
      rw [Exit.noGoto_ret]
      have zw:w.heap.size≤w5.heap.size:=hx5.size
      have x12:Ext w w12:=(hx5.trans (hx8.trans xx)).move p12.mv (by rintro k ⟨⟩;exact zw)
      refine bodyPost_ret (aU (cs:=[.int .i64 R.kind,a8,u8,r11]) rfl rfl p13.this (show cP Tryz.prog 71 4=true by decide +kernel)) rfl ⟨_,rfl,x12.move p13.mv (by rintro k ⟨⟩;exact z2),?_⟩
      rw [hA,hE]
      refine ⟨_,rfl,a8,u8,r11,rfl,(oa12.mv p13.mv (.inr (oa12.neBlock h12 (by decide)))).weaken zw,(ou12.mv p13.mv (.inr (ou12.neBlock h12 (by decide)))).weaken zw,(or12.mv p13.mv (.inr (or12.neBlock h12 (by decide)))).weaken ?_⟩
      have a1:=hx8.size
      omega
     ·have h3k:=‹¬ R.kind=3›
      have xt:=x9
      have hrc:R.ans=gC R:=by rw [gC,if_neg h3k];simp
      have ot:=o9.sl
      rw [hrc] at ot
      have hfr:∀ r ∈ gC R,FromL l r:=by rw [← hrc];exact hfrom.1
      clear su9
      have htl:(gC R).length≤10000:=by
       unfold gC
       rw [List.length_append]
       split <;> first | omega | (simp;omega)
      have hdat:∀ r ∈ gC R,r.data.length≤9223372036854775807:=fun r hr=>by
       obtain ⟨t,ht,hd⟩:=hfr r hr
       have:=gD hz t ht _ hd
       omega
      refine aK (enters_of Tryz.func68 rfl rfl) rfl rfl (IP o v _ l (gC R) _ (hv8.ext xt) ot hz htl hdat) ?_
      intro r11 w11 x11 o11
      refine aA ?_
      have zt:=xt.size
      have xx:=xt.trans x11
      have b11:=xx.at b8
      have h11:=xx.at h8
      refine_lift bR ?_
      refine aT (Runs.fieldA (off:=2) rfl (by decide +kernel)) ?_
      refine aA ?_
      refine_lift bR ?_
      refine aM (n:=5) b11 rfl rfl rfl (by simp [iR]) (by decide +kernel) o11.sl.one ?_
      intro w12 p12
      have b12:w12.heap[w5.heap.size]? = some (.cells (iR o v R.kind a8 u8 r11).toArray 116 (0,0)):=p12.this
      have h12:=p12.at h11 zq
      have oa12:=(oa8.ext xx).mv p12.mv (.inr ((oa8.ext xx).neBlock b11 (by decide)))
      have ou12:=(ou8.ext xx).mv p12.mv (.inr ((ou8.ext xx).neBlock b11 (by decide)))
      have or12:=o11.mv p12.mv (.inr (o11.neBlock b11 (by decide)))
      obtain ⟨tp,tp0,tp2⟩:=kM b12
      clear sp sp0 sp2
      refine_lift dR fun _ _ => ?_
      refine aT (Runs.fieldA (off:=2) rfl (by decide +kernel)) ?_
      refine aA ?_
      refine_lift bR ?_
      refine aG (v:=.agg #[.int .i64 R.kind,a8,u8,r11]) rfl rfl rfl h12 (show aR Tryz.prog 71 4=true by decide +kernel) rfl (eR rfl oa12.sl.one ou12.sl.one or12.sl.one) ?_
      intro w13 p13
      refine_lift bR ?_
      rw [Exit.noGoto_ret]
      have zw:w.heap.size≤w5.heap.size:=hx5.size
      have x12:Ext w w12:=(hx5.trans (hx8.trans xx)).move p12.mv (by rintro k ⟨⟩;exact zw)
      refine bodyPost_ret (aU (cs:=[.int .i64 R.kind,a8,u8,r11]) rfl rfl p13.this (show cP Tryz.prog 71 4=true by decide +kernel)) rfl ⟨_,rfl,x12.move p13.mv (by rintro k ⟨⟩;exact z2),?_⟩
      rw [hA,hE]
      refine ⟨_,rfl,a8,u8,r11,rfl,(oa12.mv p13.mv (.inr (oa12.neBlock h12 (by decide)))).weaken zw,(ou12.mv p13.mv (.inr (ou12.neBlock h12 (by decide)))).weaken zw,(or12.mv p13.mv (.inr (or12.neBlock h12 (by decide)))).weaken ?_⟩
      have a1:=hx8.size
      omega
abbrev qS:=List UInt8 × Int
structure MsgR where
 id:Int
 resp:Bool
 op:Int
 auth:Bool
 trunc:Bool
 want:Bool
 avail:Bool
 rcode:Int
 qs:List qS
 an:List Rec
 au:List Rec
 ex:List Rec
 size:Int
 deriving DecidableEq,Inhabited
def cU (l:List qS):List (List Value):=l.map fun q=>[aI q.1, .int .i64 q.2]
theorem cI (l:List qS):(cU l).length=l.length:=by simp [cU]
def aW (m:MsgR) (q a u e:Value):List Value:=[.int .i64 m.id, .bool m.resp, .int .i64 m.op, .bool m.auth, .bool m.trunc, .bool m.want, .bool m.avail, .int .i64 m.rcode,q,a,u,e, .int .i64 m.size]
structure MsgV (w:World) (m:MsgR) (q a u e:Value):Prop where
 qs:Sl 2 w q (cU m.qs)
 an:Sl 4 w a (aO m.an)
 au:Sl 4 w u (aO m.au)
 ex:Sl 4 w e (aO m.ex)
theorem MsgV.ext {w w':World} {m:MsgR} {q a u e:Value} (h:MsgV w m q a u e) (hx:Ext w w'):MsgV w' m q a u e:=⟨h.qs.ext hx,h.an.ext hx,h.au.ext hx,h.ex.ext hx⟩
theorem MsgV.one {w:World} {m:MsgR} {q a u e:Value} (h:MsgV w m q a u e):∀ x ∈ aW m q a u e,x.oneCell'=true:=by
 intro x hx
 simp only [aW,List.mem_cons,List.not_mem_nil,or_false] at hx
 rcases hx with rfl | rfl | rfl | rfl | rfl | rfl | rfl | rfl | rfl | rfl | rfl | rfl | rfl
 all_goals first | rfl | exact h.qs.one | exact h.an.one | exact h.au.one | exact h.ex.one
def zeroM:MsgR:=⟨0,false,0,false,false,false,false,0,[],[],[],[],0⟩
theorem MsgV.zero (w:World):MsgV w zeroM (.slice none 0 0) (.slice none 0 0) (.slice none 0 0) (.slice none 0 0):=⟨Sl.nil _ _,Sl.nil _ _,Sl.nil _ _,Sl.nil _ _⟩
def tE (q:qS):Bool:=decide (dM q.1=0) && (decide (1≤q.2) && decide (q.2≤65535)) && !decide (q.2=41)
def eW (l:List Rec):Bool:=decide (l.length≤200) && !(l.any fun r => !decide (bC r=0))
def fJ (n least most:Int):Bool:=decide (least≤n) && decide (n≤most)
def dH (m:MsgR):Int :=
 if fJ m.id 0 65535 && fJ m.op 0 15 && fJ m.rcode 0 15 && (decide (m.size=0) || fJ m.size 512 65535) && (decide (m.qs.length≤10) && m.qs.all tE) && (eW m.an && eW m.au && eW m.ex) then 0 else 1
def AppU (B:Nat) (o:List UInt8) (l:List RSet) (d:DeltaR) (q:Value) (w:World):Prop:=∃ y,q=.tuple #[.agg #[aI (FB o l d),y], .int .i64 (rS o l d)]∧SetsO B w y (HJ o l d)
theorem AppU.bad {B:Nat} {o:List UInt8} {l:List RSet} {d:DeltaR} {e:Int} {w:World} (h:rS o l d=e) (he:e≠0):AppU B o l d (.tuple #[.agg mU.toArray, .int .i64 e]) w:=by
 refine ⟨.slice none 0 0,?_,?_⟩
 ·rw [FB,if_neg (by rw [h];exact he),h];rfl
 ·rw [HJ,if_neg (by rw [h];exact he)];exact SetsO.nil _ _
end Go.Proofs.X
