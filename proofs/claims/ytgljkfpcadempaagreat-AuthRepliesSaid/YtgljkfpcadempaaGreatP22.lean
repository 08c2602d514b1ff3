/- Laws and walks that the proof of the statement is made of (part 22). -/
import Derived.Test.YtgljkfpcadempaaGreatP21
set_option linter.unusedSimpArgs false
set_option linter.unusedVariables false
namespace Go.Proofs.X
open Go.RowKit
set_option maxRecDepth 100000
theorem BV {l:List RSet} {n:List UInt8} {kq:Int} (h:cX l=0) (hl:(aZ l n).length≤200) (j:Nat):(aX (((aZ l n).take j).filter (bP kq))).length≤4000:=by
 have h1:(((aZ l n).take j).filter (bP kq)).length≤200:=Nat.le_trans (List.length_filter_le _ _) (by rw [List.length_take];omega)
 have h2:=qM (L:=((aZ l n).take j).filter (bP kq)) fun s hs=>(fF h (List.mem_of_mem_take (List.mem_filter.1 hs).1)).2.1
 omega
theorem kV {L:List RSet} {kq:Int} {j:Nat} (h:j < L.length):(L.take (j + 1)).any (bP kq)=((L.take j).any (bP kq) || bP kq L[j]):=by
 rw [List.take_succ_eq_append_getElem h,List.any_append]
 simp
theorem qP {L:List RSet} {kq:Int} {j:Nat} (h:j < L.length) (hk:bP kq L[j]=true):aX ((L.take (j + 1)).filter (bP kq))=aX ((L.take j).filter (bP kq)) ++ cE L[j]:=by
 rw [List.take_succ_eq_append_getElem h,List.filter_append]
 simp [hk,aX]
theorem GF {L:List RSet} {kq:Int} {j:Nat} (h:j < L.length) (hk:bP kq L[j]=false):(L.take (j + 1)).filter (bP kq)=(L.take j).filter (bP kq):=by
 rw [List.take_succ_eq_append_getElem h,List.filter_append]
 simp [hk]
theorem wK {α:Type} {L:List α} {j:Nat} (h:j < L.length):(L.take (j + 1)).drop j=[L[j]]:=by
 rw [List.take_succ_eq_append_getElem h,List.drop_append_of_le_length (by rw [List.length_take];omega),List.drop_of_length_le (by rw [List.length_take];omega)]
 rfl
theorem OD {w w':World} {r:Value} {o:Option RSet} (h:match o with
 | some s=>∃ x,r=.tuple #[.agg #[aI s.name, .int .i64 s.kind, .int .i64 s.ttl,x], .bool true]∧Own w.heap.size 1 9 w' x (aP s.data)
 | none=>r=.tuple #[.agg fX.toArray, .bool false]):∃ x,r=.tuple #[.agg #[aI (o.getD bW).name, .int .i64 (o.getD bW).kind, .int .i64 (o.getD bW).ttl,x], .bool o.isSome]∧Own w.heap.size 1 9 w' x (aP (o.getD bW).data):=by
 cases o with
 | none=>exact ⟨.slice none 0 0,h,Own.nil _ _ _ _⟩
 | some s=>exact h
set_option maxHeartbeats 8000000 in
theorem TJ (o:List UInt8) (v:Value) (l:List RSet) (q:List UInt8) (kq:Int) (w:World) (hv:SetsAt w v l) (hb:∀ s ∈ l,s.data.length≤1000000) (hd:∀ s ∈ l,∀ d ∈ s.data,d.length≤4611686018427387904) :
 Calls Tryz.prog 35 #[.agg #[aI o,v], .agg #[aI q, .int .i64 kq]] w (oA w fun r w'=>∃ y,r=.tuple #[y, .int .i64 (mV o l q)]∧AnsO w.heap.size (pQ o l q kq) y w'):=by
 go_enter Tryz.func35,Tryz.ntmps35
 refine_lift zN ?_;intro _ _ _
 refine bJ (vs:=[aI o,v]) rfl rfl ?_
 intro p w1 x1 hp
 refine aA ?_
 refine bJ (vs:=[aI q, .int .i64 kq]) rfl rfl ?_
 intro pq w2 x2 hq
 refine aA ?_
 refine aL (z:=kN) rfl (by decide +kernel) ?_
 intro w3 x3 s3 h3
 refine aA ?_
 have hx3:=x1.trans (x2.trans x3)
 have hp3:=hp.ext (x2.trans x3)
 have hq3:=hq.ext x3
 have hv3:=hv.ext hx3
 have z2:=(x1.trans x2).size
 generalize w2.heap.size=AB at *
 refine_lift dJ fun _ _ => ?_
 refine aD (enters_of Tryz.func74 rfl rfl) rfl rfl (yC o v l _ hv3 hb hd) ?_;intro w4 x4;refine aA ?_
 have h4:=x4.at h3
 have hx4:=hx3.trans x4
 have hp4:=hp3.ext x4
 have hq4:=hq3.ext x4
 have hv4:=hv3.ext x4
 have ret0:∀ e:Int,e≠0→mV o l q=e→pQ o l q kq=IN:=fun e he h=>by rw [pQ,if_pos (by rw [h];exact he)]
 refine_lift WC (fun _ _ _ _ _ => ?_) (fun _ _ _ _ _ => ?_)
 ·have q1:¬ bZ o l=0:=by simpa using (by assumption:(!decide (bZ o l=0))=true)
  have hE:mV o l q=bZ o l:=by rw [mV,if_pos q1]
  refine cH (v:=.agg kN.toArray) rfl (Runs.build0 (by kernel_rfl)) ?_
  refine aA ?_
  refine_lift bG ?_
  refine aG (v:=.agg kN.toArray) rfl rfl rfl h4 (by decide +kernel) rfl (by decide +kernel) ?_
  intro w5 p5
  refine_lift bG ?_
  refine bodyPost_ret (aU (cs:=kN) rfl rfl p5.this (by decide +kernel)) rfl ⟨_,rfl,hx4.move p5.mv (by rintro k ⟨⟩;exact z2),?_⟩
  rw [ret0 _ q1 hE,hE]
  exact ⟨_,rfl,AnsO.zero _ _⟩
 have q1:bZ o l=0:=by simpa using (by assumption:(!decide (bZ o l=0))=false)
 refine aD (enters_of Tryz.func75 rfl rfl) rfl rfl (BP q _) ?_;intro w5 x5;refine aA ?_
 have h5:=x5.at h4
 have hx5:=hx4.trans x5
 have hp5:=hp4.ext x5
 have hq5:=hq4.ext x5
 have hv5:=hv4.ext x5
 have hE:mV o l q=dM q:=by rw [mV,if_neg (by simp [q1])]
 refine_lift oZ (fun _ _ _ => ?_) (fun _ _ _ => ?_)
 ·have q2:¬ dM q=0:=by simpa using (by assumption:(!decide (dM q=0))=true)
  have q3:dM q=1:=by
   unfold dM at q2 ⊢
   split at q2
   ·exact absurd rfl q2
   ·rw [if_neg ‹_›]
  refine cH (v:=.agg kN.toArray) rfl (Runs.build0 (by kernel_rfl)) ?_
  refine aA ?_
  refine_lift bG ?_
  refine aG (v:=.agg kN.toArray) rfl rfl rfl h5 (by decide +kernel) rfl (by decide +kernel) ?_
  intro w6 p6
  refine_lift bG ?_
  refine bodyPost_ret (aU (cs:=kN) rfl rfl p6.this (by decide +kernel)) rfl ⟨_,rfl,hx5.move p6.mv (by rintro k ⟨⟩;exact z2),?_⟩
  rw [ret0 _ q2 hE,hE,q3]
  exact ⟨_,rfl,AnsO.zero _ _⟩
 have q2:dM q=0:=by simpa using (by assumption:(!decide (dM q=0))=false)
 have hz:=jC q1
 have hl200:=tC hz
 have hA:pQ o l q kq=⟨(cT o l kq 9 0 (fold q)).kind,(cT o l kq 9 0 (fold q)).ans,(cT o l kq 9 0 (fold q)).auth,tY l (nC (cT o l kq 9 0 (fold q)).kind (cT o l kq 9 0 (fold q)).ans (cT o l kq 9 0 (fold q)).auth)⟩:=by rw [pQ,if_neg (by rw [hE];simp [q2])];rfl
 have hlq:(aV (fold q)).isSome=true:=by
  rw [pR]
  unfold dM at q2
  split at q2
  ·assumption
  ·cases q2
 rw [q2] at hE
 clear ret0
 refine aD (enters_of Tryz.func76 rfl rfl) rfl rfl (KV o v l _ hv5 hz) ?_;intro w6 x6;refine aA ?_
 refine_lift bG ?_
 refine aL (z:=KD) rfl (by decide +kernel) ?_
 intro w7 x7 s7 h7
 refine aA ?_
 refine aG (v:=mG (dV o l)) rfl rfl rfl h7 (show aR Tryz.prog 106 4=true by decide +kernel) rfl (eR rfl rfl rfl rfl) ?_
 intro w8 p8
 have x8:Ext w6 w8:=x7.move p8.mv (by rintro k ⟨⟩;exact Nat.le_refl _)
 have b8:w8.heap[w6.heap.size]? = some (.cells [aI (dV o l).name, .int .i64 (dV o l).kind, .int .i64 (dV o l).ttl,aI (dV o l).data].toArray 106 (0,0)):=p8.this
 have hd8:=aE b8
 have zD:=(Array.getElem?_eq_some_iff.1 b8).1
 have x58:=x6.trans x8
 have h8:=x58.at h5
 have hx8:=hx5.trans x58
 have hp8:=hp5.ext x58
 have hq8:=hq5.ext x58
 have hv8:=hv5.ext x58
 clear p8 h7 x7
 generalize w6.heap.size=DB at *
 refine_lift dJ fun _ _ => ?_
 refine cH (v:=.agg kN.toArray) rfl (Runs.build0 (by kernel_rfl)) ?_
 refine aA ?_
 refine_lift bG ?_
 refine aL (z:=kN) rfl (by decide +kernel) ?_
 intro w9 x9 s9 h9
 refine aA ?_
 refine aG (v:=.agg kN.toArray) rfl rfl rfl h9 (by decide +kernel) rfl (by decide +kernel) ?_
 intro w10 p10
 have x10:Ext w8 w10:=x9.move p10.mv (by rintro k ⟨⟩;exact Nat.le_refl _)
 have b10:w10.heap[w8.heap.size]? = some (.cells kN.toArray 75 (0,0)):=p10.this
 have h10:=x10.at h8
 have hx10:=hx8.trans x10
 have hp10:=hp8.ext x10
 have hq10:=hq8.ext x10
 have hv10:=hv8.ext x10
 have hd10:=hd8.ext x10
 clear p10 h9 x9
 refine_lift dJ fun _ _ => ?_
 refine aD (enters_of Tryz.func36 rfl rfl) rfl rfl (kG q _) ?_;intro w11 x11;refine aA ?_
 have x811:=x10.trans x11
 have b11:=x11.at b10
 refine_lift dJ fun _ _ => ?_
 go_loopw [10,11,12,13,16,17,18] (fun nv iv _ _ _ _ _ wr=>∃ (c:Nat) (n:List UInt8) (a:Value) (A:List Rec),nv=aI n∧iv=.int .i64 c∧c≤8∧Ext w8 wr∧wr.heap[w8.heap.size]? = some (.cells [.int .i64 0,a, .slice none 0 0, .slice none 0 0].toArray 75 (0,0))∧Own w8.heap.size 4 106 wr a (aO A)∧(aV n).isSome=true∧A.length≤20 * c ∧
  (cT o l kq 9 0 (fold q)).kind=(cT o l kq (9 - c) c n).kind∧(cT o l kq 9 0 (fold q)).ans=A ++ (cT o l kq (9 - c) c n).ans∧(cT o l kq 9 0 (fold q)).auth=(cT o l kq (9 - c) c n).auth) (fun _ iv _ _ _ _ _ _=>9 - (intOf iv).toNat)
 case atStart=>exact ⟨0,fold q, .slice none 0 0,[],rfl,rfl,by omega,x811,b11,Own.nil _ _ _ _,hlq,by simp,rfl,rfl,rfl⟩
 case round =>
  obtain ⟨c,n,a,A,rfl,rfl,hc,hx,hbr,oa,hln,hAl,e1,e2,e3⟩:=hrel
  have hqr:=hq8.ext hx
  have hpr:=hp8.ext hx
  have hvr:=hv8.ext hx
  have qbr:=aE (cs:=[.int .i64 0,a, .slice none 0 0, .slice none 0 0]) hbr
  have hne:a.ownBlock≠some w8.heap.size:=oa.neBlock hbr (by decide)
  have eu:cT o l kq (9 - c) c n=if (bX o l n kq c).more=true then
   ⟨(cT o l kq (8 - c) (c + 1) (bX o l n kq c).next).kind,(bX o l n kq c).ans ++ (cT o l kq (8 - c) (c + 1) (bX o l n kq c).next).ans,(cT o l kq (8 - c) (c + 1) (bX o l n kq c).next).auth,[],false⟩
   else bX o l n kq c:=by rw [show 9 - c=(8 - c) + 1 by omega,cT]
  rw [eu] at e1 e2 e3
  clear eu
  refine_lift XK ?_;intro _ _ _ _ _ _ _ _
  refine aD (enters_of Tryz.func52 rfl rfl) rfl rfl (mS n o _) ?_;intro w2 x2;refine aA ?_
  have y2:=hx.trans x2
  have bb2:=x2.at hbr
  have oa2:=oa.ext x2
  have qb2:=qbr.ext x2
  have hv2:=hvr.ext x2
  cases hu:bQ n o with
  | false =>
   refine_lift oZ (fun _ _ _ => ?_) (fun _ _ _ => ?_)
   ·have hc0:(c:Int)=0:=by assumption
    refine aM (n:=0) bb2 rfl rfl rfl (by simp) (by decide +kernel) rfl ?_
    intro w3 p3
    have bb3:w3.heap[w8.heap.size]? = some (.cells [.int .i64 4,a, .slice none 0 0, .slice none 0 0].toArray 75 (0,0)):=p3.this
    have y3:Ext w8 w3:=y2.move p3.mv (by rintro k ⟨⟩;exact Nat.le_refl _)
    have oa3:=oa2.mv p3.mv (.inr hne)
    have hr:bX o l n kq c=⟨4,[],[],[],false⟩:=by rw [bX,if_pos hu,if_pos hc0]
    rw [hr] at e1 e2 e3
    simp only [Bool.false_eq_true,if_false,List.append_nil] at e1 e2 e3
    have on3:=Own.nil w8.heap.size 4 106 w3
    have hRk:(cT o l kq 9 0 (fold q)).kind=4:=e1
    have hRa:(cT o l kq 9 0 (fold q)).ans=A:=e2
    have hRu:(cT o l kq 9 0 (fold q)).auth=[]:=e3
    have hfit:=fS hz kq 9 0 (fold q)
    have hlen:=iP (o:=o) hz.chk hl200 kq 9 0 (fold q)
    rw [hRk,hRa,hRu] at hfit hA
    rw [hRa,hRu] at hlen
    have bEnd:=aE (cs:=[.int .i64 4,a,(.slice none 0 0), .slice none 0 0]) bb3
    have pEnd:=hp8.ext y3
    refine_lift dJ fun _ _ => ?_
    refine aK (enters_of Tryz.func77 rfl rfl) rfl rfl (mJ o v l 4 A [] a (.slice none 0 0) _ (hv8.ext y3) oa3.sl on3.sl hz (by omega) (by omega) (fun r hr=>(hfit r hr).1) (fun r hr=>(hfit r hr).2)) ?_
    intro rE wE xE hrE
    obtain ⟨yE,rfl,oE⟩:=hrE
    have xF:=y3.trans xE
    have hF:=xF.at h8
    have aF:=oa3.ext xE
    have uF:=on3.ext xE
    have zF:=y3.size
    have zw:w.heap.size≤w8.heap.size:=hx8.size
    refine_lift bG ?_
    refine aG (v:=.agg #[.int .i64 4,a,(.slice none 0 0),yE]) rfl rfl rfl hF (show aR Tryz.prog 75 4=true by decide +kernel) rfl (eR rfl aF.sl.one uF.sl.one oE.sl.one) ?_
    intro wG pG
    refine_lift bG ?_
    refine bodyPost_ret (aU (cs:=[.int .i64 4,a,(.slice none 0 0),yE]) rfl rfl pG.this (show cP Tryz.prog 75 4=true by decide +kernel)) rfl ⟨_,rfl,(hx8.trans xF).move pG.mv (by rintro k ⟨⟩;exact z2),?_⟩
    rw [hA,hE]
    exact ⟨_,rfl,a,(.slice none 0 0),yE,rfl,(aF.mv pG.mv (.inr (aF.neBlock hF (by decide)))).weaken zw,(uF.mv pG.mv (.inr (uF.neBlock hF (by decide)))).weaken zw,(oE.mv pG.mv (.inr (oE.neBlock hF (by decide)))).weaken (by omega)⟩
   ·have hc0:¬ (c:Int)=0:=by assumption
    have hr:bX o l n kq c=⟨0,[],[],[],false⟩:=by rw [bX,if_pos hu,if_neg hc0]
    rw [hr] at e1 e2 e3
    simp only [Bool.false_eq_true,if_false,List.append_nil] at e1 e2 e3
    have on3:=Own.nil w8.heap.size 4 106 w2
    have hRk:(cT o l kq 9 0 (fold q)).kind=0:=e1
    have hRa:(cT o l kq 9 0 (fold q)).ans=A:=e2
    have hRu:(cT o l kq 9 0 (fold q)).auth=[]:=e3
    have hfit:=fS hz kq 9 0 (fold q)
    have hlen:=iP (o:=o) hz.chk hl200 kq 9 0 (fold q)
    rw [hRk,hRa,hRu] at hfit hA
    rw [hRa,hRu] at hlen
    have bEnd:=aE (cs:=[.int .i64 0,a,(.slice none 0 0), .slice none 0 0]) bb2
    have pEnd:=hp8.ext y2
    refine_lift bG ?_
    refine aK (enters_of Tryz.func77 rfl rfl) rfl rfl (mJ o v l 0 A [] a (.slice none 0 0) _ (hv8.ext y2) oa2.sl on3.sl hz (by omega) (by omega) (fun r hr=>(hfit r hr).1) (fun r hr=>(hfit r hr).2)) ?_
    intro rE wE xE hrE
    obtain ⟨yE,rfl,oE⟩:=hrE
    have xF:=y2.trans xE
    have hF:=xF.at h8
    have aF:=oa2.ext xE
    have uF:=on3.ext xE
    have zF:=y2.size
    have zw:w.heap.size≤w8.heap.size:=hx8.size
    refine_lift bG ?_
    refine aG (v:=.agg #[.int .i64 0,a,(.slice none 0 0),yE]) rfl rfl rfl hF (show aR Tryz.prog 75 4=true by decide +kernel) rfl (eR rfl aF.sl.one uF.sl.one oE.sl.one) ?_
    intro wG pG
    refine_lift bG ?_
    refine bodyPost_ret (aU (cs:=[.int .i64 0,a,(.slice none 0 0),yE]) rfl rfl pG.this (show cP Tryz.prog 75 4=true by decide +kernel)) rfl ⟨_,rfl,(hx8.trans xF).move pG.mv (by rintro k ⟨⟩;exact z2),?_⟩
    rw [hA,hE]
    exact ⟨_,rfl,a,(.slice none 0 0),yE,rfl,(aF.mv pG.mv (.inr (aF.neBlock hF (by decide)))).weaken zw,(uF.mv pG.mv (.inr (uF.neBlock hF (by decide)))).weaken zw,(oE.mv pG.mv (.inr (oE.neBlock hF (by decide)))).weaken (by omega)⟩
  | true =>
   have hu':¬ bQ n o=false:=by simp [hu]
   have c39:∀ w',SetsAt w' v l→Calls Tryz.prog 78 #[.agg #[aI o,v],aI n] w' (bM w' (.tuple #[aI (eH o l n).1, .bool (eH o l n).2])):=fun w' h=>by
    have:=TI o v l n w' h hb hd q1
    rw [tX hz.chk] at this
    exact this
   have hp2:=hp8.ext y2
   refine_lift dJ fun _ _ => ?_
   refine aD (enters_of Tryz.func78 rfl rfl) rfl rfl (c39 _ hv2) ?_;intro w3 x3;refine aA ?_
   have y3:=y2.trans x3
   have bb3:=x3.at bb2
   have oa3:=oa2.ext x3
   have hp3':=hp8.ext y3
   have hv3':=hv8.ext y3
   cases hcu:(eH o l n).2 with
   | true =>
    refine_lift LQ fun _ _ _ _ _ => ?_
    refine aK (enters_of Tryz.func79 rfl rfl) rfl rfl (nR v l (eH o l n).1 2 _ hv3' hb) ?_
    intro r4 w4 x4 hr4
    obtain ⟨y4,rfl,hy4⟩:=OD hr4
    clear hr4
    refine_lift bG ?_
    refine aL (z:=fX) rfl (by decide +kernel) ?_
    intro w5 x5 s5 h5
    refine aA ?_
    refine aG (v:=.agg #[aI ((bB l (eH o l n).1 2).getD bW).name, .int .i64 ((bB l (eH o l n).1 2).getD bW).kind, .int .i64 ((bB l (eH o l n).1 2).getD bW).ttl,y4]) rfl rfl rfl h5 (show aR Tryz.prog 131 4=true by decide +kernel) rfl (eR rfl rfl rfl hy4.sl.one) ?_
    intro w6 p6
    have x6:Ext w4 w6:=x5.move p6.mv (by rintro k ⟨⟩;exact Nat.le_refl _)
    have e6:w6.heap[w4.heap.size]? = some (.cells [aI ((bB l (eH o l n).1 2).getD bW).name, .int .i64 ((bB l (eH o l n).1 2).getD bW).kind, .int .i64 ((bB l (eH o l n).1 2).getD bW).ttl,y4].toArray 131 (0,0)):=p6.this
    have h6:=aE (cs:=[aI ((bB l (eH o l n).1 2).getD bW).name, .int .i64 ((bB l (eH o l n).1 2).getD bW).kind, .int .i64 ((bB l (eH o l n).1 2).getD bW).ttl,y4]) p6.this
    have x36:=x4.trans x6
    have y6':=y3.trans x36
    have bb6:=x36.at bb3
    have oa6:=oa3.ext x36
    have hy6:=hy4.ext x6
    have qb6:=aE (cs:=[.int .i64 0,a, .slice none 0 0, .slice none 0 0]) bb6
    clear p6 h5 x5
    refine_lift dJ fun _ _ => ?_
    refine aM (n:=0) bb6 rfl rfl rfl (by simp) (by decide +kernel) rfl ?_
    intro w7 p7
    have bb7:w7.heap[w8.heap.size]? = some (.cells [.int .i64 3,a, .slice none 0 0, .slice none 0 0].toArray 75 (0,0)):=p7.this
    have zb:w8.heap.size < w4.heap.size:=Nat.lt_of_lt_of_le (Array.getElem?_eq_some_iff.1 bb3).1 x4.size
    have y7:Ext w8 w7:=y6'.move p7.mv (by rintro k ⟨⟩;exact Nat.le_refl _)
    have e7:=aE (p7.at e6 (by omega))
    have hy7:=(hy6.mv p7.mv (.inr (hy6.neBlock bb6 (by decide)))).sl
    have oa7:=oa6.mv p7.mv (.inr hne)
    have qb7:=aE bb7
    clear e6 h6
    refine_lift dJ fun _ _ => ?_
    refine bN (e:=131) (k:=4) (bytes:=56) (xs:=[.agg #[aI ((bB l (eH o l n).1 2).getD bW).name, .int .i64 ((bB l (eH o l n).1 2).getD bW).kind, .int .i64 ((bB l (eH o l n).1 2).getD bW).ttl,y4]]) rfl rfl rfl (by simp [Value.cells]) (by decide +kernel) (by simp) ?_
    intro v9 w9 x9 _ sl9 _
    refine aA ?_
    have hs9:SetsAt w9 v9 [(bB l (eH o l n).1 2).getD bW]:=(SetsC.one (s:=(bB l (eH o l n).1 2).getD bW) (hy7.ext x9)).sets sl9
    have hlen9:(aX [(bB l (eH o l n).1 2).getD bW]).length≤100000:=by
     rw [← eI]
     have:=fI (fun s hs=>(lM (hz.may hs)).2) (eH o l n).1 2
     omega
    refine_lift bG ?_
    refine aK (enters_of Tryz.func80 rfl rfl) rfl rfl (fK v9 _ _ hs9 hlen9) ?_
    intro r10 w10 x10 o10
    rw [← eI] at o10
    refine aA ?_
    have x79:=x9.trans x10
    have y10:=y7.trans x79
    have bb10:=x79.at bb7
    have oa10:=oa7.ext x79
    have qb10:=qb7.ext x79
    have z10:=(y7.trans x9).size
    refine_lift bG ?_
    refine aM (n:=2) bb10 rfl rfl rfl (by simp) (by decide +kernel) o10.sl.one ?_
    intro w11 p11
    have bb11:w11.heap[w8.heap.size]? = some (.cells [.int .i64 3,a,r10, .slice none 0 0].toArray 75 (0,0)):=p11.this
    have y11:Ext w8 w11:=y10.move p11.mv (by rintro k ⟨⟩;exact Nat.le_refl _)
    have oa11:=oa10.mv p11.mv (.inr hne)
    have ou11:=(o10.mv p11.mv (.inr (o10.neBlock bb10 (by decide)))).weaken z10
    have hr:bX o l n kq c=⟨3,[],eO (bB l (eH o l n).1 2),[],false⟩:=by rw [bX,if_neg hu',if_pos hcu]
    rw [hr] at e1 e2 e3
    simp only [Bool.false_eq_true,if_false,List.append_nil] at e1 e2 e3
    have hRk:(cT o l kq 9 0 (fold q)).kind=3:=e1
    have hRa:(cT o l kq 9 0 (fold q)).ans=A:=e2
    have hRu:(cT o l kq 9 0 (fold q)).auth=(eO (bB l (eH o l n).1 2)):=e3
    have hfit:=fS hz kq 9 0 (fold q)
    have hlen:=iP (o:=o) hz.chk hl200 kq 9 0 (fold q)
    rw [hRk,hRa,hRu] at hfit hA
    rw [hRa,hRu] at hlen
    have bEnd:=aE (cs:=[.int .i64 3,a,r10, .slice none 0 0]) bb11
    have pEnd:=hp8.ext y11
    refine_lift dJ fun _ _ => ?_
    refine aK (enters_of Tryz.func77 rfl rfl) rfl rfl (mJ o v l 3 A (eO (bB l (eH o l n).1 2)) a r10 _ (hv8.ext y11) oa11.sl ou11.sl hz (by omega) (by omega) (fun r hr=>(hfit r hr).1) (fun r hr=>(hfit r hr).2)) ?_
    intro rE wE xE hrE
    obtain ⟨yE,rfl,oE⟩:=hrE
    have xF:=y11.trans xE
    have hF:=xF.at h8
    have aF:=oa11.ext xE
    have uF:=ou11.ext xE
    have zF:=y11.size
    have zw:w.heap.size≤w8.heap.size:=hx8.size
    refine_lift bG ?_
    refine aG (v:=.agg #[.int .i64 3,a,r10,yE]) rfl rfl rfl hF (show aR Tryz.prog 75 4=true by decide +kernel) rfl (eR rfl aF.sl.one uF.sl.one oE.sl.one) ?_
    intro wG pG
    refine_lift bG ?_
    refine bodyPost_ret (aU (cs:=[.int .i64 3,a,r10,yE]) rfl rfl pG.this (show cP Tryz.prog 75 4=true by decide +kernel)) rfl ⟨_,rfl,(hx8.trans xF).move pG.mv (by rintro k ⟨⟩;exact z2),?_⟩
    rw [hA,hE]
    exact ⟨_,rfl,a,r10,yE,rfl,(aF.mv pG.mv (.inr (aF.neBlock hF (by decide)))).weaken zw,(uF.mv pG.mv (.inr (uF.neBlock hF (by decide)))).weaken zw,(oE.mv pG.mv (.inr (oE.neBlock hF (by decide)))).weaken (by omega)⟩
   | false =>
    have hcu':¬ (eH o l n).2=true:=by simp [hcu]
    refine_lift vZ fun _ _ _ => ?_
    refine aK (enters_of Tryz.func81 rfl rfl) rfl rfl (RF o v l n n _ hv3' (by omega) hb) ?_
    intro u4 w4 x4 hs4
    refine aA ?_
    have hv4':=hv3'.ext x4
    have hp4':=hp3'.ext x4
    refine_lift xI fun _ _ _ _ => ?_
    refine aD (enters_of Tryz.func82 rfl rfl) rfl rfl (GA o v l n _ hv4') ?_;intro w5 x5;refine aA ?_
    rw [zG hu]
    have x35:=x4.trans x5
    have y5:=y3.trans x35
    have bb5:=x35.at bb3
    have oa5:=oa3.ext x35
    have hs5:=(hs4.ext x5).weaken y3.size
    have hv5':=hv4'.ext x5
    have hp5':=hp4'.ext x5
    have hq5':=hq8.ext y5
    have hd5':=hd8.ext y5
    have qb5:=aE (cs:=[.int .i64 0,a, .slice none 0 0, .slice none 0 0]) bb5
    cases hi:nV l n with
    | true =>
     have hS:aZ l n=BJ l n n:=by rw [aZ,if_pos hi]
     have hB':¬ pP l n=false:=by simp [pP,hi]
     rw [← hS] at hs5
     obtain ⟨css,ho,hcs⟩:=hs5
     have hol:=ho.sl
     have hcl:=hcs.len
     have hspl:=qL l n
     by_cases hal:(aZ l n).any eN=true∧kq≠5∧kq≠255
     ·obtain ⟨hone,hk5⟩:=zH hz hal.1
      obtain ⟨h51,h52⟩:=hal.2
      have hlen1:(aZ l n).length=1:=by rw [hone];rfl
      have hcl1:css.length=1:=by omega
      obtain ⟨x,hcx,hdx⟩:=hcs.at' 0 (bF l n) (by rw [hone];rfl)
      have hmem:bF l n ∈ aZ l n:=by rw [hone];simp
      have elx:=hol.elem hcx
      rw [hk5] at elx
      obtain ⟨hrne,hd20,hd1⟩:=fF hz.chk hmem
      have hdl:((bF l n).data.getD 0 []).length≤4611686018427387904:=by
       obtain ⟨t,ht,_,_,e9,_⟩:=iY hz.chk hmem
       have:=gD hz t ht ((bF l n).data.getD 0 []) (by rw [e9,List.getD_eq_getElem?_getD,List.getElem?_eq_getElem (by rw [← e9];omega)];simp)
       omega
      have hd0:(aP (bF l n).data)[0]? = some [aI ((bF l n).data.getD 0 [])]:=iW _ _ _ (by rw [List.getD_eq_getElem?_getD,List.getElem?_eq_getElem (by omega)];simp)
      (repeat' first | ((with_reducible refine cY ?_);go_step) | ((with_reducible refine cJ ?_);first | refine iZ ?_ | (refine dD ?_ ?_ <;> intro hc)) | fail)
      all_goals first
       | (exfalso
          have q9:(!decide (kq=255))=false:=by assumption
          simp [h52] at q9;done)
       | (exfalso
          have q9:(!decide (kq=5))=false:=by assumption
          simp [h51] at q9;done)
       | (exfalso
          have q9:¬ 0 < (css.length:Int):=by assumption
          omega)
       | skip
      ·have hc8:(c:Int)=8:=by assumption
       have hr:bX o l n kq c=⟨0,[],[],[],false⟩:=by rw [bX,if_neg hu',if_neg hcu',if_neg hB',if_pos hal,if_pos hc8]
       rw [hr] at e1 e2 e3
       simp only [Bool.false_eq_true,if_false,List.append_nil] at e1 e2 e3
       have on3:=Own.nil w8.heap.size 4 106 w5
       have hRk:(cT o l kq 9 0 (fold q)).kind=0:=e1
       have hRa:(cT o l kq 9 0 (fold q)).ans=A:=e2
       have hRu:(cT o l kq 9 0 (fold q)).auth=[]:=e3
       have hfit:=fS hz kq 9 0 (fold q)
       have hlen:=iP (o:=o) hz.chk hl200 kq 9 0 (fold q)
       rw [hRk,hRa,hRu] at hfit hA
       rw [hRa,hRu] at hlen
       have bEnd:=aE (cs:=[.int .i64 0,a,(.slice none 0 0), .slice none 0 0]) bb5
       have pEnd:=hp8.ext y5
       refine_lift bG ?_
       refine aK (enters_of Tryz.func77 rfl rfl) rfl rfl (mJ o v l 0 A [] a (.slice none 0 0) _ (hv8.ext y5) oa5.sl on3.sl hz (by omega) (by omega) (fun r hr=>(hfit r hr).1) (fun r hr=>(hfit r hr).2)) ?_
       intro rE wE xE hrE
       obtain ⟨yE,rfl,oE⟩:=hrE
       have xF:=y5.trans xE
       have hF:=xF.at h8
       have aF:=oa5.ext xE
       have uF:=on3.ext xE
       have zF:=y5.size
       have zw:w.heap.size≤w8.heap.size:=hx8.size
       refine_lift bG ?_
       refine aG (v:=.agg #[.int .i64 0,a,(.slice none 0 0),yE]) rfl rfl rfl hF (show aR Tryz.prog 75 4=true by decide +kernel) rfl (eR rfl aF.sl.one uF.sl.one oE.sl.one) ?_
       intro wG pG
       refine_lift bG ?_
       refine bodyPost_ret (aU (cs:=[.int .i64 0,a,(.slice none 0 0),yE]) rfl rfl pG.this (show cP Tryz.prog 75 4=true by decide +kernel)) rfl ⟨_,rfl,(hx8.trans xF).move pG.mv (by rintro k ⟨⟩;exact z2),?_⟩
       rw [hA,hE]
       exact ⟨_,rfl,a,(.slice none 0 0),yE,rfl,(aF.mv pG.mv (.inr (aF.neBlock hF (by decide)))).weaken zw,(uF.mv pG.mv (.inr (uF.neBlock hF (by decide)))).weaken zw,(oE.mv pG.mv (.inr (oE.neBlock hF (by decide)))).weaken (by omega)⟩
      ·have hc8:¬ (c:Int)=8:=by assumption
       have hr:bX o l n kq c=⟨0,cE (bF l n),[],fold (aY 5 ((bF l n).data.getD 0 [])).1,true⟩:=by rw [bX,if_neg hu',if_neg hcu',if_neg hB',if_pos hal,if_neg hc8]
       rw [hr] at e1 e2 e3
       simp only [if_true] at e1 e2 e3
       rw [← List.append_assoc] at e2
       refine bV 5 (Ext w5) (by decide +kernel) ?_
       intro v1 k1 _
       refine ⟨k1,?_⟩
       refine cV 0 ?_;refine cV 1 ?_;refine cV 2 ?_
       refine bD (i:=3) (v:=dU u4 4 0 1) rfl rfl (by decide +kernel) (by decide +kernel) (by decide +kernel) (by decide +kernel) (by decide +kernel) rfl (fun w' hF=>Runs.take (k:=4) (n:=1) (es:=css) rfl (hol.ext hF) (by omega) (by decide +kernel)) (fun _ _ _ h=>h) ?_
       refine aA ?_
       refine bE (i:=4) (by decide +kernel) rfl rfl ?_
       have hs6:SetsAt v1 (dU u4 4 0 1) [bF l n]:=by
        have g1:=((hcs.sets.ext k1).take 1).drop 0
        rw [hone] at g1
        exact g1.sets ((hol.ext k1).cut (by omega) (by omega))
       refine aK (enters_of Tryz.func80 rfl rfl) rfl rfl (fK _ _ _ hs6 (by rw [dF,cE,List.length_map];omega)) ?_
       intro r2 v2 k2 o2
       rw [dF] at o2
       refine aA ?_
       have k02:=k1.trans k2
       have bb9:=k02.at bb5
       have oa9:=oa5.ext k02
       refine aJ ⟨cC k02,?_⟩
       refine bE (i:=5) (by decide +kernel) rfl rfl ?_
       refine bU (e:=106) (k:=4) rfl oa9 rfl o2.sl eA (y5.trans k02).size (by rw [aQ,aQ,cE,List.length_map];omega) ?_
       intro a3 v3 o3 m3 _
       refine aA ?_
       have bb10:=m3.at bb9 (fun e=>hne e.symm)
       have y10:=oa9.mvx m3 (y5.trans k02) (Nat.le_refl _)
       have hs8:=(ho.ext k02).mv m3 ((ho.ext k02).ne oa9 (by decide))
       have hrc:aO A ++ aO (cE (bF l n))=aO (A ++ cE (bF l n)):=by simp [aO]
       rw [hrc] at o3
       refine aJ ⟨bT rfl,?_⟩
       refine zL 6 ?_
       refine bE (i:=7) (by decide +kernel) rfl rfl ?_
       refine aM (n:=1) bb10 rfl rfl rfl (by simp) (by decide +kernel) o3.sl.one ?_
       intro v4 p4
       refine aJ ⟨bT rfl,?_⟩
       refine cN (by decide +kernel) ?_
       have bb11:v4.heap[w8.heap.size]? = some (.cells [.int .i64 0,a3, .slice none 0 0, .slice none 0 0].toArray 75 (0,0)):=p4.this
       have y11:Ext w8 v4:=y10.move p4.mv (by rintro k ⟨⟩;exact Nat.le_refl _)
       have ho11:=hs8.mv p4.mv (.inr (hs8.neBlock bb10 (by decide)))
       have oa11:=o3.mv p4.mv (.inr (o3.neBlock bb10 (by decide)))
       clear hol
       have hol:=ho11.sl
       have el9:=hol.elem hcx
       have hx11:Sl 1 v4 x (aP (bF l n).data):=(((hdx.ext k02).mv m3 ((hdx.ext k02).ne oa9 (by decide))).mv p4.mv (.inr (((hdx.ext k02).mv m3 ((hdx.ext k02).ne oa9 (by decide))).neBlock bb10 (by decide)))).sl
       have ed9:=hx11.elem hd0
       have htl:=bA (bF l n).data
       refine_lift dJ fun _ _ => ?_
       refine aD (enters_of Tryz.func84 rfl rfl) rfl rfl (nZ 5 ((bF l n).data.getD 0 []) _ hdl) ?_;intro w20 x20;refine aA ?_
       refine_lift dJ fun _ _ => ?_
       refine aD (enters_of Tryz.func36 rfl rfl) rfl rfl (kG (aY 5 ((bF l n).data.getD 0 [])).1 _) ?_;intro w21 x21;refine aA ?_
       refine_lift bG ?_
       have x2021:=x20.trans x21
       refine ⟨⟨c + 1,_,a3,A ++ cE (bF l n),rfl,by go_num,by omega,y11.trans x2021,x2021.at bb11,oa11.ext x2021,pT _ _,by simp only [List.length_append,cE,List.length_map];omega,?_,?_,?_⟩,by simp [intOf];omega⟩
       ·rw [e1,show 9 - (c + 1)=8 - c by omega];rfl
       ·rw [e2,show 9 - (c + 1)=8 - c by omega];rfl
       ·rw [e3,show 9 - (c + 1)=8 - c by omega];rfl
     ·clear hq5'
      refine_lift xI fun _ _ _ _ => ?_
      refine JC (J:=fun a' w'=>w'=w5∧∃ ts:List Value,a'=Act.mk ts.toArray []∧ts.length=199∧ts.getD 2 undef=p∧ts.getD 3 undef=pq∧ts.getD 4 undef=.pointer (some ⟨AB,0,none⟩)∧ts.getD 7 undef=.pointer (some ⟨DB,0,none⟩)∧ts.getD 9 undef=.pointer (some ⟨w8.heap.size,0,none⟩)∧ts.getD 16 undef=u4∧ts.getD 127 undef=.bool false) ?_ ?_
      ·have hq5':=hq8.ext y5
       rcases Nat.eq_zero_or_pos (aZ l n).length with hz0 | hz0
       ·refine_lift xH (fun hc hc hc => ?_) (fun hc hc => ?_) (fun hc => ?_) (fun hc hc hc => ?_)
        all_goals first
         | (have hh:False:=by have q9:0 < (css.length:Int):=by assumption
                              omega
            exact hh.elim)
         | exact .inl ⟨rfl,rfl,_,rfl,rfl,rfl,rfl,rfl,rfl,rfl,rfl,rfl⟩
       ·obtain ⟨x,hcx,hdx⟩:=hcs.at' 0 (aZ l n)[0] (by rw [List.getElem?_eq_getElem hz0])
        have elx:=hol.elem hcx
        have hkh:kq=5∨kq=255∨(aZ l n)[0].kind≠5:=by
         by_cases h5:(aZ l n)[0].kind=5
         ·by_cases h6:kq=5
          ·exact .inl h6
          ·by_cases h7:kq=255
           ·exact .inr (.inl h7)
           ·exact absurd ⟨List.any_eq_true.2 ⟨_,List.getElem_mem hz0,by simp [eN,h5]⟩,h6,h7⟩ hal
         ·exact .inr (.inr h5)
        refine_lift xH (fun hc hc hc => ?_) (fun hc hc => ?_) (fun hc => ?_) (fun hc hc hc => ?_)
        all_goals first
         | (have hh:False:=by have q9:¬ 0 < (css.length:Int):=by assumption
                              omega
            exact hh.elim)
         | (have hh:False:=by
             have q9:(aZ l n)[0].kind=5:=by assumption
             have q8:(!decide (kq=5))=true:=by assumption
             have q7:(!decide (kq=255))=true:=by assumption
             simp at q8 q7
             exact hkh.elim q8 (fun h=>h.elim q7 (fun h=>h q9))
            exact hh.elim)
         | (have q8:(!decide (kq=5))=true:=by assumption
            have q7:(!decide (kq=255))=true:=by assumption
            simp at q8 q7
            have q9:¬ (aZ l n)[0].kind=5:=fun h=>hkh.elim q8 (fun h'=>h'.elim q7 (fun h''=>h'' h))
            exact .inl ⟨rfl,rfl,_,rfl,rfl,rfl,rfl,rfl,rfl,rfl,rfl,congrArg Value.bool (decide_eq_false q9)⟩)
         | exact .inl ⟨rfl,rfl,_,rfl,rfl,rfl,rfl,rfl,rfl,rfl,rfl,rfl⟩
      ·have hq5':=hq8.ext y5
       rintro _ _ ⟨rfl,ts,rfl,hlen,g2,g3,g4,g7,g9,g16,g127⟩
       obtain ⟨f,rfl⟩:∃ f:Nat→Value,ts=[f 0,f 1,f 2,f 3,f 4,f 5,f 6,f 7,f 8,f 9,f 10,f 11,f 12,f 13,f 14,f 15,f 16,f 17,f 18,f 19,f 20,f 21,f 22,f 23,f 24,f 25,f 26,f 27,f 28,f 29,f 30,f 31,f 32,f 33,f 34,f 35,f 36,f 37,f 38,f 39,f 40,f 41,f 42,f 43,f 44,f 45,f 46,f 47,f 48,f 49,f 50,f 51,f 52,f 53,f 54,f 55,f 56,f 57,f 58,f 59,f 60,f 61,f 62,f 63,f 64,f 65,f 66,f 67,f 68,f 69,f 70,f 71,f 72,f 73,f 74,f 75,f 76,f 77,f 78,f 79,f 80,f 81,f 82,f 83,f 84,f 85,f 86,f 87,f 88,f 89,f 90,f 91,f 92,f 93,f 94,f 95,f 96,f 97,f 98,f 99,f 100,f 101,f 102,f 103,f 104,f 105,f 106,f 107,f 108,f 109,f 110,f 111,f 112,f 113,f 114,f 115,f 116,f 117,f 118,f 119,f 120,f 121,f 122,f 123,f 124,f 125,f 126,f 127,f 128,f 129,f 130,f 131,f 132,f 133,f 134,f 135,f 136,f 137,f 138,f 139,f 140,f 141,f 142,f 143,f 144,f 145,f 146,f 147,f 148,f 149,f 150,f 151,f 152,f 153,f 154,f 155,f 156,f 157,f 158,f 159,f 160,f 161,f 162,f 163,f 164,f 165,f 166,f 167,f 168,f 169,f 170,f 171,f 172,f 173,f 174,f 175,f 176,f 177,f 178,f 179,f 180,f 181,f 182,f 183,f 184,f 185,f 186,f 187,f 188,f 189,f 190,f 191,f 192,f 193,f 194,f 195,f 196,f 197,f 198]:=⟨fun i=>ts.getD i undef,GE hlen undef⟩
       change f 2=_ at g2
       change f 3=_ at g3
       change f 4=_ at g4
       change f 7=_ at g7
       change f 9=_ at g9
       change f 16=_ at g16
       change f 127=_ at g127
       rw [g2,g3,g4,g7,g9,g16,g127]
       clear hlen g2 g3 g4 g7 g9 g16 g127
       refine_lift dJ fun _ _ => ?_
       have hMl:((aZ l n).filter (bP kq)).length≤200:=Nat.le_trans (List.length_filter_le _ _) (by omega)
       have hM20:=qM (L:=(aZ l n).filter (bP kq)) fun s hs=>(fF hz.chk (List.mem_filter.1 hs).1).2.1
       have hr:bX o l n kq c=if (aZ l n).filter (bP kq)=[] then ⟨1,[],[dV o l],[],false⟩ else ⟨0,aX ((aZ l n).filter (bP kq)),[],[],false⟩:=by rw [bX,if_neg hu',if_neg hcu',if_neg hB',if_neg hal]
       rw [hr] at e1 e2 e3
       clear hr
       have hjl:∀ j,(aX (((aZ l n).take j).filter (bP kq))).length≤4000:=fun j=>BV hz.chk (by omega) j
       go_loopw [19,20] (fun av kv wr=>∃ (j:Nat) (a':Value) (b:Bool),j≤(aZ l n).length∧b=((aZ l n).take j).any (bP kq)∧av=.bool b∧kv=.int .i64 j∧Ext w8 wr∧wr.heap[w8.heap.size]? = some (.cells [.int .i64 0,a', .slice none 0 0, .slice none 0 0].toArray 75 (0,0))∧Own w8.heap.size 4 106 wr a' (aO (A ++ aX (((aZ l n).take j).filter (bP kq))))∧Own w8.heap.size 4 131 wr u4 css∧SetsW w8.heap.size wr css (aZ l n)) (fun _ kv _=>(aZ l n).length - (intOf kv).toNat)
       case atStart=>exact ⟨0,a,false,Nat.zero_le _,by simp,rfl,rfl,y5,bb5,by simpa [aX] using oa5,ho,hcs⟩
       case round =>
        obtain ⟨j,a',b,hj,hb,rfl,rfl,yr,br,or',hou,hcr⟩:=hrel
        have qr:=aE (cs:=[.int .i64 0,a', .slice none 0 0, .slice none 0 0]) br
        have hqj:=hq8.ext yr
        have hpj:=hp8.ext yr
        have hdj:=hd8.ext yr
        have hlj:=hou.sl
        have hjl0:=hjl j
        by_cases hlt:j < (aZ l n).length
        ·obtain ⟨xj,hcj,hdj⟩:=hcr.at' j (aZ l n)[j] (List.getElem?_eq_getElem hlt)
         have elj:=hlj.elem hcj
         refine_lift GI ?_;intro _ _ _ _ _ _
         by_cases hk1:(aZ l n)[j].kind=kq
         ·have hof:bP kq (aZ l n)[j]=true:=by simp [bP,hk1]
          refine cB (by decide +kernel) (by decide +kernel) ?_
          refine_lift qR ?_
          rw [decide_eq_true hk1]
          refine_lift qR ?_
          intro w2 x2
          have yr2:=yr.trans x2
          have br2:=x2.at br
          have or2:=or'.ext x2
          have hou2:=hou.ext x2
          have hcr2:=hcr.ext x2
          have qr2:=qr.ext x2
          have hlj2:=hou2.sl
          have hne':a'.ownBlock≠some w8.heap.size:=or'.neBlock br (by decide)
          have hr20:=(fF hz.chk (List.getElem_mem hlt)).2.1
          clear br or' hou hcr qr hlj elj hqj hpj
          refine_lift bG ?_
          refine bV 8 (Ext w2) (by decide +kernel) ?_
          intro v1 k1 _
          refine ⟨k1,?_⟩
          refine cV 0 ?_;refine cV 1 ?_;refine cV 2 ?_;refine cV 3 ?_;refine cV 4 ?_;refine cV 5 ?_
          refine bD (i:=6) (v:=dU u4 4 j (j + 1)) rfl rfl (by decide +kernel) (by decide +kernel) (by decide +kernel) (by decide +kernel) (by decide +kernel) rfl (fun w' hF=>Runs.cut (k:=4) (m:=j) (n:=j + 1) (es:=css) rfl rfl (hlj2.ext hF) (by omega) (by omega) (by decide +kernel)) (fun _ _ _ h=>h) ?_
          refine aA ?_
          refine bE (i:=7) (by decide +kernel) rfl rfl ?_
          have hs6:SetsAt v1 (dU u4 4 j (j + 1)) [(aZ l n)[j]]:=by
           have g1:=((hcr2.sets.ext k1).take (j + 1)).drop j
           rw [wK hlt] at g1
           exact g1.sets ((hlj2.ext k1).cut (by omega) (by omega))
          refine aK (enters_of Tryz.func80 rfl rfl) rfl rfl (fK _ _ _ hs6 (by rw [dF,cE,List.length_map];omega)) ?_
          intro r3 v2 k2 o2
          rw [dF] at o2
          refine aA ?_
          have k02:=k1.trans k2
          have bb9:=k02.at br2
          have oa9:=or2.ext k02
          refine aJ ⟨cC k02,?_⟩
          refine bE (i:=8) (by decide +kernel) rfl rfl ?_
          refine bU (e:=106) (k:=4) rfl oa9 rfl o2.sl eA (yr2.trans k02).size (by rw [aQ,aQ,cE,List.length_map,List.length_append];omega) ?_
          intro a3 v3 o3 m3 _
          refine aA ?_
          have bb10:=m3.at bb9 (fun e=>hne' e.symm)
          have y10:=oa9.mvx m3 (yr2.trans k02) (Nat.le_refl _)
          have ho8:=(hou2.ext k02).mv m3 ((hou2.ext k02).ne oa9 (by decide))
          have hc8:=(hcr2.ext k02).mv oa9 (by decide) m3
          have hrc:aO (A ++ aX (((aZ l n).take j).filter (bP kq))) ++ aO (cE (aZ l n)[j])=aO (A ++ aX (((aZ l n).take (j + 1)).filter (bP kq))):=by rw [qP hlt hof];simp [aO]
          rw [hrc] at o3
          refine aJ ⟨bT rfl,?_⟩
          refine zL 9 ?_
          refine bE (i:=10) (by decide +kernel) rfl rfl ?_
          refine aM (n:=1) bb10 rfl rfl rfl (by simp) (by decide +kernel) o3.sl.one ?_
          intro v4 p4
          refine aJ ⟨bT rfl,?_⟩
          refine cN (by decide +kernel) ?_
          have bb11:v4.heap[w8.heap.size]? = some (.cells [.int .i64 0,a3, .slice none 0 0, .slice none 0 0].toArray 75 (0,0)):=p4.this
          have y11:Ext w8 v4:=y10.move p4.mv (by rintro k ⟨⟩;exact Nat.le_refl _)
          have ho11:=ho8.mv p4.mv (.inr (ho8.neBlock bb10 (by decide)))
          have oa11:=o3.mv p4.mv (.inr (o3.neBlock bb10 (by decide)))
          have hc11:=hc8.put bb10 (by decide) p4
          refine_lift bG ?_
          exact ⟨⟨j + 1,a3,true,by omega,by rw [kV hlt,hof,Bool.or_true],rfl,by go_num,y11,bb11,oa11,ho11,hc11⟩,by simp [intOf];omega⟩
         ·by_cases hk2:kq=255
          ·have hof:bP kq (aZ l n)[j]=true:=by simp [bP,hk2]
           refine cB (by decide +kernel) (by decide +kernel) ?_
           refine_lift qR ?_
           rw [decide_eq_false hk1]
           refine_lift qR ?_
           rw [decide_eq_true hk2]
           refine_lift qR ?_
           intro w2 x2
           have yr2:=yr.trans x2
           have br2:=x2.at br
           have or2:=or'.ext x2
           have hou2:=hou.ext x2
           have hcr2:=hcr.ext x2
           have qr2:=qr.ext x2
           have hlj2:=hou2.sl
           have hne':a'.ownBlock≠some w8.heap.size:=or'.neBlock br (by decide)
           have hr20:=(fF hz.chk (List.getElem_mem hlt)).2.1
           clear br or' hou hcr qr hlj elj hqj hpj
           refine_lift bG ?_
           refine bV 8 (Ext w2) (by decide +kernel) ?_
           intro v1 k1 _
           refine ⟨k1,?_⟩
           refine cV 0 ?_;refine cV 1 ?_;refine cV 2 ?_;refine cV 3 ?_;refine cV 4 ?_;refine cV 5 ?_
           refine bD (i:=6) (v:=dU u4 4 j (j + 1)) rfl rfl (by decide +kernel) (by decide +kernel) (by decide +kernel) (by decide +kernel) (by decide +kernel) rfl (fun w' hF=>Runs.cut (k:=4) (m:=j) (n:=j + 1) (es:=css) rfl rfl (hlj2.ext hF) (by omega) (by omega) (by decide +kernel)) (fun _ _ _ h=>h) ?_
           refine aA ?_
           refine bE (i:=7) (by decide +kernel) rfl rfl ?_
           have hs6:SetsAt v1 (dU u4 4 j (j + 1)) [(aZ l n)[j]]:=by
            have g1:=((hcr2.sets.ext k1).take (j + 1)).drop j
            rw [wK hlt] at g1
            exact g1.sets ((hlj2.ext k1).cut (by omega) (by omega))
           refine aK (enters_of Tryz.func80 rfl rfl) rfl rfl (fK _ _ _ hs6 (by rw [dF,cE,List.length_map];omega)) ?_
           intro r3 v2 k2 o2
           rw [dF] at o2
           refine aA ?_
           have k02:=k1.trans k2
           have bb9:=k02.at br2
           have oa9:=or2.ext k02
           refine aJ ⟨cC k02,?_⟩
           refine bE (i:=8) (by decide +kernel) rfl rfl ?_
           refine bU (e:=106) (k:=4) rfl oa9 rfl o2.sl eA (yr2.trans k02).size (by rw [aQ,aQ,cE,List.length_map,List.length_append];omega) ?_
           intro a3 v3 o3 m3 _
           refine aA ?_
           have bb10:=m3.at bb9 (fun e=>hne' e.symm)
           have y10:=oa9.mvx m3 (yr2.trans k02) (Nat.le_refl _)
           have ho8:=(hou2.ext k02).mv m3 ((hou2.ext k02).ne oa9 (by decide))
           have hc8:=(hcr2.ext k02).mv oa9 (by decide) m3
           have hrc:aO (A ++ aX (((aZ l n).take j).filter (bP kq))) ++ aO (cE (aZ l n)[j])=aO (A ++ aX (((aZ l n).take (j + 1)).filter (bP kq))):=by rw [qP hlt hof];simp [aO]
           rw [hrc] at o3
           refine aJ ⟨bT rfl,?_⟩
           refine zL 9 ?_
           refine bE (i:=10) (by decide +kernel) rfl rfl ?_
           refine aM (n:=1) bb10 rfl rfl rfl (by simp) (by decide +kernel) o3.sl.one ?_
           intro v4 p4
           refine aJ ⟨bT rfl,?_⟩
           refine cN (by decide +kernel) ?_
           have bb11:v4.heap[w8.heap.size]? = some (.cells [.int .i64 0,a3, .slice none 0 0, .slice none 0 0].toArray 75 (0,0)):=p4.this
           have y11:Ext w8 v4:=y10.move p4.mv (by rintro k ⟨⟩;exact Nat.le_refl _)
           have ho11:=ho8.mv p4.mv (.inr (ho8.neBlock bb10 (by decide)))
           have oa11:=o3.mv p4.mv (.inr (o3.neBlock bb10 (by decide)))
           have hc11:=hc8.put bb10 (by decide) p4
           refine_lift bG ?_
           exact ⟨⟨j + 1,a3,true,by omega,by rw [kV hlt,hof,Bool.or_true],rfl,by go_num,y11,bb11,oa11,ho11,hc11⟩,by simp [intOf];omega⟩
          ·have hof:bP kq (aZ l n)[j]=false:=by simp [bP,hk1,hk2]
           refine cB (by decide +kernel) (by decide +kernel) ?_
           refine_lift qR ?_
           rw [decide_eq_false hk1]
           refine_lift qR ?_
           rw [decide_eq_false hk2]
           refine_lift qR ?_
           intro w2 x2
           refine_lift bG ?_
           exact ⟨⟨j + 1,a',b,by omega,by rw [kV hlt,hof,Bool.or_false];exact hb,rfl,by go_num,yr.trans x2,x2.at br,by rw [GF hlt hof];exact or'.ext x2,hou.ext x2,hcr.ext x2⟩,by simp [intOf];omega⟩
        ·have hT:(aZ l n).take j=aZ l n:=by rw [show j=(aZ l n).length by omega,List.take_length]
         rw [hT] at or' hb
         clear hjl hjl0 hT
         have on3:=Own.nil w8.heap.size 4 106 wr
         cases b with
         | false =>
          have hF:(aZ l n).filter (bP kq)=[]:=List.filter_eq_nil_iff.2 fun s hs h=>by
           have:=List.any_eq_true.2 ⟨s,hs,h⟩
           rw [← hb] at this
           cases this
          rw [hF] at or'
          rw [if_pos hF] at e1 e2 e3
          simp only [Bool.false_eq_true,if_false,List.append_nil] at e1 e2 e3
          have or9:Own w8.heap.size 4 106 wr a' (aO A):=by simpa [aX] using or'
          clear or'
          refine_lift LQ fun _ _ _ _ _ => ?_
          refine aM (n:=0) br rfl rfl rfl (by simp) (by decide +kernel) rfl ?_
          intro d1 pd1
          have bd1:d1.heap[w8.heap.size]? = some (.cells [.int .i64 1,a', .slice none 0 0, .slice none 0 0].toArray 75 (0,0)):=pd1.this
          have yd1:Ext w8 d1:=yr.move pd1.mv (by rintro k ⟨⟩;exact Nat.le_refl _)
          have rd1:=aE (pd1.at (yr.at b8) (by omega))
          have od1:=or9.mv pd1.mv (.inr (or9.neBlock br (by decide)))
          have qd1:=aE (cs:=[.int .i64 1,a', .slice none 0 0, .slice none 0 0]) bd1
          refine_lift bG ?_
          refine bN (e:=106) (k:=4) (bytes:=48) (xs:=[mG (dV o l)]) rfl rfl rfl (by simp [Value.cells,mG]) (by decide +kernel) (by simp) ?_
          intro v2d d2 xd2 _ sl2d od2'
          refine aA ?_
          have od2:Own d1.heap.size 4 106 d2 v2d (aO [dV o l]):=od2'
          have bd2:=xd2.at bd1
          have qd2:=qd1.ext xd2
          have odA:=od1.ext xd2
          refine_lift bG ?_
          refine aM (n:=2) bd2 rfl rfl rfl (by simp) (by decide +kernel) od2.sl.one ?_
          intro d3 pd3
          have bd3:d3.heap[w8.heap.size]? = some (.cells [.int .i64 1,a',v2d, .slice none 0 0].toArray 75 (0,0)):=pd3.this
          have yd3:Ext w8 d3:=(yd1.trans xd2).move pd3.mv (by rintro k ⟨⟩;exact Nat.le_refl _)
          have odB:=odA.mv pd3.mv (.inr (odA.neBlock bd2 (by decide)))
          have odU:=(od2.mv pd3.mv (.inr (od2.neBlock bd2 (by decide)))).weaken yd1.size
          have hRk:(cT o l kq 9 0 (fold q)).kind=1:=e1
          have hRa:(cT o l kq 9 0 (fold q)).ans=A:=e2
          have hRu:(cT o l kq 9 0 (fold q)).auth=[dV o l]:=e3
          have hfit:=fS hz kq 9 0 (fold q)
          have hlen:=iP (o:=o) hz.chk hl200 kq 9 0 (fold q)
          rw [hRk,hRa,hRu] at hfit hA
          rw [hRa,hRu] at hlen
          have bEnd:=aE (cs:=[.int .i64 1,a',v2d, .slice none 0 0]) bd3
          have pEnd:=hp8.ext yd3
          refine_lift dJ fun _ _ => ?_
          refine aK (enters_of Tryz.func77 rfl rfl) rfl rfl (mJ o v l 1 A [dV o l] a' v2d _ (hv8.ext yd3) odB.sl odU.sl hz (by omega) (by omega) (fun r hr=>(hfit r hr).1) (fun r hr=>(hfit r hr).2)) ?_
          intro rE wE xE hrE
          obtain ⟨yE,rfl,oE⟩:=hrE
          have xF:=yd3.trans xE
          have hF:=xF.at h8
          have aF:=odB.ext xE
          have uF:=odU.ext xE
          have zF:=yd3.size
          have zw:w.heap.size≤w8.heap.size:=hx8.size
          refine_lift bG ?_
          refine aG (v:=.agg #[.int .i64 1,a',v2d,yE]) rfl rfl rfl hF (show aR Tryz.prog 75 4=true by decide +kernel) rfl (eR rfl aF.sl.one uF.sl.one oE.sl.one) ?_
          intro wG pG
          refine_lift bG ?_
          refine bodyPost_ret (aU (cs:=[.int .i64 1,a',v2d,yE]) rfl rfl pG.this (show cP Tryz.prog 75 4=true by decide +kernel)) rfl ⟨_,rfl,(hx8.trans xF).move pG.mv (by rintro k ⟨⟩;exact z2),?_⟩
          rw [hA,hE]
          exact ⟨_,rfl,a',v2d,yE,rfl,(aF.mv pG.mv (.inr (aF.neBlock hF (by decide)))).weaken zw,(uF.mv pG.mv (.inr (uF.neBlock hF (by decide)))).weaken zw,(oE.mv pG.mv (.inr (oE.neBlock hF (by decide)))).weaken (by omega)⟩
         | true =>
          have hF:¬ (aZ l n).filter (bP kq)=[]:=fun h=>by
           obtain ⟨s,hs,hk⟩:=List.any_eq_true.1 hb.symm
           exact List.filter_eq_nil_iff.1 h s hs hk
          rw [if_neg hF] at e1 e2 e3
          simp only [Bool.false_eq_true,if_false,List.append_nil] at e1 e2 e3
          refine_lift vZ fun _ _ _ => ?_
          have hRk:(cT o l kq 9 0 (fold q)).kind=0:=e1
          have hRa:(cT o l kq 9 0 (fold q)).ans=(A ++ aX ((aZ l n).filter (bP kq))):=e2
          have hRu:(cT o l kq 9 0 (fold q)).auth=[]:=e3
          have hfit:=fS hz kq 9 0 (fold q)
          have hlen:=iP (o:=o) hz.chk hl200 kq 9 0 (fold q)
          rw [hRk,hRa,hRu] at hfit hA
          rw [hRa,hRu] at hlen
          have bEnd:=aE (cs:=[.int .i64 0,a',(.slice none 0 0), .slice none 0 0]) br
          have pEnd:=hp8.ext yr
          refine_lift bG ?_
          refine aK (enters_of Tryz.func77 rfl rfl) rfl rfl (mJ o v l 0 (A ++ aX ((aZ l n).filter (bP kq))) [] a' (.slice none 0 0) _ (hv8.ext yr) or'.sl on3.sl hz (by omega) (by omega) (fun r hr=>(hfit r hr).1) (fun r hr=>(hfit r hr).2)) ?_
          intro rE wE xE hrE
          obtain ⟨yE,rfl,oE⟩:=hrE
          have xF:=yr.trans xE
          have hF:=xF.at h8
          have aF:=or'.ext xE
          have uF:=on3.ext xE
          have zF:=yr.size
          have zw:w.heap.size≤w8.heap.size:=hx8.size
          refine_lift bG ?_
          refine aG (v:=.agg #[.int .i64 0,a',(.slice none 0 0),yE]) rfl rfl rfl hF (show aR Tryz.prog 75 4=true by decide +kernel) rfl (eR rfl aF.sl.one uF.sl.one oE.sl.one) ?_
          intro wG pG
          refine_lift bG ?_
          refine bodyPost_ret (aU (cs:=[.int .i64 0,a',(.slice none 0 0),yE]) rfl rfl pG.this (show cP Tryz.prog 75 4=true by decide +kernel)) rfl ⟨_,rfl,(hx8.trans xF).move pG.mv (by rintro k ⟨⟩;exact z2),?_⟩
          rw [hA,hE]
          exact ⟨_,rfl,a',(.slice none 0 0),yE,rfl,(aF.mv pG.mv (.inr (aF.neBlock hF (by decide)))).weaken zw,(uF.mv pG.mv (.inr (uF.neBlock hF (by decide)))).weaken zw,(oE.mv pG.mv (.inr (oE.neBlock hF (by decide)))).weaken (by omega)⟩
    | false =>
     have hS:aZ l n=BJ l (oI l n) n:=by rw [aZ,if_neg (by simp [hi])]
     refine_lift dJ fun _ _ => ?_
     refine bV 5 (Ext w5) (by decide +kernel) ?_
     intro w6 x6 _
     refine ⟨x6,?_⟩
     refine cV 0 ?_;refine cV 1 ?_;refine cV 2 ?_;refine cV 4 ?_
     refine bE (i:=3) (by decide +kernel) rfl rfl ?_
     refine aD (enters_of Tryz.func83 rfl rfl) rfl rfl (QE o v l n _ (hv5'.ext x6) hz hu) ?_;intro w7 x7;refine aA ?_
     have x57:=x6.trans x7
     refine aJ ⟨cC x57,?_⟩
     refine bE (i:=5) (by decide +kernel) rfl rfl ?_
     refine aK (enters_of Tryz.func81 rfl rfl) rfl rfl (RF o v l (oI l n) n _ (hv5'.ext x57) (by omega) hb) ?_
     intro u8 w8' x8' hs8
     refine aA ?_
     have x58':=x57.trans x8'
     refine aJ ⟨bT rfl,?_⟩
     refine zL 6 ?_
     refine cN (by decide +kernel) ?_
     have y8:=y5.trans x58'
     have bb8:=x58'.at bb5
     have oa8:=oa5.ext x58'
     have hs8':=hs8.weaken (y5.trans x57).size
     have hq8':=hq8.ext y8
     have hp8':=hp8.ext y8
     have hd8':=hd8.ext y8
     have qb8:=aE (cs:=[.int .i64 0,a, .slice none 0 0, .slice none 0 0]) bb8
     rw [← hS] at hs8'
     by_cases hB':pP l n=false
     ·have hN:aZ l n=[]:=by
       rw [hS]
       simpa [pP,hi] using hB'
      have hr:bX o l n kq c=⟨2,[],[dV o l],[],false⟩:=by rw [bX,if_neg hu',if_neg hcu',if_pos hB']
      rw [hr] at e1 e2 e3
      simp only [Bool.false_eq_true,if_false,List.append_nil] at e1 e2 e3
      obtain ⟨css,ho,hcs⟩:=hs8'
      have hcl:=hcs.len
      have hsl8:=ho.sl
      rw [hN,List.length_nil] at hcl
      refine_lift vZ fun _ _ _ => ?_
      refine aM (n:=0) bb8 rfl rfl rfl (by simp) (by decide +kernel) rfl ?_
      intro d1 pd1
      have bd1:d1.heap[w8.heap.size]? = some (.cells [.int .i64 2,a, .slice none 0 0, .slice none 0 0].toArray 75 (0,0)):=pd1.this
      have yd1:Ext w8 d1:=y8.move pd1.mv (by rintro k ⟨⟩;exact Nat.le_refl _)
      have rd1:=aE (pd1.at (y8.at b8) (by omega))
      have od1:=oa8.mv pd1.mv (.inr (oa8.neBlock bb8 (by decide)))
      have qd1:=aE (cs:=[.int .i64 2,a, .slice none 0 0, .slice none 0 0]) bd1
      refine_lift dJ fun _ _ => ?_
      refine bN (e:=106) (k:=4) (bytes:=48) (xs:=[mG (dV o l)]) rfl rfl rfl (by simp [Value.cells,mG]) (by decide +kernel) (by simp) ?_
      intro v2d d2 xd2 _ sl2d od2'
      refine aA ?_
      have od2:Own d1.heap.size 4 106 d2 v2d (aO [dV o l]):=od2'
      have bd2:=xd2.at bd1
      have qd2:=qd1.ext xd2
      have odA:=od1.ext xd2
      refine_lift bG ?_
      refine aM (n:=2) bd2 rfl rfl rfl (by simp) (by decide +kernel) od2.sl.one ?_
      intro d3 pd3
      have bd3:d3.heap[w8.heap.size]? = some (.cells [.int .i64 2,a,v2d, .slice none 0 0].toArray 75 (0,0)):=pd3.this
      have yd3:Ext w8 d3:=(yd1.trans xd2).move pd3.mv (by rintro k ⟨⟩;exact Nat.le_refl _)
      have odB:=odA.mv pd3.mv (.inr (odA.neBlock bd2 (by decide)))
      have odU:=(od2.mv pd3.mv (.inr (od2.neBlock bd2 (by decide)))).weaken yd1.size
      have hRk:(cT o l kq 9 0 (fold q)).kind=2:=e1
      have hRa:(cT o l kq 9 0 (fold q)).ans=A:=e2
      have hRu:(cT o l kq 9 0 (fold q)).auth=[dV o l]:=e3
      have hfit:=fS hz kq 9 0 (fold q)
      have hlen:=iP (o:=o) hz.chk hl200 kq 9 0 (fold q)
      rw [hRk,hRa,hRu] at hfit hA
      rw [hRa,hRu] at hlen
      have bEnd:=aE (cs:=[.int .i64 2,a,v2d, .slice none 0 0]) bd3
      have pEnd:=hp8.ext yd3
      refine_lift dJ fun _ _ => ?_
      refine aK (enters_of Tryz.func77 rfl rfl) rfl rfl (mJ o v l 2 A [dV o l] a v2d _ (hv8.ext yd3) odB.sl odU.sl hz (by omega) (by omega) (fun r hr=>(hfit r hr).1) (fun r hr=>(hfit r hr).2)) ?_
      intro rE wE xE hrE
      obtain ⟨yE,rfl,oE⟩:=hrE
      have xF:=yd3.trans xE
      have hF:=xF.at h8
      have aF:=odB.ext xE
      have uF:=odU.ext xE
      have zF:=yd3.size
      have zw:w.heap.size≤w8.heap.size:=hx8.size
      refine_lift bG ?_
      refine aG (v:=.agg #[.int .i64 2,a,v2d,yE]) rfl rfl rfl hF (show aR Tryz.prog 75 4=true by decide +kernel) rfl (eR rfl aF.sl.one uF.sl.one oE.sl.one) ?_
      intro wG pG
      refine_lift bG ?_
      refine bodyPost_ret (aU (cs:=[.int .i64 2,a,v2d,yE]) rfl rfl pG.this (show cP Tryz.prog 75 4=true by decide +kernel)) rfl ⟨_,rfl,(hx8.trans xF).move pG.mv (by rintro k ⟨⟩;exact z2),?_⟩
      rw [hA,hE]
      exact ⟨_,rfl,a,v2d,yE,rfl,(aF.mv pG.mv (.inr (aF.neBlock hF (by decide)))).weaken zw,(uF.mv pG.mv (.inr (uF.neBlock hF (by decide)))).weaken zw,(oE.mv pG.mv (.inr (oE.neBlock hF (by decide)))).weaken (by omega)⟩
     ·have hpos:0 < (aZ l n).length:=by
       rw [hS]
       have hB2:=hB'
       simp [pP,hi] at hB2
       exact List.length_pos_iff.2 hB2
      obtain ⟨css,ho,hcs⟩:=hs8'
      have hol:=ho.sl
      have hcl:=hcs.len
      have hspl:=qL l n
      by_cases hal:(aZ l n).any eN=true∧kq≠5∧kq≠255
      ·obtain ⟨hone,hk5⟩:=zH hz hal.1
       obtain ⟨h51,h52⟩:=hal.2
       have hlen1:(aZ l n).length=1:=by rw [hone];rfl
       have hcl1:css.length=1:=by omega
       obtain ⟨x,hcx,hdx⟩:=hcs.at' 0 (bF l n) (by rw [hone];rfl)
       have hmem:bF l n ∈ aZ l n:=by rw [hone];simp
       have elx:=hol.elem hcx
       rw [hk5] at elx
       obtain ⟨hrne,hd20,hd1⟩:=fF hz.chk hmem
       have hdl:((bF l n).data.getD 0 []).length≤4611686018427387904:=by
        obtain ⟨t,ht,_,_,e9,_⟩:=iY hz.chk hmem
        have:=gD hz t ht ((bF l n).data.getD 0 []) (by rw [e9,List.getD_eq_getElem?_getD,List.getElem?_eq_getElem (by rw [← e9];omega)];simp)
        omega
       have hd0:(aP (bF l n).data)[0]? = some [aI ((bF l n).data.getD 0 [])]:=iW _ _ _ (by rw [List.getD_eq_getElem?_getD,List.getElem?_eq_getElem (by omega)];simp)
       (repeat' first | ((with_reducible refine cY ?_);go_step) | ((with_reducible refine cJ ?_);first | refine iZ ?_ | (refine dD ?_ ?_ <;> intro hc)) | fail)
       all_goals first
        | (exfalso
           have q9:(!decide (kq=255))=false:=by assumption
           simp [h52] at q9;done)
        | (exfalso
           have q9:(!decide (kq=5))=false:=by assumption
           simp [h51] at q9;done)
        | (exfalso
           have q9:¬ 0 < (css.length:Int):=by assumption
           omega)
        | skip
       ·have hc8:(c:Int)=8:=by assumption
        have hr:bX o l n kq c=⟨0,[],[],[],false⟩:=by rw [bX,if_neg hu',if_neg hcu',if_neg hB',if_pos hal,if_pos hc8]
        rw [hr] at e1 e2 e3
        simp only [Bool.false_eq_true,if_false,List.append_nil] at e1 e2 e3
        have on3:=Own.nil w8.heap.size 4 106 w8'
        have hRk:(cT o l kq 9 0 (fold q)).kind=0:=e1
        have hRa:(cT o l kq 9 0 (fold q)).ans=A:=e2
        have hRu:(cT o l kq 9 0 (fold q)).auth=[]:=e3
        have hfit:=fS hz kq 9 0 (fold q)
        have hlen:=iP (o:=o) hz.chk hl200 kq 9 0 (fold q)
        rw [hRk,hRa,hRu] at hfit hA
        rw [hRa,hRu] at hlen
        have bEnd:=aE (cs:=[.int .i64 0,a,(.slice none 0 0), .slice none 0 0]) bb8
        have pEnd:=hp8.ext y8
        refine_lift bG ?_
        refine aK (enters_of Tryz.func77 rfl rfl) rfl rfl (mJ o v l 0 A [] a (.slice none 0 0) _ (hv8.ext y8) oa8.sl on3.sl hz (by omega) (by omega) (fun r hr=>(hfit r hr).1) (fun r hr=>(hfit r hr).2)) ?_
        intro rE wE xE hrE
        obtain ⟨yE,rfl,oE⟩:=hrE
        have xF:=y8.trans xE
        have hF:=xF.at h8
        have aF:=oa8.ext xE
        have uF:=on3.ext xE
        have zF:=y8.size
        have zw:w.heap.size≤w8.heap.size:=hx8.size
        refine_lift bG ?_
        refine aG (v:=.agg #[.int .i64 0,a,(.slice none 0 0),yE]) rfl rfl rfl hF (show aR Tryz.prog 75 4=true by decide +kernel) rfl (eR rfl aF.sl.one uF.sl.one oE.sl.one) ?_
        intro wG pG
        refine_lift bG ?_
        refine bodyPost_ret (aU (cs:=[.int .i64 0,a,(.slice none 0 0),yE]) rfl rfl pG.this (show cP Tryz.prog 75 4=true by decide +kernel)) rfl ⟨_,rfl,(hx8.trans xF).move pG.mv (by rintro k ⟨⟩;exact z2),?_⟩
        rw [hA,hE]
        exact ⟨_,rfl,a,(.slice none 0 0),yE,rfl,(aF.mv pG.mv (.inr (aF.neBlock hF (by decide)))).weaken zw,(uF.mv pG.mv (.inr (uF.neBlock hF (by decide)))).weaken zw,(oE.mv pG.mv (.inr (oE.neBlock hF (by decide)))).weaken (by omega)⟩
       ·have hc8:¬ (c:Int)=8:=by assumption
        have hr:bX o l n kq c=⟨0,cE (bF l n),[],fold (aY 5 ((bF l n).data.getD 0 [])).1,true⟩:=by rw [bX,if_neg hu',if_neg hcu',if_neg hB',if_pos hal,if_neg hc8]
        rw [hr] at e1 e2 e3
        simp only [if_true] at e1 e2 e3
        rw [← List.append_assoc] at e2
        refine bV 5 (Ext w8') (by decide +kernel) ?_
        intro v1 k1 _
        refine ⟨k1,?_⟩
        refine cV 0 ?_;refine cV 1 ?_;refine cV 2 ?_
        refine bD (i:=3) (v:=dU u8 4 0 1) rfl rfl (by decide +kernel) (by decide +kernel) (by decide +kernel) (by decide +kernel) (by decide +kernel) rfl (fun w' hF=>Runs.take (k:=4) (n:=1) (es:=css) rfl (hol.ext hF) (by omega) (by decide +kernel)) (fun _ _ _ h=>h) ?_
        refine aA ?_
        refine bE (i:=4) (by decide +kernel) rfl rfl ?_
        have hs6:SetsAt v1 (dU u8 4 0 1) [bF l n]:=by
         have g1:=((hcs.sets.ext k1).take 1).drop 0
         rw [hone] at g1
         exact g1.sets ((hol.ext k1).cut (by omega) (by omega))
        refine aK (enters_of Tryz.func80 rfl rfl) rfl rfl (fK _ _ _ hs6 (by rw [dF,cE,List.length_map];omega)) ?_
        intro r2 v2 k2 o2
        rw [dF] at o2
        refine aA ?_
        have k02:=k1.trans k2
        have bb9:=k02.at bb8
        have oa9:=oa8.ext k02
        refine aJ ⟨cC k02,?_⟩
        refine bE (i:=5) (by decide +kernel) rfl rfl ?_
        refine bU (e:=106) (k:=4) rfl oa9 rfl o2.sl eA (y8.trans k02).size (by rw [aQ,aQ,cE,List.length_map];omega) ?_
        intro a3 v3 o3 m3 _
        refine aA ?_
        have bb10:=m3.at bb9 (fun e=>hne e.symm)
        have y10:=oa9.mvx m3 (y8.trans k02) (Nat.le_refl _)
        have hs8:=(ho.ext k02).mv m3 ((ho.ext k02).ne oa9 (by decide))
        have hrc:aO A ++ aO (cE (bF l n))=aO (A ++ cE (bF l n)):=by simp [aO]
        rw [hrc] at o3
        refine aJ ⟨bT rfl,?_⟩
        refine zL 6 ?_
        refine bE (i:=7) (by decide +kernel) rfl rfl ?_
        refine aM (n:=1) bb10 rfl rfl rfl (by simp) (by decide +kernel) o3.sl.one ?_
        intro v4 p4
        refine aJ ⟨bT rfl,?_⟩
        refine cN (by decide +kernel) ?_
        have bb11:v4.heap[w8.heap.size]? = some (.cells [.int .i64 0,a3, .slice none 0 0, .slice none 0 0].toArray 75 (0,0)):=p4.this
        have y11:Ext w8 v4:=y10.move p4.mv (by rintro k ⟨⟩;exact Nat.le_refl _)
        have ho11:=hs8.mv p4.mv (.inr (hs8.neBlock bb10 (by decide)))
        have oa11:=o3.mv p4.mv (.inr (o3.neBlock bb10 (by decide)))
        clear hol
        have hol:=ho11.sl
        have el9:=hol.elem hcx
        have hx11:Sl 1 v4 x (aP (bF l n).data):=(((hdx.ext k02).mv m3 ((hdx.ext k02).ne oa9 (by decide))).mv p4.mv (.inr (((hdx.ext k02).mv m3 ((hdx.ext k02).ne oa9 (by decide))).neBlock bb10 (by decide)))).sl
        have ed9:=hx11.elem hd0
        have htl:=bA (bF l n).data
        refine_lift dJ fun _ _ => ?_
        refine aD (enters_of Tryz.func84 rfl rfl) rfl rfl (nZ 5 ((bF l n).data.getD 0 []) _ hdl) ?_;intro w20 x20;refine aA ?_
        refine_lift dJ fun _ _ => ?_
        refine aD (enters_of Tryz.func36 rfl rfl) rfl rfl (kG (aY 5 ((bF l n).data.getD 0 [])).1 _) ?_;intro w21 x21;refine aA ?_
        refine_lift bG ?_
        have x2021:=x20.trans x21
        refine ⟨⟨c + 1,_,a3,A ++ cE (bF l n),rfl,by go_num,by omega,y11.trans x2021,x2021.at bb11,oa11.ext x2021,pT _ _,by simp only [List.length_append,cE,List.length_map];omega,?_,?_,?_⟩,by simp [intOf];omega⟩
        ·rw [e1,show 9 - (c + 1)=8 - c by omega];rfl
        ·rw [e2,show 9 - (c + 1)=8 - c by omega];rfl
        ·rw [e3,show 9 - (c + 1)=8 - c by omega];rfl
      ·clear hq8' hq5'
       refine_lift LQ fun _ _ _ _ _ => ?_
       refine JC (J:=fun a' w'=>w'=w8'∧∃ ts:List Value,a'=Act.mk ts.toArray []∧ts.length=199∧ts.getD 2 undef=p∧ts.getD 3 undef=pq∧ts.getD 4 undef=.pointer (some ⟨AB,0,none⟩)∧ts.getD 7 undef=.pointer (some ⟨DB,0,none⟩)∧ts.getD 9 undef=.pointer (some ⟨w8.heap.size,0,none⟩)∧ts.getD 16 undef=u8∧ts.getD 127 undef=.bool false) ?_ ?_
       ·have hq8':=hq8.ext y8
        rcases Nat.eq_zero_or_pos (aZ l n).length with hz0 | hz0
        ·refine_lift xH (fun hc hc hc => ?_) (fun hc hc => ?_) (fun hc => ?_) (fun hc hc hc => ?_)
         all_goals first
          | (have hh:False:=by have q9:0 < (css.length:Int):=by assumption
                               omega
             exact hh.elim)
          | exact .inl ⟨rfl,rfl,_,rfl,rfl,rfl,rfl,rfl,rfl,rfl,rfl,rfl⟩
        ·obtain ⟨x,hcx,hdx⟩:=hcs.at' 0 (aZ l n)[0] (by rw [List.getElem?_eq_getElem hz0])
         have elx:=hol.elem hcx
         have hkh:kq=5∨kq=255∨(aZ l n)[0].kind≠5:=by
          by_cases h5:(aZ l n)[0].kind=5
          ·by_cases h6:kq=5
           ·exact .inl h6
           ·by_cases h7:kq=255
            ·exact .inr (.inl h7)
            ·exact absurd ⟨List.any_eq_true.2 ⟨_,List.getElem_mem hz0,by simp [eN,h5]⟩,h6,h7⟩ hal
          ·exact .inr (.inr h5)
         refine_lift xH (fun hc hc hc => ?_) (fun hc hc => ?_) (fun hc => ?_) (fun hc hc hc => ?_)
         all_goals first
          | (have hh:False:=by have q9:¬ 0 < (css.length:Int):=by assumption
                               omega
             exact hh.elim)
          | (have hh:False:=by
              have q9:(aZ l n)[0].kind=5:=by assumption
              have q8:(!decide (kq=5))=true:=by assumption
              have q7:(!decide (kq=255))=true:=by assumption
              simp at q8 q7
              exact hkh.elim q8 (fun h=>h.elim q7 (fun h=>h q9))
             exact hh.elim)
          | (have q8:(!decide (kq=5))=true:=by assumption
             have q7:(!decide (kq=255))=true:=by assumption
             simp at q8 q7
             have q9:¬ (aZ l n)[0].kind=5:=fun h=>hkh.elim q8 (fun h'=>h'.elim q7 (fun h''=>h'' h))
             exact .inl ⟨rfl,rfl,_,rfl,rfl,rfl,rfl,rfl,rfl,rfl,rfl,congrArg Value.bool (decide_eq_false q9)⟩)
          | exact .inl ⟨rfl,rfl,_,rfl,rfl,rfl,rfl,rfl,rfl,rfl,rfl,rfl⟩
       ·have hq8':=hq8.ext y8
        rintro _ _ ⟨rfl,ts,rfl,hlen,g2,g3,g4,g7,g9,g16,g127⟩
        obtain ⟨f,rfl⟩:∃ f:Nat→Value,ts=[f 0,f 1,f 2,f 3,f 4,f 5,f 6,f 7,f 8,f 9,f 10,f 11,f 12,f 13,f 14,f 15,f 16,f 17,f 18,f 19,f 20,f 21,f 22,f 23,f 24,f 25,f 26,f 27,f 28,f 29,f 30,f 31,f 32,f 33,f 34,f 35,f 36,f 37,f 38,f 39,f 40,f 41,f 42,f 43,f 44,f 45,f 46,f 47,f 48,f 49,f 50,f 51,f 52,f 53,f 54,f 55,f 56,f 57,f 58,f 59,f 60,f 61,f 62,f 63,f 64,f 65,f 66,f 67,f 68,f 69,f 70,f 71,f 72,f 73,f 74,f 75,f 76,f 77,f 78,f 79,f 80,f 81,f 82,f 83,f 84,f 85,f 86,f 87,f 88,f 89,f 90,f 91,f 92,f 93,f 94,f 95,f 96,f 97,f 98,f 99,f 100,f 101,f 102,f 103,f 104,f 105,f 106,f 107,f 108,f 109,f 110,f 111,f 112,f 113,f 114,f 115,f 116,f 117,f 118,f 119,f 120,f 121,f 122,f 123,f 124,f 125,f 126,f 127,f 128,f 129,f 130,f 131,f 132,f 133,f 134,f 135,f 136,f 137,f 138,f 139,f 140,f 141,f 142,f 143,f 144,f 145,f 146,f 147,f 148,f 149,f 150,f 151,f 152,f 153,f 154,f 155,f 156,f 157,f 158,f 159,f 160,f 161,f 162,f 163,f 164,f 165,f 166,f 167,f 168,f 169,f 170,f 171,f 172,f 173,f 174,f 175,f 176,f 177,f 178,f 179,f 180,f 181,f 182,f 183,f 184,f 185,f 186,f 187,f 188,f 189,f 190,f 191,f 192,f 193,f 194,f 195,f 196,f 197,f 198]:=⟨fun i=>ts.getD i undef,GE hlen undef⟩
        change f 2=_ at g2
        change f 3=_ at g3
        change f 4=_ at g4
        change f 7=_ at g7
        change f 9=_ at g9
        change f 16=_ at g16
        change f 127=_ at g127
        rw [g2,g3,g4,g7,g9,g16,g127]
        clear hlen g2 g3 g4 g7 g9 g16 g127
        refine_lift dJ fun _ _ => ?_
        have hMl:((aZ l n).filter (bP kq)).length≤200:=Nat.le_trans (List.length_filter_le _ _) (by omega)
        have hM20:=qM (L:=(aZ l n).filter (bP kq)) fun s hs=>(fF hz.chk (List.mem_filter.1 hs).1).2.1
        have hr:bX o l n kq c=if (aZ l n).filter (bP kq)=[] then ⟨1,[],[dV o l],[],false⟩ else ⟨0,aX ((aZ l n).filter (bP kq)),[],[],false⟩:=by rw [bX,if_neg hu',if_neg hcu',if_neg hB',if_neg hal]
        rw [hr] at e1 e2 e3
        clear hr
        have hjl:∀ j,(aX (((aZ l n).take j).filter (bP kq))).length≤4000:=fun j=>BV hz.chk (by omega) j
        go_loopw [19,20] (fun av kv wr=>∃ (j:Nat) (a':Value) (b:Bool),j≤(aZ l n).length∧b=((aZ l n).take j).any (bP kq)∧av=.bool b∧kv=.int .i64 j∧Ext w8 wr∧wr.heap[w8.heap.size]? = some (.cells [.int .i64 0,a', .slice none 0 0, .slice none 0 0].toArray 75 (0,0))∧Own w8.heap.size 4 106 wr a' (aO (A ++ aX (((aZ l n).take j).filter (bP kq))))∧Own w8.heap.size 4 131 wr u8 css∧SetsW w8.heap.size wr css (aZ l n)) (fun _ kv _=>(aZ l n).length - (intOf kv).toNat)
        case atStart=>exact ⟨0,a,false,Nat.zero_le _,by simp,rfl,rfl,y8,bb8,by simpa [aX] using oa8,ho,hcs⟩
        case round =>
         obtain ⟨j,a',b,hj,hb,rfl,rfl,yr,br,or',hou,hcr⟩:=hrel
         have qr:=aE (cs:=[.int .i64 0,a', .slice none 0 0, .slice none 0 0]) br
         have hqj:=hq8.ext yr
         have hpj:=hp8.ext yr
         have hdj:=hd8.ext yr
         have hlj:=hou.sl
         have hjl0:=hjl j
         by_cases hlt:j < (aZ l n).length
         ·obtain ⟨xj,hcj,hdj⟩:=hcr.at' j (aZ l n)[j] (List.getElem?_eq_getElem hlt)
          have elj:=hlj.elem hcj
          refine_lift GI ?_;intro _ _ _ _ _ _
          by_cases hk1:(aZ l n)[j].kind=kq
          ·have hof:bP kq (aZ l n)[j]=true:=by simp [bP,hk1]
           refine cB (by decide +kernel) (by decide +kernel) ?_
           refine_lift qR ?_
           rw [decide_eq_true hk1]
           refine_lift qR ?_
           intro w2 x2
           have yr2:=yr.trans x2
           have br2:=x2.at br
           have or2:=or'.ext x2
           have hou2:=hou.ext x2
           have hcr2:=hcr.ext x2
           have qr2:=qr.ext x2
           have hlj2:=hou2.sl
           have hne':a'.ownBlock≠some w8.heap.size:=or'.neBlock br (by decide)
           have hr20:=(fF hz.chk (List.getElem_mem hlt)).2.1
           clear br or' hou hcr qr hlj elj hqj hpj
           refine_lift bG ?_
           refine bV 8 (Ext w2) (by decide +kernel) ?_
           intro v1 k1 _
           refine ⟨k1,?_⟩
           refine cV 0 ?_;refine cV 1 ?_;refine cV 2 ?_;refine cV 3 ?_;refine cV 4 ?_;refine cV 5 ?_
           refine bD (i:=6) (v:=dU u8 4 j (j + 1)) rfl rfl (by decide +kernel) (by decide +kernel) (by decide +kernel) (by decide +kernel) (by decide +kernel) rfl (fun w' hF=>Runs.cut (k:=4) (m:=j) (n:=j + 1) (es:=css) rfl rfl (hlj2.ext hF) (by omega) (by omega) (by decide +kernel)) (fun _ _ _ h=>h) ?_
           refine aA ?_
           refine bE (i:=7) (by decide +kernel) rfl rfl ?_
           have hs6:SetsAt v1 (dU u8 4 j (j + 1)) [(aZ l n)[j]]:=by
            have g1:=((hcr2.sets.ext k1).take (j + 1)).drop j
            rw [wK hlt] at g1
            exact g1.sets ((hlj2.ext k1).cut (by omega) (by omega))
           refine aK (enters_of Tryz.func80 rfl rfl) rfl rfl (fK _ _ _ hs6 (by rw [dF,cE,List.length_map];omega)) ?_
           intro r3 v2 k2 o2
           rw [dF] at o2
           refine aA ?_
           have k02:=k1.trans k2
           have bb9:=k02.at br2
           have oa9:=or2.ext k02
           refine aJ ⟨cC k02,?_⟩
           refine bE (i:=8) (by decide +kernel) rfl rfl ?_
           refine bU (e:=106) (k:=4) rfl oa9 rfl o2.sl eA (yr2.trans k02).size (by rw [aQ,aQ,cE,List.length_map,List.length_append];omega) ?_
           intro a3 v3 o3 m3 _
           refine aA ?_
           have bb10:=m3.at bb9 (fun e=>hne' e.symm)
           have y10:=oa9.mvx m3 (yr2.trans k02) (Nat.le_refl _)
           have ho8:=(hou2.ext k02).mv m3 ((hou2.ext k02).ne oa9 (by decide))
           have hc8:=(hcr2.ext k02).mv oa9 (by decide) m3
           have hrc:aO (A ++ aX (((aZ l n).take j).filter (bP kq))) ++ aO (cE (aZ l n)[j])=aO (A ++ aX (((aZ l n).take (j + 1)).filter (bP kq))):=by rw [qP hlt hof];simp [aO]
           rw [hrc] at o3
           refine aJ ⟨bT rfl,?_⟩
           refine zL 9 ?_
           refine bE (i:=10) (by decide +kernel) rfl rfl ?_
           refine aM (n:=1) bb10 rfl rfl rfl (by simp) (by decide +kernel) o3.sl.one ?_
           intro v4 p4
           refine aJ ⟨bT rfl,?_⟩
           refine cN (by decide +kernel) ?_
           have bb11:v4.heap[w8.heap.size]? = some (.cells [.int .i64 0,a3, .slice none 0 0, .slice none 0 0].toArray 75 (0,0)):=p4.this
           have y11:Ext w8 v4:=y10.move p4.mv (by rintro k ⟨⟩;exact Nat.le_refl _)
           have ho11:=ho8.mv p4.mv (.inr (ho8.neBlock bb10 (by decide)))
           have oa11:=o3.mv p4.mv (.inr (o3.neBlock bb10 (by decide)))
           have hc11:=hc8.put bb10 (by decide) p4
           refine_lift bG ?_
           exact ⟨⟨j + 1,a3,true,by omega,by rw [kV hlt,hof,Bool.or_true],rfl,by go_num,y11,bb11,oa11,ho11,hc11⟩,by simp [intOf];omega⟩
          ·by_cases hk2:kq=255
           ·have hof:bP kq (aZ l n)[j]=true:=by simp [bP,hk2]
            refine cB (by decide +kernel) (by decide +kernel) ?_
            refine_lift qR ?_
            rw [decide_eq_false hk1]
            refine_lift qR ?_
            rw [decide_eq_true hk2]
            refine_lift qR ?_
            intro w2 x2
            have yr2:=yr.trans x2
            have br2:=x2.at br
            have or2:=or'.ext x2
            have hou2:=hou.ext x2
            have hcr2:=hcr.ext x2
            have qr2:=qr.ext x2
            have hlj2:=hou2.sl
            have hne':a'.ownBlock≠some w8.heap.size:=or'.neBlock br (by decide)
            have hr20:=(fF hz.chk (List.getElem_mem hlt)).2.1
            clear br or' hou hcr qr hlj elj hqj hpj
            refine_lift bG ?_
            refine bV 8 (Ext w2) (by decide +kernel) ?_
            intro v1 k1 _
            refine ⟨k1,?_⟩
            refine cV 0 ?_;refine cV 1 ?_;refine cV 2 ?_;refine cV 3 ?_;refine cV 4 ?_;refine cV 5 ?_
            refine bD (i:=6) (v:=dU u8 4 j (j + 1)) rfl rfl (by decide +kernel) (by decide +kernel) (by decide +kernel) (by decide +kernel) (by decide +kernel) rfl (fun w' hF=>Runs.cut (k:=4) (m:=j) (n:=j + 1) (es:=css) rfl rfl (hlj2.ext hF) (by omega) (by omega) (by decide +kernel)) (fun _ _ _ h=>h) ?_
            refine aA ?_
            refine bE (i:=7) (by decide +kernel) rfl rfl ?_
            have hs6:SetsAt v1 (dU u8 4 j (j + 1)) [(aZ l n)[j]]:=by
             have g1:=((hcr2.sets.ext k1).take (j + 1)).drop j
             rw [wK hlt] at g1
             exact g1.sets ((hlj2.ext k1).cut (by omega) (by omega))
            refine aK (enters_of Tryz.func80 rfl rfl) rfl rfl (fK _ _ _ hs6 (by rw [dF,cE,List.length_map];omega)) ?_
            intro r3 v2 k2 o2
            rw [dF] at o2
            refine aA ?_
            have k02:=k1.trans k2
            have bb9:=k02.at br2
            have oa9:=or2.ext k02
            refine aJ ⟨cC k02,?_⟩
            refine bE (i:=8) (by decide +kernel) rfl rfl ?_
            refine bU (e:=106) (k:=4) rfl oa9 rfl o2.sl eA (yr2.trans k02).size (by rw [aQ,aQ,cE,List.length_map,List.length_append];omega) ?_
            intro a3 v3 o3 m3 _
            refine aA ?_
            have bb10:=m3.at bb9 (fun e=>hne' e.symm)
            have y10:=oa9.mvx m3 (yr2.trans k02) (Nat.le_refl _)
            have ho8:=(hou2.ext k02).mv m3 ((hou2.ext k02).ne oa9 (by decide))
            have hc8:=(hcr2.ext k02).mv oa9 (by decide) m3
            have hrc:aO (A ++ aX (((aZ l n).take j).filter (bP kq))) ++ aO (cE (aZ l n)[j])=aO (A ++ aX (((aZ l n).take (j + 1)).filter (bP kq))):=by rw [qP hlt hof];simp [aO]
            rw [hrc] at o3
            refine aJ ⟨bT rfl,?_⟩
            refine zL 9 ?_
            refine bE (i:=10) (by decide +kernel) rfl rfl ?_
            refine aM (n:=1) bb10 rfl rfl rfl (by simp) (by decide +kernel) o3.sl.one ?_
            intro v4 p4
            refine aJ ⟨bT rfl,?_⟩
            refine cN (by decide +kernel) ?_
            have bb11:v4.heap[w8.heap.size]? = some (.cells [.int .i64 0,a3, .slice none 0 0, .slice none 0 0].toArray 75 (0,0)):=p4.this
            have y11:Ext w8 v4:=y10.move p4.mv (by rintro k ⟨⟩;exact Nat.le_refl _)
            have ho11:=ho8.mv p4.mv (.inr (ho8.neBlock bb10 (by decide)))
            have oa11:=o3.mv p4.mv (.inr (o3.neBlock bb10 (by decide)))
            have hc11:=hc8.put bb10 (by decide) p4
            refine_lift bG ?_
            exact ⟨⟨j + 1,a3,true,by omega,by rw [kV hlt,hof,Bool.or_true],rfl,by go_num,y11,bb11,oa11,ho11,hc11⟩,by simp [intOf];omega⟩
           ·have hof:bP kq (aZ l n)[j]=false:=by simp [bP,hk1,hk2]
            refine cB (by decide +kernel) (by decide +kernel) ?_
            refine_lift qR ?_
            rw [decide_eq_false hk1]
            refine_lift qR ?_
            rw [decide_eq_false hk2]
            refine_lift qR ?_
            intro w2 x2
            refine_lift bG ?_
            exact ⟨⟨j + 1,a',b,by omega,by rw [kV hlt,hof,Bool.or_false];exact hb,rfl,by go_num,yr.trans x2,x2.at br,by rw [GF hlt hof];exact or'.ext x2,hou.ext x2,hcr.ext x2⟩,by simp [intOf];omega⟩
         ·have hT:(aZ l n).take j=aZ l n:=by rw [show j=(aZ l n).length by omega,List.take_length]
          rw [hT] at or' hb
          clear hjl hjl0 hT
          have on3:=Own.nil w8.heap.size 4 106 wr
          cases b with
          | false =>
           have hF:(aZ l n).filter (bP kq)=[]:=List.filter_eq_nil_iff.2 fun s hs h=>by
            have:=List.any_eq_true.2 ⟨s,hs,h⟩
            rw [← hb] at this
            cases this
           rw [hF] at or'
           rw [if_pos hF] at e1 e2 e3
           simp only [Bool.false_eq_true,if_false,List.append_nil] at e1 e2 e3
           have or9:Own w8.heap.size 4 106 wr a' (aO A):=by simpa [aX] using or'
           clear or'
           refine_lift LQ fun _ _ _ _ _ => ?_
           refine aM (n:=0) br rfl rfl rfl (by simp) (by decide +kernel) rfl ?_
           intro d1 pd1
           have bd1:d1.heap[w8.heap.size]? = some (.cells [.int .i64 1,a', .slice none 0 0, .slice none 0 0].toArray 75 (0,0)):=pd1.this
           have yd1:Ext w8 d1:=yr.move pd1.mv (by rintro k ⟨⟩;exact Nat.le_refl _)
           have rd1:=aE (pd1.at (yr.at b8) (by omega))
           have od1:=or9.mv pd1.mv (.inr (or9.neBlock br (by decide)))
           have qd1:=aE (cs:=[.int .i64 1,a', .slice none 0 0, .slice none 0 0]) bd1
           refine_lift bG ?_
           refine bN (e:=106) (k:=4) (bytes:=48) (xs:=[mG (dV o l)]) rfl rfl rfl (by simp [Value.cells,mG]) (by decide +kernel) (by simp) ?_
           intro v2d d2 xd2 _ sl2d od2'
           refine aA ?_
           have od2:Own d1.heap.size 4 106 d2 v2d (aO [dV o l]):=od2'
           have bd2:=xd2.at bd1
           have qd2:=qd1.ext xd2
           have odA:=od1.ext xd2
           refine_lift bG ?_
           refine aM (n:=2) bd2 rfl rfl rfl (by simp) (by decide +kernel) od2.sl.one ?_
           intro d3 pd3
           have bd3:d3.heap[w8.heap.size]? = some (.cells [.int .i64 1,a',v2d, .slice none 0 0].toArray 75 (0,0)):=pd3.this
           have yd3:Ext w8 d3:=(yd1.trans xd2).move pd3.mv (by rintro k ⟨⟩;exact Nat.le_refl _)
           have odB:=odA.mv pd3.mv (.inr (odA.neBlock bd2 (by decide)))
           have odU:=(od2.mv pd3.mv (.inr (od2.neBlock bd2 (by decide)))).weaken yd1.size
           have hRk:(cT o l kq 9 0 (fold q)).kind=1:=e1
           have hRa:(cT o l kq 9 0 (fold q)).ans=A:=e2
           have hRu:(cT o l kq 9 0 (fold q)).auth=[dV o l]:=e3
           have hfit:=fS hz kq 9 0 (fold q)
           have hlen:=iP (o:=o) hz.chk hl200 kq 9 0 (fold q)
           rw [hRk,hRa,hRu] at hfit hA
           rw [hRa,hRu] at hlen
           have bEnd:=aE (cs:=[.int .i64 1,a',v2d, .slice none 0 0]) bd3
           have pEnd:=hp8.ext yd3
           refine_lift dJ fun _ _ => ?_
           refine aK (enters_of Tryz.func77 rfl rfl) rfl rfl (mJ o v l 1 A [dV o l] a' v2d _ (hv8.ext yd3) odB.sl odU.sl hz (by omega) (by omega) (fun r hr=>(hfit r hr).1) (fun r hr=>(hfit r hr).2)) ?_
           intro rE wE xE hrE
           obtain ⟨yE,rfl,oE⟩:=hrE
           have xF:=yd3.trans xE
           have hF:=xF.at h8
           have aF:=odB.ext xE
           have uF:=odU.ext xE
           have zF:=yd3.size
           have zw:w.heap.size≤w8.heap.size:=hx8.size
           refine_lift bG ?_
           refine aG (v:=.agg #[.int .i64 1,a',v2d,yE]) rfl rfl rfl hF (show aR Tryz.prog 75 4=true by decide +kernel) rfl (eR rfl aF.sl.one uF.sl.one oE.sl.one) ?_
           intro wG pG
           refine_lift bG ?_
           refine bodyPost_ret (aU (cs:=[.int .i64 1,a',v2d,yE]) rfl rfl pG.this (show cP Tryz.prog 75 4=true by decide +kernel)) rfl ⟨_,rfl,(hx8.trans xF).move pG.mv (by rintro k ⟨⟩;exact z2),?_⟩
           rw [hA,hE]
           exact ⟨_,rfl,a',v2d,yE,rfl,(aF.mv pG.mv (.inr (aF.neBlock hF (by decide)))).weaken zw,(uF.mv pG.mv (.inr (uF.neBlock hF (by decide)))).weaken zw,(oE.mv pG.mv (.inr (oE.neBlock hF (by decide)))).weaken (by omega)⟩
          | true =>
           have hF:¬ (aZ l n).filter (bP kq)=[]:=fun h=>by
            obtain ⟨s,hs,hk⟩:=List.any_eq_true.1 hb.symm
            exact List.filter_eq_nil_iff.1 h s hs hk
           rw [if_neg hF] at e1 e2 e3
           simp only [Bool.false_eq_true,if_false,List.append_nil] at e1 e2 e3
           refine_lift vZ fun _ _ _ => ?_
           have hRk:(cT o l kq 9 0 (fold q)).kind=0:=e1
           have hRa:(cT o l kq 9 0 (fold q)).ans=(A ++ aX ((aZ l n).filter (bP kq))):=e2
           have hRu:(cT o l kq 9 0 (fold q)).auth=[]:=e3
           have hfit:=fS hz kq 9 0 (fold q)
           have hlen:=iP (o:=o) hz.chk hl200 kq 9 0 (fold q)
           rw [hRk,hRa,hRu] at hfit hA
           rw [hRa,hRu] at hlen
           have bEnd:=aE (cs:=[.int .i64 0,a',(.slice none 0 0), .slice none 0 0]) br
           have pEnd:=hp8.ext yr
           refine_lift bG ?_
           refine aK (enters_of Tryz.func77 rfl rfl) rfl rfl (mJ o v l 0 (A ++ aX ((aZ l n).filter (bP kq))) [] a' (.slice none 0 0) _ (hv8.ext yr) or'.sl on3.sl hz (by omega) (by omega) (fun r hr=>(hfit r hr).1) (fun r hr=>(hfit r hr).2)) ?_
           intro rE wE xE hrE
           obtain ⟨yE,rfl,oE⟩:=hrE
           have xF:=yr.trans xE
           have hF:=xF.at h8
           have aF:=or'.ext xE
           have uF:=on3.ext xE
           have zF:=yr.size
           have zw:w.heap.size≤w8.heap.size:=hx8.size
           refine_lift bG ?_
           refine aG (v:=.agg #[.int .i64 0,a',(.slice none 0 0),yE]) rfl rfl rfl hF (show aR Tryz.prog 75 4=true by decide +kernel) rfl (eR rfl aF.sl.one uF.sl.one oE.sl.one) ?_
           intro wG pG
           refine_lift bG ?_
           refine bodyPost_ret (aU (cs:=[.int .i64 0,a',(.slice none 0 0),yE]) rfl rfl pG.this (show cP Tryz.prog 75 4=true by decide +kernel)) rfl ⟨_,rfl,(hx8.trans xF).move pG.mv (by rintro k ⟨⟩;exact z2),?_⟩
           rw [hA,hE]
           exact ⟨_,rfl,a',(.slice none 0 0),yE,rfl,(aF.mv pG.mv (.inr (aF.neBlock hF (by decide)))).weaken zw,(uF.mv pG.mv (.inr (uF.neBlock hF (by decide)))).weaken zw,(oE.mv pG.mv (.inr (oE.neBlock hF (by decide)))).weaken (by omega)⟩
end Go.Proofs.X
