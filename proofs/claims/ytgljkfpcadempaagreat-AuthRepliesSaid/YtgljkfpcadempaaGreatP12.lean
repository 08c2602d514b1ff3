/- Laws and walks that the proof of the statement is made of (part 12). -/
import Derived.Test.YtgljkfpcadempaaGreatRows
import Derived.Test.YtgljkfpcadempaaGreatP11
set_option linter.unusedSimpArgs false
set_option linter.unusedVariables false
namespace Go.Proofs.X
open Go.RowKit
set_option maxRecDepth 100000
def yO (r:Rec):Bool:=decide (r.kind=6)
def gE (d:List UInt8):SoaR:=match cS d with | some s=>s | none=>zR
def NA (r:Rec):Int:=(gE r.data).serial
def wI:List Rec→Nat
 | []=>0
 | r :: t=>if yO r then 0 else wI t + 1
theorem yP:∀ l:List Rec,wI l≤l.length
 | []=>Nat.le_refl _
 | r :: t=>by
   rw [wI]
   split
   ·omega
   ·have:=yP t
    rw [List.length_cons];omega
def cK (l:List Rec):Nat:=1 + wI (l.drop 1)
theorem mY {l:List Rec} (h:l≠[]):1≤cK l∧cK l≤l.length:=by
 have:=yP (l.drop 1)
 cases l with
 | nil=>exact absurd rfl h
 | cons r t =>
  unfold cK
  simp only [List.drop_succ_cons,List.drop_zero,List.length_cons] at *
  omega
def CR:Rec:=⟨[],0,0,[]⟩
def uA (l:List Rec):Rec:=l.headD CR
def lN (gone come:List Rec):DeltaR:=⟨NA (uA gone),NA (uA come),gone,come⟩
structure ZE where
 e:Int
 o:List UInt8
 l:List RSet
def ZE.bad (e:Int):ZE:=⟨e,[],[]⟩
def PI:Nat→List UInt8→List RSet→List Rec→ZE
 | 0,o,l,_=>⟨0,o,l⟩
 | f + 1,o,l,rs =>
  if rs=[] then ⟨0,o,l⟩ else
  let gone:=rs.take (cK rs)
  let rest:=rs.drop (cK rs)
  if rest=[] then ZE.bad 2 else
  let come:=rest.take (cK rest)
  if rS o l (lN gone come)=0 then PI f (FB o l (lN gone come)) (HJ o l (lN gone come)) (rest.drop (cK rest))
  else ZE.bad (if rS o l (lN gone come)=5 then 2 else rS o l (lN gone come))
def zS (o:List UInt8) (l:List RSet) (rs:List Rec):ZE:=PI rs.length o l rs
theorem yQ (f:Nat) (o:List UInt8) (l:List RSet) {rs:List Rec} (h:rs≠[]):PI (f + 1) o l rs =
 if rs.drop (cK rs)=[] then ZE.bad 2 else
 if rS o l (lN (rs.take (cK rs)) ((rs.drop (cK rs)).take (cK (rs.drop (cK rs)))))=0 then
  PI f (FB o l (lN (rs.take (cK rs)) ((rs.drop (cK rs)).take (cK (rs.drop (cK rs)))))) (HJ o l (lN (rs.take (cK rs)) ((rs.drop (cK rs)).take (cK (rs.drop (cK rs)))))) ((rs.drop (cK rs)).drop (cK (rs.drop (cK rs))))
 else ZE.bad (if rS o l (lN (rs.take (cK rs)) ((rs.drop (cK rs)).take (cK (rs.drop (cK rs)))))=5 then 2 else rS o l (lN (rs.take (cK rs)) ((rs.drop (cK rs)).take (cK (rs.drop (cK rs)))))):=by
 rw [PI,if_neg h]
theorem IQ:∀ (f:Nat) (o:List UInt8) (l:List RSet),PI f o l []=⟨0,o,l⟩
 | 0,o,l=>rfl
 | f + 1,o,l=>by rw [PI,if_pos rfl]
theorem FK:∀ (n f g:Nat) (o:List UInt8) (l:List RSet) (rs:List Rec),rs.length≤n→rs.length≤f→rs.length≤g→PI f o l rs=PI g o l rs
 | n,f,g,o,l,[],_,_,_=>by rw [IQ,IQ]
 | 0,f,g,o,l,r :: t,h,_,_=>by simp at h
 | n + 1,0,g,o,l,r :: t,_,h,_=>by simp at h
 | n + 1,f + 1,0,o,l,r :: t,_,_,h=>by simp at h
 | n + 1,f + 1,g + 1,o,l,r :: t,hn,hf,hg=>by
   have h1:=mY (l:=r :: t) (by simp)
   rw [yQ f o l (by simp),yQ g o l (by simp)]
   by_cases hr:(r :: t).drop (cK (r :: t))=[]
   ·rw [if_pos hr,if_pos hr]
   ·rw [if_neg hr,if_neg hr]
    have h2:=mY hr
    have h3:(((r :: t).drop (cK (r :: t))).drop (cK ((r :: t).drop (cK (r :: t))))).length≤t.length:=by
     have e1:((r :: t).drop (cK (r :: t))).length=(r :: t).length - cK (r :: t):=List.length_drop ..
     rw [List.length_drop,e1]
     simp only [List.length_cons] at h1 ⊢
     omega
    simp only [List.length_cons] at hn hf hg
    rw [FK n f g _ _ _ (by omega) (by omega) (by omega)]
theorem NB (o:List UInt8) (l:List RSet):zS o l []=⟨0,o,l⟩:=rfl
theorem KH (o:List UInt8) (l:List RSet) {rs:List Rec} (h:rs≠[]):zS o l rs =
 if rs.drop (cK rs)=[] then ZE.bad 2 else
 if rS o l (lN (rs.take (cK rs)) ((rs.drop (cK rs)).take (cK (rs.drop (cK rs)))))=0 then
  zS (FB o l (lN (rs.take (cK rs)) ((rs.drop (cK rs)).take (cK (rs.drop (cK rs)))))) (HJ o l (lN (rs.take (cK rs)) ((rs.drop (cK rs)).take (cK (rs.drop (cK rs)))))) ((rs.drop (cK rs)).drop (cK (rs.drop (cK rs))))
 else ZE.bad (if rS o l (lN (rs.take (cK rs)) ((rs.drop (cK rs)).take (cK (rs.drop (cK rs)))))=5 then 2 else rS o l (lN (rs.take (cK rs)) ((rs.drop (cK rs)).take (cK (rs.drop (cK rs)))))):=by
 cases rs with
 | nil=>exact absurd rfl h
 | cons r t =>
  have h1:=mY (l:=r :: t) (by simp)
  conv=>lhs;unfold zS
  rw [List.length_cons,yQ _ _ _ h]
  by_cases hr:(r :: t).drop (cK (r :: t))=[]
  ·rw [if_pos hr,if_pos hr]
  ·rw [if_neg hr,if_neg hr]
   have h2:=mY hr
   have h3:(((r :: t).drop (cK (r :: t))).drop (cK ((r :: t).drop (cK (r :: t))))).length≤t.length:=by
    have e1:((r :: t).drop (cK (r :: t))).length=(r :: t).length - cK (r :: t):=List.length_drop ..
    rw [List.length_drop,e1]
    simp only [List.length_cons] at h1 ⊢
    omega
   unfold zS
   rw [FK _ _ _ _ _ _ (Nat.le_refl _) h3 (Nat.le_refl _)]
def vG (oo:List UInt8) (lo:List RSet) (og:List UInt8) (l:List Rec):ZE :=
 if yO (l.getD 1 CR)=false then ⟨jW og l.dropLast,pN og l.dropLast,pO og l.dropLast⟩ else
 if lo=[] then ZE.bad 5 else zS oo lo (l.dropLast.drop 1)
def vH (oo:List UInt8) (lo:List RSet) (og:List UInt8) (l:List Rec):ZE :=
 if dM og≠0∨l.any (fun r => !decide (bC r=0))=true then ZE.bad 1 else
 if l=[] then ZE.bad 2 else
 if yO (uA l)=false∨fold (uA l).name≠fold og then ZE.bad 2 else
 if l.length=1 then ZE.bad 5 else
 if l.length=2∨l.getD (l.length - 1) CR≠uA l then ZE.bad 3 else
 let q:=vG oo lo og l
 if q.e≠0 then ZE.bad q.e else
 if (eF q.o q.l).serial≠NA (uA l) then ZE.bad 2 else
 if lo≠[]∧rT (eF q.o q.l).serial (eF oo lo).serial=false then ZE.bad 7 else q
theorem BO {o:List UInt8} {l:List Rec} (h:jW o l=0):ZoneOk (pN o l) (pO o l):=by
 have h0:=h
 unfold jW at h
 split at h
 ·rw [pN,if_pos h0,pO,if_pos h0];exact jC h
 ·rename_i q;exact absurd h q
theorem yR {o:List UInt8} {l:List Rec} (h:jW o l=0):pN o l=fold o:=by rw [pN,if_pos h]
theorem NC {o:List UInt8} {l:List RSet} {d:DeltaR} (h:rS o l d=0):ZoneOk (FB o l d) (HJ o l d)∧FB o l d=o:=by
 have h0:=h
 unfold rS at h
 split at h
 ·rename_i q0
  split at h
  ·cases hx:IL (aX l) d with
   | none=>rw [hx] at h;cases h
   | some m =>
    rw [hx] at h
    simp only at h
    unfold UX at h
    split at h
    ·rename_i q1
     have hz:=BO q1
     rw [FB,if_pos h0,HJ,if_pos h0,hx]
     simp only [Option.getD_some]
     refine ⟨hz,?_⟩
     rw [yR q1]
     exact (jC q0).fold
    ·rename_i q1;exact absurd h q1
  ·cases h
 ·rename_i q;exact absurd h q
theorem FL:∀ (n:Nat) (rs:List Rec),rs.length≤n→∀ (o:List UInt8) (l:List RSet),(zS o l rs).e=0→rs≠[]→ZoneOk (zS o l rs).o (zS o l rs).l∧(zS o l rs).o=o
 | 0,rs,hn,o,l,h,hne=>by
   have:rs=[]:=List.eq_nil_of_length_eq_zero (by omega)
   exact absurd this hne
 | n + 1,rs,hn,o,l,h,hne=>by
   have h1:=mY hne
   rw [KH o l hne] at h ⊢
   split at h
   ·cases h
   ·rename_i hr
    have h2:=mY hr
    rw [if_neg hr]
    split at h
    ·rename_i ha
     rw [if_pos ha]
     obtain ⟨z1,z2⟩:=NC ha
     by_cases hq:(rs.drop (cK rs)).drop (cK (rs.drop (cK rs)))=[]
     ·rw [hq,NB]
      exact ⟨z1,z2⟩
     ·obtain ⟨a,b⟩:=FL n _ (by simp only [List.length_drop] at *;omega) _ _ h hq
      exact ⟨a,b.trans z2⟩
    ·rename_i ha
     split at h
     ·cases h
     ·exact absurd h ha
theorem PJ {oo:List UInt8} {lo:List RSet} {og:List UInt8} {l:List Rec} (h:(vH oo lo og l).e=0) :
 ZoneOk (vH oo lo og l).o (vH oo lo og l).l∧((lo=[]∨oo=fold og)→(vH oo lo og l).o=fold og)∧(lo≠[]→rT (eF (vH oo lo og l).o (vH oo lo og l).l).serial (eF oo lo).serial=true):=by
 unfold vH at h ⊢
 split at h
 ·cases h
 ·rename_i c1
  rw [if_neg c1]
  split at h
  ·cases h
  ·rename_i c2
   rw [if_neg c2]
   split at h
   ·cases h
   ·rename_i c3
    rw [if_neg c3]
    split at h
    ·cases h
    ·rename_i c4
     rw [if_neg c4]
     split at h
     ·cases h
     ·rename_i c5
      rw [if_neg c5]
      simp only at h ⊢
      split at h
      ·rename_i c6;exact absurd h c6
      ·rename_i c6
       rw [if_neg c6]
       split at h
       ·cases h
       ·rename_i c7
        rw [if_neg c7]
        split at h
        ·cases h
        ·rename_i c8
         rw [if_neg c8]
         have hz:ZoneOk (vG oo lo og l).o (vG oo lo og l).l∧((lo=[]∨oo=fold og)→(vG oo lo og l).o=fold og):=by
          have h6:(vG oo lo og l).e=0:=by simpa using c6
          unfold vG at h6 ⊢
          split at h6
          ·rename_i d1
           rw [if_pos d1]
           exact ⟨BO h6,fun _=>yR h6⟩
          ·rename_i d1
           rw [if_neg d1]
           split at h6
           ·cases h6
           ·rename_i d2
            rw [if_neg d2]
            have hl:2 < l.length:=by
             have n0:l.length≠0:=fun e=>c2 (List.eq_nil_of_length_eq_zero e)
             have n2:l.length≠2:=fun e=>c5 (.inl e)
             omega
            obtain ⟨a,b⟩:=FL _ _ (Nat.le_refl _) oo lo h6 (by
             intro e
             have:=congrArg List.length e
             simp at this
             omega)
            exact ⟨a,fun hh=>by rcases hh with hh | hh;exact absurd hh d2;exact b.trans hh⟩
         refine ⟨hz.1,hz.2,fun hne => ?_⟩
         cases hb:rT (eF (vG oo lo og l).o (vG oo lo og l).l).serial (eF oo lo).serial with
         | true=>rfl
         | false=>exact absurd ⟨hne,hb⟩ c8
structure SecR where
 og:List UInt8
 retry:Int
 z:Option (List UInt8 × List RSet)
 next:Int
 til:Int
 take:Bool
def SecR.soa (s:SecR):SoaR:=match s.z with | none=>⟨[],[],0,s.retry,s.retry,0,0⟩ | some z=>eF z.1 z.2
def SecR.o (s:SecR):List UInt8:=match s.z with | none=>[] | some z=>z.1
def SecR.l (s:SecR):List RSet:=match s.z with | none=>[] | some z=>z.2
def HL (n:Int):Bool:=decide (0≤n) && decide (n≤1099511627776)
def SecR.news (s:SecR) (n:Int):Bool:=s.z.isNone || rT n s.soa.serial
def SecR.failed (s:SecR) (now:Int):SecR:=if HL now=true then { s with take:=false,next:=now + s.soa.retry } else s
def SecR.fresh (s:SecR) (now:Int):SecR:={ s with take:=false,next:=now + s.soa.refresh,til:=now + s.soa.expire }
def SecR.inst (s:SecR) (l:List Rec):ZE:=vH s.o s.l s.og l
def SecR.withZ (s:SecR) (q:ZE):SecR:={ s with z:=some (q.o,q.l) }
def SecR.got (s:SecR) (l:List Rec) (now:Int):SecR :=
 if HL now=false then s else
 if (s.inst l).e=5∧s.z.isSome=true then s.fresh now else
 if (s.inst l).e≠0 then s.failed now else (s.withZ (s.inst l)).fresh now
def SecR.up (s:SecR) (now:Int):Bool:=HL now && (s.z.isSome && decide (now < s.til))
def VB (og:List UInt8) (retry:Int):Int:=if dM og≠0∨retry < 1∨2147483647 < retry then 1 else 0
def HM (og:List UInt8) (retry:Int):SecR:=⟨og,retry,none,0,0,false⟩
structure SecOk (s:SecR):Prop where
 og:dM s.og=0
 retry:1≤s.retry∧s.retry≤2147483647
 zone:∀ o l,s.z=some (o,l)→ZoneOk o l∧o=fold s.og
theorem PK {o:List UInt8} {l:List RSet} (h:ZoneOk o l):(eF o l).ok=true:=by
 obtain ⟨s,_,_,_,_,_,hp,_⟩:=h.soaSet
 rw [eF,if_pos (mT h)]
 exact MR hp
theorem KI {o:List UInt8} {l:List RSet} (h:ZoneOk o l):0≤(eF o l).serial∧(eF o l).serial≤4294967295∧0≤(eF o l).refresh∧(eF o l).refresh≤2147483647∧0≤(eF o l).retry∧(eF o l).retry≤2147483647∧0≤(eF o l).expire∧(eF o l).expire≤2147483647:=by
 have:=PK h
 simp only [SoaR.ok,fZ,Bool.and_eq_true,decide_eq_true_eq] at this
 omega
theorem ZoneOk.ne {o:List UInt8} {l:List RSet} (h:ZoneOk o l):l≠[]:=by
 rintro rfl
 have:=h.soa
 simp [bB] at this
theorem SecOk.soa {s:SecR} (h:SecOk s):0≤s.soa.refresh∧s.soa.refresh≤2147483647∧0≤s.soa.retry∧s.soa.retry≤2147483647∧0≤s.soa.expire∧s.soa.expire≤2147483647:=by
 have hr:=h.retry
 unfold SecR.soa
 split
 ·simp only;omega
 ·rename_i z hz
  have:=KI (h.zone z.1 z.2 hz).1
  omega
theorem SecOk.old {s:SecR} (h:SecOk s):(s.l=[]↔s.z=none)∧(s.l=[]∨s.o=fold s.og):=by
 unfold SecR.l SecR.o
 split
 ·rename_i hz;simp [hz]
 ·rename_i z hz
  have:=h.zone z.1 z.2 hz
  refine ⟨⟨fun e=>absurd e this.1.ne,fun e=>by rw [hz] at e;cases e⟩, .inr this.2⟩
theorem SecOk.of {s t:SecR} (h:SecOk s) (h1:t.og=s.og) (h2:t.retry=s.retry) (h3:t.z=s.z):SecOk t:=⟨by rw [h1];exact h.og,by rw [h2];exact h.retry,by rw [h1,h3];exact h.zone⟩
theorem SecOk.new {og:List UInt8} {retry:Int} (h:VB og retry=0):SecOk (HM og retry):=by
 unfold VB at h
 split at h
 ·cases h
 ·rename_i c
  refine ⟨?_,?_,?_⟩
  ·unfold HM;simp only
   exact Decidable.byContradiction fun e=>c (.inl e)
  ·unfold HM;simp only
   omega
  ·intro o l e;cases e
theorem SecOk.failed {s:SecR} (h:SecOk s) (now:Int):SecOk (s.failed now):=by
 unfold SecR.failed;split <;> first | exact h | exact h.of rfl rfl rfl
theorem SecOk.fresh {s:SecR} (h:SecOk s) (now:Int):SecOk (s.fresh now):=h.of rfl rfl rfl
theorem SecOk.inst {s:SecR} (h:SecOk s) {l:List Rec} (he:(s.inst l).e=0):ZoneOk (s.inst l).o (s.inst l).l∧(s.inst l).o=fold s.og∧(∀ o l',s.z=some (o,l')→rT (eF (s.inst l).o (s.inst l).l).serial (eF o l').serial=true):=by
 obtain ⟨a,b,c⟩:=PJ (oo:=s.o) (lo:=s.l) (og:=s.og) he
 obtain ⟨h1,h2⟩:=h.old
 refine ⟨a,b h2,fun o l' hz => ?_⟩
 have:=c (fun e=>by rw [h1.1 e] at hz;cases hz)
 unfold SecR.o SecR.l at this
 rw [hz] at this
 unfold SecR.inst SecR.o SecR.l
 rw [hz]
 exact this
theorem SecOk.got {s:SecR} (h:SecOk s) (l:List Rec) (now:Int):SecOk (s.got l now):=by
 unfold SecR.got
 split
 ·exact h
 ·split
  ·exact h.fresh now
  ·split
   ·exact h.failed now
   ·rename_i c
    obtain ⟨a,b,_⟩:=h.inst (l:=l) (by simpa using c)
    refine SecOk.fresh (s:=s.withZ (s.inst l)) ⟨h.og,h.retry,?_⟩ now
    intro o l' e
    simp only [SecR.withZ,Option.some.injEq,Prod.mk.injEq] at e
    obtain ⟨rfl,rfl⟩:=e
    exact ⟨a,b⟩
open Go.ChangeShapes Go.WideShapes Go.ChangeAt Go.RowKit
theorem HN {H:Type} {enc:TypeId × Value→H} {w:World} {base:Nat} {spare:Nat→Bool} {held:Bool} {fuel:Nat} {v:Value} {x:DataW H × List MemPlace} (h:DataW.trod enc Tryz.prog w base spare held fuel 93 [v]=some x):∃ l:List (List UInt8),Sl 1 w v (aP l):=by
 obtain ⟨es,hs,he⟩:=mO Tryz.underlying93 (show Tryz.prog.cellsOf 9=1 by kernel_rfl) (by omega) h
 obtain ⟨l,rfl⟩:∃ l:List (List UInt8),es=l.map fun s=>[aI s]:=by
  refine qF fun c hc => ?_
  obtain ⟨n,y,hy⟩:=he c hc
  have hl:c.length=1:=by
   obtain ⟨_,_,_,_,_,h4,_,_⟩:=hs
   exact h4 c hc
  match c,hl with
  | [a],_ =>
   obtain ⟨s,rfl,_⟩:=lC Tryz.underlying9 hy
   exact ⟨s,rfl⟩
 exact ⟨l,hs⟩
theorem KJ {H:Type} {enc:TypeId × Value→H} {w:World} {base:Nat} {spare:Nat→Bool} {held:Bool} {fuel:Nat} {v:Value} {x:DataW H × List MemPlace} (h:DataW.trod enc Tryz.prog w base spare held fuel 48 [v]=some x):∃ l:List RSet,SetsAt w v l:=by
 obtain ⟨es,hs,he⟩:=mO Tryz.underlying48 (show Tryz.prog.cellsOf 131=4 by kernel_rfl) (by omega) h
 obtain ⟨l,rfl⟩:∃ l:List {p:RSet × Value // Sl 1 w p.2 (aP p.1.data)},es=l.map fun p=>[aI p.1.1.name, .int .i64 p.1.1.kind, .int .i64 p.1.1.ttl,p.1.2]:=by
  refine qF fun c hc => ?_
  obtain ⟨n,y,hy⟩:=he c hc
  obtain ⟨xs,n',_,_,hl,hxl,hf⟩:=DataW.trod_struct Tryz.underlying131 hy
  have c30:Tryz.prog.cellsOf 47=1:=by kernel_rfl
  have c3:Tryz.prog.cellsOf 3=1:=by kernel_rfl
  have c35:Tryz.prog.cellsOf 93=1:=by kernel_rfl
  have c37:Tryz.prog.cellsOf 131=4:=by kernel_rfl
  rw [c37] at hl
  match c,hl,xs,hxl with
  | [a,b,d,e],_,[y0,y1,y2,y3],_ =>
   have g0:=hf 0 _ rfl
   have g1:=hf 1 _ rfl
   have g2:=hf 2 _ rfl
   have g3:=hf 3 _ rfl
   simp [c30,c3,c35] at g0 g1 g2 g3
   obtain ⟨s0,rfl,_⟩:=lC Tryz.underlying47 g0
   obtain ⟨n1,rfl,_⟩:=iH Tryz.underlying3 g1
   obtain ⟨n2,rfl,_⟩:=iH Tryz.underlying3 g2
   obtain ⟨ts,hts⟩:=HN g3
   exact ⟨⟨(⟨s0,n1,n2,ts⟩,e),hts⟩,rfl⟩
 refine ⟨l.map fun p=>p.1.1,_,hs,by simp,?_⟩
 intro i s hi
 rw [List.getElem?_map] at hi
 obtain ⟨p,hp,rfl⟩:=Option.map_eq_some_iff.1 hi
 exact ⟨p.1.2,by rw [List.getElem?_map,hp];rfl,p.2⟩
open Go.ChangeShapes Go.WideShapes Go.ChangeAt Go.RowKit
theorem KK {H:Type} {enc:TypeId × Value→H} {w:World} {base:Nat} {spare:Nat→Bool} {held:Bool} {fuel:Nat} {c:Array Value} {x:DataW H × List MemPlace} (h:DataW.trod enc Tryz.prog w base spare held fuel 50 (Value.agg c).cells.toList=some x):∃ (o:List UInt8) (l:List RSet) (u:Value),c=#[aI o,u]∧SetsAt w u l:=by
 have e:(Value.agg c).cells.toList=c.toList:=rfl
 rw [e] at h
 obtain ⟨xs,n',_,_,hl,hxl,hf⟩:=DataW.trod_struct Tryz.underlying50 h
 have c30:Tryz.prog.cellsOf 47=1:=by kernel_rfl
 have c25:Tryz.prog.cellsOf 48=1:=by kernel_rfl
 have c43:Tryz.prog.cellsOf 50=2:=by kernel_rfl
 rw [c43] at hl
 obtain ⟨cl⟩:=c
 match cl,hl,xs,hxl with
 | [a,b],_,[y0,y1],_ =>
  have g0:=hf 0 _ rfl
  have g1:=hf 1 _ rfl
  simp [c30,c25] at g0 g1
  obtain ⟨s0,rfl,_⟩:=lC Tryz.underlying47 g0
  obtain ⟨l,hls⟩:=KJ g1
  exact ⟨s0,l,b,rfl,hls⟩
open Go.ChangeShapes Go.WideShapes Go.ChangeAt Go.RowKit
theorem own:ownKnob Tryz.prog.godebug=none:=by kernel_rfl
theorem IR:laidOutB Tryz.prog=true:=by kernel_rfl
theorem uD {H:Type} {enc:TypeId × Value→H} {w:World} {base:Nat} {spare:Nat→Bool} {held:Bool} {fuel:Nat} {v:Value} {x:DataW H × List MemPlace} (h:DataW.trod enc Tryz.prog w base spare held fuel 24 [v]=some x):∃ l:List Rec,Sl 4 w v (aO l):=by
 obtain ⟨es,hs,he⟩:=mO Tryz.underlying24 (show Tryz.prog.cellsOf 106=4 by kernel_rfl) (by omega) h
 obtain ⟨l,rfl⟩:∃ l:List Rec,es=l.map Rec.cells:=by
  refine qF fun c hc => ?_
  obtain ⟨n,y,hy⟩:=he c hc
  obtain ⟨xs,n',_,_,hl,hxl,hf⟩:=DataW.trod_struct Tryz.underlying106 hy
  have c30:Tryz.prog.cellsOf 47=1:=by kernel_rfl
  have c3:Tryz.prog.cellsOf 3=1:=by kernel_rfl
  have c9:Tryz.prog.cellsOf 9=1:=by kernel_rfl
  have c32:Tryz.prog.cellsOf 106=4:=by kernel_rfl
  rw [c32] at hl
  match c,hl,xs,hxl with
  | [a,b,d,e],_,[y0,y1,y2,y3],_ =>
   have g0:=hf 0 _ rfl
   have g1:=hf 1 _ rfl
   have g2:=hf 2 _ rfl
   have g3:=hf 3 _ rfl
   simp [c30,c3,c9] at g0 g1 g2 g3
   obtain ⟨s0,rfl,_⟩:=lC Tryz.underlying47 g0
   obtain ⟨n1,rfl,_⟩:=iH Tryz.underlying3 g1
   obtain ⟨n2,rfl,_⟩:=iH Tryz.underlying3 g2
   obtain ⟨s3,rfl,_⟩:=lC Tryz.underlying9 g3
   exact ⟨⟨s0,n1,n2,s3⟩,rfl⟩
 exact ⟨l,hs⟩
def SK:List UInt8:=[2,110,115,1,97,0,1,109,0,0,0,0,5,0,0,0,10,0,0,0,3,0,0,0,100,0,0,0,4]
def FM:List Rec:=[⟨[1,97],6,9,SK⟩,⟨[1,97],2,9,[2,110,115,1,97,0]⟩,⟨[2,110,115,1,97],1,9,[49,49,49,49]⟩]
def PL:List RSet:=[⟨[1,97],2,9,[[2,110,115,1,97,0]]⟩,⟨[1,97],6,9,[SK]⟩,⟨[2,110,115,1,97],1,9,[[49,49,49,49]]⟩]
theorem VC:∀ s ∈ PL,s.data.length≤1000000:=by decide +kernel
theorem VD:∀ r ∈ FM,r.data.length≤4611686018427387904:=by decide +kernel
theorem ND (w:World):Calls Tryz.prog 27 #[] w (oA w fun r w'=>Sl 4 w' r (aO FM)):=by
 go_enter Tryz.func27,Tryz.ntmps27
 refine_lift zN ?_;intro _ _ _
 refine_lift dR fun _ _ => ?_
 refine cH (v:=.agg #[aI [1,97], .int .i64 6, .int .i64 9,aI SK]) rfl (Runs.build rfl (by kernel_rfl)) ?_
 refine aA ?_
 refine cH (v:=.agg #[aI [1,97], .int .i64 2, .int .i64 9,aI [2,110,115,1,97,0]]) rfl (Runs.build rfl (by kernel_rfl)) ?_
 refine aA ?_
 refine cH (v:=.agg #[aI [2,110,115,1,97], .int .i64 1, .int .i64 9,aI [49,49,49,49]]) rfl (Runs.build rfl (by kernel_rfl)) ?_
 refine aA ?_
 refine bN (e:=106) (k:=4) (bytes:=48) (xs:=FM.map fun r=>.agg r.cells.toArray) rfl rfl rfl (by intro x hx;obtain ⟨r,_,rfl⟩:=List.mem_map.1 hx;rfl) (by decide +kernel) (by decide +kernel) ?_
 intro v1 w1 x1 s1 sl1 _
 have sl1':Sl 4 w1 v1 (aO FM):=by simpa [aO,Value.cells,List.map_map,Function.comp_def] using sl1
 refine aA ?_
 refine_lift bR ?_
 go_ret
 exact ⟨_,rfl,x1,sl1'⟩
end Go.Proofs.X
set_option linter.unusedSimpArgs false
set_option linter.unusedVariables false
namespace Go.Proofs.X
open Go.RowKit
end Go.Proofs.X
set_option linter.unusedSimpArgs false
set_option linter.unusedVariables false
namespace Go.Proofs.X
open Go.RowKit
set_option maxRecDepth 100000
section
variable {P:Program} {w:World} {ts:List Value} {df:List Deferred} {d:Option Nat} {ty:TypeId} {ps:String} {af:Array Edge} {g:Option (Nat × Bool)}
def CS (P:Program) (t:TypeId):Bool:=match P.underlying t with | some .bool=>true | _=>false
end
theorem yS {l:List RSet} (h:sP l=true):l.length≤25∧(∀ s ∈ l,s.data.length≤12)∧(∀ s ∈ l,s.name.length≤300)∧∀ s ∈ l,∀ d ∈ s.data,d.length≤300:=by
 simp only [sP,Bool.and_eq_true,decide_eq_true_eq,List.all_eq_true,qX] at h
 exact ⟨h.1,fun s hs=>(h.2 s hs).1.1,fun s hs=>(h.2 s hs).1.2,fun s hs d hd=>(h.2 s hs).2 d hd⟩
section
variable {P:Program} {ops:Array Oper} {Q:Exit→Act→World→Prop} {w:World} {rest:List Oper} {ts:List Value} {df:List Deferred} {ty:TypeId} {ps:String} {af:Array Edge} {g:Option (Nat × Bool)}
theorem Own.slf {B k e:Nat} {w:World} {v:Value} {es:List (List Value)} (h:Own B k e w v es):v=.slice none 0 0∧es=[]∨∃ g cap,v=.slice (some ⟨g,0,none⟩) es.length cap:=by
 rcases h.row.2 with ⟨h0,h1⟩ | ⟨g',cap',cur,fz,hv,_⟩
 ·exact .inl ⟨h0,List.eq_nil_of_length_eq_zero h1⟩
 ·exact .inr ⟨g',cap',hv⟩
end
end Go.Proofs.X
set_option linter.unusedSimpArgs false
set_option linter.unusedVariables false
namespace Go.Proofs.X
open Go.RowKit
end Go.Proofs.X
set_option linter.unusedSimpArgs false
set_option linter.unusedVariables false
namespace Go.Proofs.X
open Go.RowKit
set_option maxRecDepth 100000
def QU (d:List UInt8):Int:=if (cS d).isSome then 0 else 2
theorem FN (d:List UInt8) (w:World) (hl:d.length≤4611686018427387904):Calls Tryz.prog 106 #[aI d] w (bM w (.tuple #[.agg (gE d).cells.toArray, .int .i64 (QU d)])):=by
 have h:=WH d w hl
 unfold gE QU
 cases hp:cS d <;> (rw [hp] at h;exact h)
section
variable {α:Type} {os:List α} {q:Nat} {x:α}
end
def VP (x:Option Rec) (os:List Rec):Nat:=os.length + (match x with | some _=>1 | none=>0)
structure Sx (x:Option Rec) (os:List Rec) (q:Nat):Prop where
 non:∀ r ∈ os,yO r=false
 is:∀ r,x=some r→yO r=true∧q≤os.length
 no:x=none→os.length≤q
theorem Sx.to {x:Option Rec} {os:List Rec} {q q':Nat} (h:Sx x os q) (hq:q < VP x os) (hq':q' < VP x os):Sx x os q':=by
 cases x with
 | none=>have:=h.no rfl;simp [VP] at hq;omega
 | some r=>exact ⟨h.non,fun r' e=>⟨(h.is r' e).1,by simp [VP] at hq';omega⟩,fun e=>by cases e⟩
end Go.Proofs.X
set_option linter.unusedSimpArgs false
set_option linter.unusedVariables false
namespace Go.Proofs.X
open Go.RowKit
section
variable {P:Program} {w w':World} {d:Option Nat} {ty:TypeId} {ps:String} {af:Array Edge} {g:Option (Nat × Bool)}
end
section
variable {P:Program} {w w':World} {d:Option Nat} {ty:TypeId} {ps:String} {af:Array Edge} {g:Option (Nat × Bool)}
end
section
variable {P:Program} {ops:Array Oper} {rest:List Oper} {ts:List Value} {df:List Deferred} {ty:TypeId} {ps:String} {af:Array Edge} {g:Option (Nat × Bool)} {tys:Array TypeId}
end
end Go.Proofs.X
set_option linter.unusedSimpArgs false
set_option linter.unusedVariables false
namespace Go.Proofs.X
open Go.RowKit
set_option maxRecDepth 100000
def QV (f:FuncId) (l:List Rec) (p:Rec→Bool):Prop:=∀ r ∈ l,∀ w',Calls Tryz.prog f #[.agg #[aI r.name, .int .i64 r.kind, .int .i64 r.ttl,aI r.data]] w' (bM w' (.bool (p r)))
set_option maxHeartbeats 3000000 in
theorem CT (v:Value) (l:List Rec) (f:FuncId) (p:Rec→Bool) (w:World) (hv:Sl 4 w v (aO l)) (he:Enters Tryz.prog f) (hf:QV f l p):Calls Tryz.prog 149 #[v, .func (.func f) #[] #[]] w (bM w (.int .i64 (oP p l))):=by
 have hle:=hv.le
 have hlen:=aQ l
 go_enter Tryz.func149,Tryz.ntmps149
 (repeat' first | ((with_reducible refine cY ?_);go_step) | ((with_reducible refine cJ ?_);first | refine eS ?_ | (refine dD ?_ ?_ <;> intro hc)) | fail)
 go_loopw [5,8] (fun _ i wr=>∃ k:Nat,k≤l.length∧i=.int .i64 k∧Ext w wr∧(l.take k).any p=false) (fun _ i _=>l.length - (intOf i).toNat)
 case atStart=>exact ⟨0,Nat.zero_le _,rfl,Ext.refl _,rfl⟩
 case round =>
  obtain ⟨k,hk,rfl,hx,hall⟩:=hrel
  have hv2:=hv.ext hx
  by_cases hlt:k < l.length
  ·have hpe:=hv2.elem (gJ hlt)
   (repeat' first | ((with_reducible refine cY ?_);go_step) | ((with_reducible refine cJ ?_);first | refine eS ?_ | (refine dD ?_ ?_ <;> intro hc)) | fail)
   refine fL he rfl rfl rfl (hf _ (List.getElem_mem hlt) _) ?_
   rintro e w2 ⟨rfl,x2⟩
   refine ⟨_,rfl,?_⟩
   refine aA ?_
   cases hp:p l[k] with
   | true =>
    (repeat' first | ((with_reducible refine cY ?_);go_step) | ((with_reducible refine cJ ?_);first | refine eS ?_ | (refine dD ?_ ?_ <;> intro hc)) | fail)
    go_ret
    exact ⟨by rw [CN hlt hall hp];rfl,hx.trans x2⟩
   | false =>
    (repeat' first | ((with_reducible refine cY ?_);go_step) | ((with_reducible refine cJ ?_);first | refine eS ?_ | (refine dD ?_ ?_ <;> intro hc)) | fail)
    exact ⟨⟨k + 1,by omega,by go_num,hx.trans x2,iL hlt hall hp⟩,by simp [intOf];omega⟩
  ·have:k=l.length:=by omega
   subst this
   rw [List.take_length] at hall
   (repeat' first | ((with_reducible refine cY ?_);go_step) | ((with_reducible refine cJ ?_);first | refine eS ?_ | (refine dD ?_ ?_ <;> intro hc)) | fail)
   go_ret
   exact ⟨by rw [CO hall];rfl,hx⟩
theorem vT (v:Value) (l:List Rec) (f:FuncId) (p:Rec→Bool) (w:World) (hv:Sl 4 w v (aO l)) (he:Enters Tryz.prog f) (hf:QV f l p):Calls Tryz.prog 102 #[v, .func (.func f) #[] #[]] w (bM w (.bool (l.any p))):=by
 go_enter Tryz.func102,Tryz.ntmps102
 (repeat' first | ((with_reducible refine cY ?_);go_step) | ((with_reducible refine cJ ?_);first | refine eS ?_ | (refine dD ?_ ?_ <;> intro hc)) | fail)
 refine aD (enters_of Tryz.func149 rfl rfl) rfl rfl (CT v l f p _ hv he hf) ?_;intro w1 x1;refine aA ?_
 (repeat' first | ((with_reducible refine cY ?_);go_step) | ((with_reducible refine cJ ?_);first | refine eS ?_ | (refine dD ?_ ?_ <;> intro hc)) | fail)
 go_ret
 exact ⟨by rw [← wF];rfl,x1⟩
theorem parts {v:Value} {l:List Rec} {w:World} (hv:Sl 4 w v (aO l)) {n:Nat} (hn:n≤l.length):Sl 4 w (dU v 4 0 n) (aO (l.take n))∧Sl 4 w (dU v 4 n l.length) (aO (l.drop n)):=by
 have hlen:=aQ l
 have a:=hv.cut (m:=0) (n:=n) (by omega) (by omega)
 have b:=hv.cut (m:=n) (n:=l.length) (by omega) (by omega)
 rw [← hlen,List.take_length,hlen] at b
 exact ⟨by simpa [aO,List.map_take] using a,by simpa [aO,List.map_drop] using b⟩
def FO (v:Value):Nat:=match v with | .slice _ n _=>n | _=>0
theorem Sl.slLen {k:Nat} {w:World} {v:Value} {es:List (List Value)} (h:Sl k w v es):FO v=es.length:=by
 obtain ⟨a,cap,rfl,_⟩:=h
 rfl
def ZEU (B:Nat) (q:ZE) (r:Value) (w':World):Prop:=∃ y,r=.tuple #[.agg #[aI q.o,y], .int .i64 q.e]∧SetsO B w' y q.l
theorem ZEU.bad {B:Nat} {e:Int} {w':World}:ZEU B (ZE.bad e) (.tuple #[.agg mU.toArray, .int .i64 e]) w':=⟨.slice none 0 0,rfl,SetsO.nil _ _⟩
section
variable {P:Program} {a:Act} {w:World} {Q:Exit→Act→World→Prop}
theorem zT {c body:Code} (l:Nat) (J:Act→World→Prop) (μ:Act→World→Nat) (hf:findLabel c l=some (Code.skip.seq body))
 (pass:∀ a w,J a w→body.wp P (Exit.jump l (fun a' w'=>J a' w'∧μ a' w' < μ a w) Q) a w)
 (first:(∀ a w,J a w→body.wp P (Exit.jump l J Q) a w)→c.wp P (Exit.jump l J Q) a w):(Code.scope c).wp P Q a w :=
 wp_scope_jumps l J μ hf (first fun a w h=>wp_mono (pass a w h) (by intro e a' w' hq;cases e <;> first | exact hq | exact ⟨hq.1,hq.2.1⟩)) (fun a w h=>by
  have h':=pass a w h
  apply wp_seq_k
  intro K hK
  apply wp_skip
  exact hK _ _ h')
end
section
variable {P:Program} {w w':World} {d:Option Nat} {ty:TypeId} {ps:String} {af:Array Edge} {g:Option (Nat × Bool)} {a:Act}
end
theorem ZEU.cell {B:Nat} {q:ZE} {r:Value} {w:World} (h:ZEU B q r w):∃ y,r=.tuple #[.agg #[aI q.o,y], .int .i64 q.e]∧SetsO B w y q.l∧y.oneCell'=true:=by
 obtain ⟨y,rfl,hy⟩:=h
 obtain ⟨_,hq,_⟩:=hy.sets.sl
 exact ⟨y,rfl,hy,hq.one⟩
end Go.Proofs.X
set_option linter.unusedSimpArgs false
set_option linter.unusedVariables false
namespace Go.Proofs.X
open Go.RowKit
end Go.Proofs.X
set_option linter.unusedSimpArgs false
set_option linter.unusedVariables false
namespace Go.Proofs.X
open Go.RowKit
end Go.Proofs.X
set_option linter.unusedSimpArgs false
set_option linter.unusedVariables false
namespace Go.Proofs.X
open Go.RowKit
set_option maxRecDepth 100000
theorem SecOk.withZ {s:SecR} (h:SecOk s) {l:List Rec} (he:(s.inst l).e=0):SecOk (s.withZ (s.inst l)):=by
 obtain ⟨a,b,_⟩:=h.inst (l:=l) he
 refine ⟨h.og,h.retry,?_⟩
 intro o l' e
 simp only [SecR.withZ,Option.some.injEq,Prod.mk.injEq] at e
 obtain ⟨rfl,rfl⟩:=e
 exact ⟨a,b⟩
structure OpR where
 op:Int
 n:Int
 now:Int
 l:List Rec
theorem NE (room:Int) (ds:List DeltaR) (h:0≤room):((MT room ds).length:Int)=min (ds.length:Int) room:=by
 rw [MT,List.length_drop]
 omega
theorem SL {o:List UInt8} {a b:List RSet} (ha:ZoneOk o a) (hb:ZoneOk o b):UU o a o b=0:=by
 rw [UU,if_pos (mT ha),if_pos (mT hb),if_pos rfl]
end Go.Proofs.X
set_option linter.unusedSimpArgs false
set_option linter.unusedVariables false
namespace Go.Proofs.X
open Go.RowKit
end Go.Proofs.X
set_option linter.unusedSimpArgs false
set_option linter.unusedVariables false
namespace Go.Proofs.X
open Go.RowKit
set_option maxRecDepth 100000
end Go.Proofs.X
set_option linter.unusedSimpArgs false
set_option linter.unusedVariables false
namespace Go.Proofs.X
open Go.RowKit
section
variable {retry n now:Int} (h1:1≤retry) (h2:retry≤100000) (h3:0≤n) (h4:n≤4294967295) (h5:0≤now) (h6:now≤1000000)
include h5 h6
end
end Go.Proofs.X
set_option linter.unusedSimpArgs false
set_option linter.unusedVariables false
namespace Go.Proofs.X
open Go.RowKit
set_option maxRecDepth 100000
section
variable {now:Int} (h5:0≤now) (h6:now≤1000000)
include h5 h6
end
section
variable {n now:Int} (h5:0≤now) (h6:now≤1000000)
include h5 h6
end
structure OpsAt (w:World) (v:Value) (ps:List OpR):Prop where
 out:∃ css,Sl 4 w v css∧css.length=ps.length∧∀ (i:Nat) (p:OpR),ps[i]? = some p→∃ u,css[i]? = some [.int .i64 p.op, .int .i64 p.n, .int .i64 p.now,u]∧Sl 4 w u (aO p.l)
theorem OpsAt.ext {w w':World} {v:Value} {ps:List OpR} (h:OpsAt w v ps) (hx:Ext w w'):OpsAt w' v ps:=by
 obtain ⟨css,h1,h2,h3⟩:=h
 exact ⟨css,h1.ext hx,h2,fun i z hi=>let ⟨u,a,b⟩:=h3 i z hi;⟨u,a,b.ext hx⟩⟩
section
variable {P:Program} {w:World} {ts:List Value} {df:List Deferred} {d:Option Nat} {ty:TypeId} {ps:String} {af:Array Edge} {g:Option (Nat × Bool)}
end
structure MsgsAt (w:World) (v:Value) (ms:List MsgR):Prop where
 out:∃ css,Sl 13 w v css∧css.length=ms.length∧∀ (i:Nat) (m:MsgR),ms[i]? = some m→∃ q a u e,css[i]? = some (aW m q a u e)∧MsgV w m q a u e
theorem MsgsAt.ext {w w':World} {v:Value} {ms:List MsgR} (h:MsgsAt w v ms) (hx:Ext w w'):MsgsAt w' v ms:=by
 obtain ⟨css,h1,h2,h3⟩:=h
 exact ⟨css,h1.ext hx,h2,fun i m hi=>let ⟨q,a,u,e,b,c⟩:=h3 i m hi;⟨q,a,u,e,b,c.ext hx⟩⟩
theorem rU (a b:List Rec):aO (a ++ b)=aO a ++ aO b:=by simp [aO]
def gO:List Value:=[.int .i64 0, .bool false, .int .i64 0, .bool false, .bool false, .bool false, .bool false, .int .i64 0, .slice none 0 0, .slice none 0 0, .slice none 0 0, .slice none 0 0, .int .i64 0]
theorem cM {w:World} {m:MsgR} {q a u e:Value} (h:MsgV w m q a u e):(Value.agg (aW m q a u e).toArray).cells.all (·.oneCell')=true:=by
 have:=h.one
 simp only [Value.cells,List.all_toArray,List.all_eq_true]
 exact this
open Go.ChangeShapes Go.WideShapes Go.ChangeAt Go.RowKit
theorem kS {H:Type} {enc:TypeId × Value→H} {P:Program} {w:World} {base:Nat} {spare:Nat→Bool} {held:Bool} {t:TypeId} {fuel:Nat} {c:Value} {x:DataW H × List MemPlace} (ht:P.underlying t=some .bool) (h:DataW.trod enc P w base spare held fuel t [c]=some x):∃ b:Bool,c=.bool b:=by
 obtain ⟨b,h1,_⟩:=DataW.trod_bool ht h
 exact ⟨b,by simpa using h1⟩
theorem FP {H:Type} {enc:TypeId × Value→H} {w:World} {base:Nat} {spare:Nat→Bool} {held:Bool} {fuel:Nat} {v:Value} {x:DataW H × List MemPlace} (h:DataW.trod enc Tryz.prog w base spare held fuel 23 [v]=some x):∃ qs:List qS,Sl 2 w v (cU qs):=by
 obtain ⟨es,hs,he⟩:=mO Tryz.underlying23 (show Tryz.prog.cellsOf 54=2 by kernel_rfl) (by omega) h
 obtain ⟨l,rfl⟩:∃ l:List qS,es=l.map fun q=>[aI q.1, .int .i64 q.2]:=by
  refine qF fun c hc => ?_
  obtain ⟨n,y,hy⟩:=he c hc
  obtain ⟨xs,n',_,_,hl,hxl,hf⟩:=DataW.trod_struct Tryz.underlying54 hy
  have c3:Tryz.prog.cellsOf 3=1:=by kernel_rfl
  have c22:Tryz.prog.cellsOf 47=1:=by kernel_rfl
  have c65:Tryz.prog.cellsOf 54=2:=by kernel_rfl
  rw [c65] at hl
  match c,hl,xs,hxl with
  | [a,b],_,[y0,y1],_ =>
   have g0:=hf 0 _ rfl
   have g1:=hf 1 _ rfl
   simp [c3,c22] at g0 g1
   obtain ⟨s0,rfl,_⟩:=lC Tryz.underlying47 g0
   obtain ⟨n1,rfl,_⟩:=iH Tryz.underlying3 g1
   exact ⟨(s0,n1),rfl⟩
 exact ⟨l,hs⟩
theorem NF {H:Type} {enc:TypeId × Value→H} {w:World} {base:Nat} {spare:Nat→Bool} {held:Bool} {fuel:Nat} {cl:List Value} {x:DataW H × List MemPlace} (h:DataW.trod enc Tryz.prog w base spare held fuel 26 cl=some x) :
 ∃ (m:MsgR) (q a u e:Value),cl=aW m q a u e∧MsgV w m q a u e:=by
 obtain ⟨xs,n',_,_,hl,hxl,hf⟩:=DataW.trod_struct Tryz.underlying26 h
 have c3:Tryz.prog.cellsOf 3=1:=by kernel_rfl
 have c4:Tryz.prog.cellsOf 4=1:=by kernel_rfl
 have c5:Tryz.prog.cellsOf 23=1:=by kernel_rfl
 have c6:Tryz.prog.cellsOf 24=1:=by kernel_rfl
 have c7:Tryz.prog.cellsOf 26=13:=by kernel_rfl
 rw [c7] at hl
 match cl,hl,xs,hxl with
 | [a0,a1,a2,a3,a4,a5,a6,a7,a8,a9,a10,a11,a12],_,[y0,y1,y2,y3,y4,y5,y6,y7,y8,y9,y10,y11,y12],_ =>
  have g0:=hf 0 _ rfl
  have g1:=hf 1 _ rfl
  have g2:=hf 2 _ rfl
  have g3:=hf 3 _ rfl
  have g4:=hf 4 _ rfl
  have g5:=hf 5 _ rfl
  have g6:=hf 6 _ rfl
  have g7:=hf 7 _ rfl
  have g8:=hf 8 _ rfl
  have g9:=hf 9 _ rfl
  have g10:=hf 10 _ rfl
  have g11:=hf 11 _ rfl
  have g12:=hf 12 _ rfl
  simp [c3,c4,c5,c6] at g0 g1 g2 g3 g4 g5 g6 g7 g8 g9 g10 g11 g12
  obtain ⟨n0,rfl,_⟩:=iH Tryz.underlying3 g0
  obtain ⟨n1,rfl⟩:=kS Tryz.underlying4 g1
  obtain ⟨n2,rfl,_⟩:=iH Tryz.underlying3 g2
  obtain ⟨n3,rfl⟩:=kS Tryz.underlying4 g3
  obtain ⟨n4,rfl⟩:=kS Tryz.underlying4 g4
  obtain ⟨n5,rfl⟩:=kS Tryz.underlying4 g5
  obtain ⟨n6,rfl⟩:=kS Tryz.underlying4 g6
  obtain ⟨n7,rfl,_⟩:=iH Tryz.underlying3 g7
  obtain ⟨qs,h8⟩:=FP g8
  obtain ⟨l9,h9⟩:=uD g9
  obtain ⟨l10,h10⟩:=uD g10
  obtain ⟨l11,h11⟩:=uD g11
  obtain ⟨n12,rfl,_⟩:=iH Tryz.underlying3 g12
  exact ⟨⟨n0,n1,n2,n3,n4,n5,n6,n7,qs,l9,l10,l11,n12⟩,a8,a9,a10,a11,rfl,⟨h8,h9,h10,h11⟩⟩
end Go.Proofs.X
set_option linter.unusedSimpArgs false
set_option linter.unusedVariables false
namespace Go.Proofs.X
open Go.RowKit
end Go.Proofs.X
set_option linter.unusedSimpArgs false
set_option linter.unusedVariables false
namespace Go.Proofs.X
open Go.RowKit
set_option maxRecDepth 100000
set_option maxHeartbeats 12000000 in
theorem fK (v:Value) (l:List RSet) (w:World) (hv:SetsAt w v l) (hb:(aX l).length≤100000):Calls Tryz.prog 80 #[v] w (oA w fun r w'=>Own w.heap.size 4 106 w' r (aO (aX l))):=by
 obtain ⟨cv,hv1,hvl⟩:=hv.sl
 have hle:=hv1.le
 go_enter Tryz.func80,Tryz.ntmps80
 refine_lift zO ?_;intro _ _ _
 go_loopw [3,4,5] (fun o i _ wr=>∃ k:Nat,k≤l.length∧i=.int .i64 k∧Ext w wr∧Own w.heap.size 4 106 wr o (aO (jI l k))) (fun _ i _ _=>l.length - (intOf i).toNat)
 case atStart=>exact ⟨0,Nat.zero_le _,rfl,Ext.refl _,Own.nil _ _ _ _⟩
 case round =>
  obtain ⟨k,hk,rfl,hx,ho⟩:=hrel
  have hv2:=hv1.ext hx
  by_cases hlt:k < l.length
  ·obtain ⟨x,h4,h4d⟩:=hv.elem (List.getElem?_eq_getElem hlt)
   have hdl:=bA l[k].data
   have hdle:=h4d.le
   refine_lift oQ ?_;intro _ _ _ _
   go_loopw [3,5] (fun o i wq=>∃ j:Nat,j≤l[k].data.length∧i=.int .i64 j∧Ext w wq∧Own w.heap.size 4 106 wq o (aO (jI l k ++ (l[k].data.take j).map (mQ l[k])))) (fun _ i _=>l[k].data.length - (intOf i).toNat)
   case atStart=>exact ⟨0,Nat.zero_le _,rfl,hx,by simpa using ho⟩
   case round =>
    obtain ⟨j,hj,rfl,hxq,hoq⟩:=hrel
    have hv3:=hv1.ext hxq
    have h4q:=h4.ext hxq
    have h4dq:=h4d.ext hxq
    by_cases hlt2:j < l[k].data.length
    ·have h3:=h4d.elem (fM hlt2)
     have hle1:=ED l (k + 1)
     rw [nO hlt,List.length_append] at hle1
     have hle2:(cE l[k]).length=l[k].data.length:=by simp [cE]
     have hcl:(aO (jI l k ++ (l[k].data.take j).map (mQ l[k]))).length=(jI l k).length + j:=by simp [aO];omega
     refine_lift oQ ?_;intro _ _ _ _
     clear hv2 hv3 h4q h4dq
     refine dS (S:=fun w'=>Ext w w') (by decide +kernel) ?_
     intro w5 x5 hh5
     refine tk 0 ?_;refine aA ?_;refine tk 1 ?_;refine aA ?_;refine tk 2 ?_;refine aA ?_;refine tk 3 ?_;refine aA ?_;refine tk 4 ?_;refine aA ?_;refine tk 5 ?_;refine aA ?_;refine tk 6 ?_;refine aA ?_;refine tk 7 ?_;refine aA ?_;refine tk 8 ?_;refine aA ?_;refine tk 9 ?_;refine aA ?_;refine tk 10 ?_;refine aA ?_;refine tk 11 ?_;refine aA ?_;refine tk 12 ?_;refine aA ?_;refine tk 13 ?_;refine aA ?_;refine tk 14 ?_;refine aA ?_;refine tk 15 ?_;refine aA ?_;refine tk 16 ?_;refine aA ?_;refine tk 17 ?_;refine aA ?_;refine tk 18 ?_;refine aA ?_;refine tk 19 ?_;refine aA ?_;refine tk 20 ?_;refine aA ?_;refine tk 21 ?_;refine aA ?_;refine tk 22 ?_;refine aA ?_;refine tk 23 ?_;refine aA ?_
     refine cO (i:=24) (v:=.agg #[aI l[k].name, .int .i64 l[k].kind, .int .i64 l[k].ttl,aI l[k].data[j]]) rfl rfl (by decide +kernel) (by decide +kernel) (by decide +kernel) rfl (hxq.trans x5) (fun w' _=>Runs.build rfl (by kernel_rfl)) (fun _ _ _ h=>h) ?_
     refine aA ?_
     refine cA (i:=25) (by decide +kernel) rfl rfl ?_
     refine bN (e:=106) (k:=4) (bytes:=48) (xs:=[.agg #[aI l[k].name, .int .i64 l[k].kind, .int .i64 l[k].ttl,aI l[k].data[j]]]) rfl rfl rfl (by simp [Value.cells]) (by decide +kernel) (by simp) ?_
     intro v8 w8 x8 s8 sl8 _
     refine aA ?_
     have hx8:=(hxq.trans x5).trans x8
     refine aJ ⟨hx8,?_⟩
     refine cA (i:=26) (by decide +kernel) rfl rfl ?_
     have ho8:=(hoq.ext x5).ext x8
     refine bU (B:=w.heap.size) (e:=106) (k:=4) rfl ho8 rfl sl8 (by simp [Value.cells,aI,Value.oneCell']) hx8.size (by rw [hcl];simp;omega) ?_
     intro v9 w9 o9 m9 k9
     refine aA ?_
     have x9:Ext w w9:=ho8.mvx m9 hx8 (Nat.le_refl _)
     have o9:Own w.heap.size 4 106 w9 v9 (aO (jI l k ++ (l[k].data.take (j + 1)).map (mQ l[k]))):=by
      rw [fR hlt2,← List.append_assoc]
      simpa [aO,Rec.cells,mQ,Value.cells] using o9
     refine aJ ⟨x9,?_⟩
     refine cA (i:=27) (by decide +kernel) rfl rfl ?_
     refine_lift bR ?_
     refine ⟨x9,?_⟩
     refine dK (by decide +kernel) ?_
     refine_lift bR ?_
     exact ⟨⟨j + 1,by omega,by go_num,x9,o9⟩,by simp [intOf];omega⟩
    ·have:j=l[k].data.length:=by omega
     subst this
     refine_lift jP fun _ => ?_
     refine ⟨⟨k + 1,by omega,by go_num,hxq,?_⟩,by simp [intOf];omega⟩
     rw [nO hlt]
     rw [List.take_length] at hoq
     exact hoq
  ·have:k=l.length:=by omega
   subst this
   rw [AO] at ho
   refine_lift jP fun _ => ?_
   go_ret
   exact ⟨_,rfl,hx,ho⟩
end Go.Proofs.X
set_option linter.unusedSimpArgs false
set_option linter.unusedVariables false
namespace Go.Proofs.X
open Go.RowKit
end Go.Proofs.X
