/- Laws and walks that the proof of the statement is made of (part 13). -/
import Derived.Test.YtjabkigdeoopiaaGreatRows
import Derived.Test.YtjabkigdeoopiaaGreatP12
set_option linter.unusedSimpArgs false
set_option linter.unusedVariables false
set_option maxRecDepth 100000
set_option maxHeartbeats 20000000
namespace Go.Proofs.X
open Go.RowKit
variable {cs:Array Value} {held:Bool} {qt:Int} {ps rs:List (List UInt8 × Nat)} {ls:List (List UInt8)} {css css0 es:List (List Value)} {d l m n o qn s t x y z:List UInt8} {B a b base c e fuel i j k p q:Nat} {fz:Nat × Nat} {row:Option Nat} {r u v:Value} {w w' w0 w1 w2:World}
def Stands (s:List UInt8) (p:Nat) (y:List UInt8):Prop:=∃ a b,s=a ++ y ++ b∧a.length=p
theorem Stands.mono (h:Stands s p y) (hp:s <+: t):Stands t p y:=by
 obtain ⟨a,b,rfl,ha⟩:=h;obtain ⟨u,rfl⟩:=hp;exact ⟨a,b ++ u,bE,ha⟩
theorem Stands.left (h:Stands s p (y ++ z)):Stands s p y:=by
 obtain ⟨a,b,rfl,ha⟩:=h;exact ⟨a,z ++ b,bE,ha⟩
theorem Stands.right (h:Stands s p (y ++ z)):Stands s (p + y.length) z:=by
 obtain ⟨a,b,rfl,ha⟩:=h;exact ⟨a ++ y,b,bE,by simp [ha]⟩
theorem Stands.le (h:Stands s p y):p + y.length≤s.length:=by
 obtain ⟨a,b,rfl,ha⟩:=h;simp [ha]
theorem Stands.end_ (h:l ++ y <+: t):Stands t l.length y:=Stands.mono ⟨l,[],bE,rfl⟩ h
theorem Stands.get (h:Stands s p y):(s.drop p).take y.length=y:=by
 obtain ⟨a,b,rfl,rfl⟩:=h;rw [List.append_assoc,List.drop_left,List.take_left]
theorem Stands.take (h:Stands s p y) (k:Nat) (hk:y.length=k):RdS.take s ⟨(p:Nat),0⟩ (k:Nat)=(y,⟨((p + k:Nat):Int),0⟩):=by
 have h1:=h.le;subst hk;unfold RdS.take;rw [if_neg bE,if_neg (by dsimp only;omega)];dsimp only;rw [Int.toNat_natCast,Int.toNat_natCast,h.get,Int.natCast_add]
theorem Stands.number (h:Stands s p y) (k:Nat) (hk:y.length=k):RdS.number s ⟨(p:Nat),0⟩ (k:Nat)=(sK y,⟨((p + k:Nat):Int),0⟩):=by
 unfold RdS.number;rw [h.take k hk]
theorem KS {n:Nat} (h:n < 65536):sK (aK n)=n:=by
 simp [sK,aK];omega
theorem KT {n:Nat} (h:n < 4294967296):sK (fK n)=n:=by
 simp [sK,fK,aK];omega
theorem iL (n:Nat):(aK n).length=2:=rfl
theorem jV (n:Nat):(fK n).length=4:=rfl
theorem Stands.word {n:Nat} (h:Stands s p (aK n)) (hn:n < 65536):RdS.number s ⟨(p:Nat),0⟩ 2=(n,⟨((p + 2:Nat):Int),0⟩):=by
 have:=h.number 2 rfl
 rwa [KS hn] at this
theorem Stands.long {n:Nat} (h:Stands s p (fK n)) (hn:n < 4294967296):RdS.number s ⟨(p:Nat),0⟩ 4=(n,⟨((p + 4:Nat):Int),0⟩):=by
 have:=h.number 4 rfl
 rwa [KT hn] at this
theorem Stands.byte {a:UInt8} (h:Stands s p [a]):RdS.number s ⟨(p:Nat),0⟩ 1=(a.toNat,⟨((p + 1:Nat):Int),0⟩):=by
 have:=h.number 1 rfl
 simpa [sK] using this
inductive NameAt (s:List UInt8):Nat→Nat→List (List UInt8)→Nat→Prop
 | nil {p B:Nat}:Stands s p [0]→NameAt s p B [] (p + 1)
 | lab {p B e:Nat} {x:List UInt8} {ls:List (List UInt8)}:iT x=true→Stands s p (eS x)→NameAt s (p + 1 + x.length) B ls e→NameAt s p B (x :: ls) e
 | ptr {p B to e:Nat} {ls:List (List UInt8)}:Stands s p (aK (49152 ||| to))→to < 16384→to < B→NameAt s to to ls e→NameAt s p B ls (p + 2)
theorem NameAt.mono (hp:s <+: t) (h:NameAt s p B ls e):NameAt t p B ls e:=by
 induction h with
 | nil h=>exact .nil (h.mono hp)
 | lab hx h _ ih=>exact .lab hx (h.mono hp) ih
 | ptr h h1 h2 _ ih=>exact .ptr (h.mono hp) h1 h2 ih
theorem NameAt.bound (h:NameAt s p B ls e):∀ C,B≤C→NameAt s p C ls e:=by
 induction h with
 | nil h=>exact fun C _=>.nil h
 | lab hx h _ ih=>exact fun C hC=>.lab hx h (ih C hC)
 | ptr h h1 h2 h3 _=>exact fun C hC=>.ptr h h1 aC h3
theorem NameAt.lt (h:NameAt s p B ls e):p < s.length:=by
 cases h with
 | nil h=>have:=h.le;simp at this;omega
 | lab _ h _=>have:=h.le;simp [eS] at this;omega
 | ptr h=>have:=h.le;simp [aK] at this;omega
theorem sT (x:List UInt8) (ls:List (List UInt8)):enc (x :: ls)=eS x ++ enc ls:=by simp [enc,eS]
theorem lE (x:List UInt8):(eS x).length=x.length + 1:=by simp [eS]
theorem QT {n:Nat} (h:n < 16384):49152 ||| n=49152 + n:=by
 have h1:(3:Nat) <<< 14=49152:=rfl;rw [← h1,← Nat.shiftLeft_add_eq_or_of_lt (show n < 2 ^ 14 from h)]
theorem HG (hs:s.length≤100000000) (h:NameAt s p B ls e) :
 ∀ (f:Nat) (n:List UInt8) (back:Int),NmOk s ⟨n,(B:Nat),back,⟨(p:Nat),0⟩⟩→GX s ⟨n,(B:Nat),back,⟨(p:Nat),0⟩⟩ < f→n.length + (enc ls).length≤254 →
   yE s f ⟨n,(B:Nat),back,⟨(p:Nat),0⟩⟩=(n ++ enc ls,⟨if back < 0 then ((e:Nat):Int) else back,0⟩):=by
 induction h with
 | nil h =>
  intro f n back hok hf hl;obtain ⟨f,rfl⟩:∃ g,f=g + 1:=⟨f - 1,aC⟩;have hb:=h.byte;unfold yE;simp only [hb];rw [if_pos (.inr (by rfl))];unfold AU;simp only [ne_eq,not_true,if_false,enc,List.map_nil,List.flatten_nil,List.append_nil];by_cases hk:back < 0
  ·rw [if_pos hk,if_neg aC]
  ·rw [if_neg hk,if_pos aC]
 | @lab p B e x ls hx h _ ih =>
  intro f n back hok hf hl;obtain ⟨f,rfl⟩:∃ g,f=g + 1:=⟨f - 1,aC⟩;simp only [iT,Bool.and_eq_true,decide_eq_true_eq] at hx;have h1:Stands s p [UInt8.ofNat x.length]:=Stands.left (z:=x) (by simpa [eS] using h);have h2:Stands s (p + 1) x:=Stands.right (y:=[UInt8.ofNat x.length]) (by simpa [eS] using h);have hb:=h1.byte;have hk:(UInt8.ofNat x.length).toNat=x.length:=by simp;omega
  rw [hk] at hb;have ht:=h2.take x.length rfl;rw [sT,List.length_append,lE] at hl;obtain ⟨hok2,hm2⟩:=hok.next hs (by simp only [hb]);unfold yE;simp only [hb] at hok2 hm2 ⊢;rw [if_neg (fun h9=>h9.elim (fun h=>h rfl) (fun h=>by omega))];have hn:fP s ⟨n,(B:Nat),back,⟨(p:Nat),0⟩⟩ x.length ⟨((p + 1:Nat):Int),0⟩=⟨n ++ eS x,(B:Nat),back,⟨((p + 1 + x.length:Nat):Int),0⟩⟩:=by
   unfold fP;rw [if_pos aC];simp only [ht];unfold RdS.want;rw [if_neg (by simp;omega)];rfl
  rw [hn] at hok2 hm2 ⊢;rw [ih f _ back hok2 aC (by rw [List.length_append,lE];omega),sT,List.append_assoc]
 | @ptr p B to e ls h h1 h2 _ ih =>
  intro f n back hok hf hl;obtain ⟨f,rfl⟩:∃ g,f=g + 1:=⟨f - 1,aC⟩;rw [QT h1] at h;have g1:Stands s p [UInt8.ofNat ((49152 + to) / 256)]:=Stands.left (z:=[UInt8.ofNat (49152 + to)]) (by simpa [aK] using h);have g2:Stands s (p + 1) [UInt8.ofNat (49152 + to)]:=Stands.right (y:=[UInt8.ofNat ((49152 + to) / 256)]) (by simpa [aK] using h);have hb:=g1.byte;have hb2:=g2.byte;have hk:(UInt8.ofNat ((49152 + to) / 256)).toNat=192 + to / 256:=by simp;omega
  have hk2:(UInt8.ofNat (49152 + to)).toNat=to % 256:=by rw [UInt8.toNat_ofNat'];omega
  rw [hk] at hb;rw [hk2] at hb2;obtain ⟨hok2,hm2⟩:=hok.next hs (by simp only [hb]);unfold yE;simp only [hb] at hok2 hm2 ⊢;rw [if_neg (fun h9=>h9.elim (fun h=>h rfl) (fun h=>by omega))];have hw:RdS.want ⟨((p + 1:Nat):Int),0⟩ (decide (192≤192 + to / 256)) 2=⟨((p + 1:Nat):Int),0⟩:=by
   unfold RdS.want;rw [if_neg bE]
  have hto:nmTo s ⟨((p + 1:Nat):Int),0⟩ (192 + to / 256)=to:=by
   unfold nmTo;rw [hw,hb2];dsimp only;omega
  have hr4:tK s ⟨((p + 1:Nat):Int),0⟩ (192 + to / 256) (B:Nat)=⟨((p + 1 + 1:Nat):Int),0⟩:=by
   unfold tK;rw [hto,hw,hb2];unfold RdS.want;rw [if_neg (by simp;omega)]
  have hn:fP s ⟨n,(B:Nat),back,⟨(p:Nat),0⟩⟩ (192 + to / 256) ⟨((p + 1:Nat):Int),0⟩=⟨n,(to:Nat),if back < 0 then ((p + 1 + 1:Nat):Int) else back,⟨(to:Nat),0⟩⟩:=by
   unfold fP;rw [if_neg aC];dsimp only;rw [hto,hr4]
  rw [hn] at hok2 hm2 ⊢;rw [ih f _ _ hok2 aC hl];by_cases hb:back < 0
  ·simp only [if_pos hb];rw [if_neg aC]
  ·simp only [if_neg hb]
theorem EU (hs:s.length≤100000000) (h:NameAt s p p ls e) (hl:(enc ls).length≤254):fJ s ⟨(p:Nat),0⟩=(enc ls,⟨(e:Nat),0⟩):=by
 have hp:=h.lt;have hr:RdS.Ok s ⟨(p:Nat),0⟩:=⟨by dsimp only;omega,fun _=>by dsimp only;omega,by dsimp only;omega⟩;obtain ⟨h1,h2⟩:=rC hr;unfold fJ;rw [HG hs h _ [] (-1) h1 h2 (by simpa using hl)];rfl
def PlOk (s:List UInt8) (p:List UInt8 × Nat):Prop:=∃ ls e,p.1=enc ls∧ls.all iT=true∧NameAt s p.2 p.2 ls e
theorem PlOk.mono (hp:s <+: t) {p:List UInt8 × Nat} (h:PlOk s p):PlOk t p:=by
 obtain ⟨ls,e,h1,h2,h3⟩:=h;exact ⟨ls,e,h1,h2,h3.mono hp⟩
theorem QU {a b:List (List UInt8)} (ha:a.all iT=true) (hb:b.all iT=true) (h:enc a=enc b):a=b:=by
 have:=pJ ha;rw [h,pJ hb] at this;exact (Option.some.inj this).symm
theorem gF (ls:List (List UInt8)) (l:List UInt8) (ps:List (List UInt8 × Nat)):l <+: (aS ls l ps).1:=by
 obtain ⟨t,h,_⟩:=iW ls l ps;exact ⟨t,h.symm⟩
theorem vB:∀ (ls:List (List UInt8)) (l:List UInt8) (ps:List (List UInt8 × Nat)) (B:Nat),(∀ p ∈ ps,p.1.length≤(enc ls).length→p.2 < B∧PlOk l p)→B≤l.length→ls.all iT=true →
 NameAt (aS ls l ps).1 l.length B ls (aS ls l ps).1.length∧∀ p ∈ (aS ls l ps).2,p ∈ ps∨PlOk (aS ls l ps).1 p
 | [],l,ps,B,_,_,_=>by
   refine ⟨?_,fun p h=>.inl h⟩;have h:NameAt (l ++ [0]) l.length B [] (l.length + 1):=.nil (Stands.end_ (List.prefix_refl _))
   simpa [aS] using h
 | x :: ls,l,ps,B,hps,hB,hf=>by
   simp only [List.all_cons,Bool.and_eq_true] at hf;obtain ⟨hx,hl⟩:=hf;have step:∀ ps',(∀ p ∈ ps',p ∈ ps∨p=(enc (x :: ls),l.length)) →
    NameAt (aS ls (l ++ eS x) ps').1 l.length B (x :: ls) (aS ls (l ++ eS x) ps').1.length∧∀ p ∈ (aS ls (l ++ eS x) ps').2,p ∈ ps∨PlOk (aS ls (l ++ eS x) ps').1 p:=by
    intro ps' hp';have hpre:l ++ eS x <+: (aS ls (l ++ eS x) ps').1:=gF _ _ _;obtain ⟨g1,g2⟩:=vB ls (l ++ eS x) ps' B (by
     intro p hp hle;rcases hp' p hp with h | h
     ·obtain ⟨a1,a2⟩:=hps p h (by rw [sT,List.length_append];omega);exact ⟨a1,a2.mono (List.prefix_append _ _)⟩
     ·subst h;dsimp only at hle;rw [sT,List.length_append,lE] at hle;omega) (by rw [List.length_append];omega) hl
    rw [List.length_append,lE,show l.length + (x.length + 1)=l.length + 1 + x.length by omega] at g1;have g3:NameAt (aS ls (l ++ eS x) ps').1 l.length B (x :: ls) (aS ls (l ++ eS x) ps').1.length:=.lab hx (Stands.end_ hpre) g1;refine ⟨g3,fun p hp => ?_⟩;rcases g2 p hp with h | h
    ·rcases hp' p h with h | h
     ·exact .inl h
     ·subst h;exact .inr ⟨x :: ls,_,rfl,by simp [hx,hl],g3.bound _ hB⟩
    ·exact .inr h
   unfold aS;split
   ·rename_i p hfind;obtain ⟨hm,he⟩:=List.find?_eq_some_iff_append.1 hfind |>.imp_left (fun h=>h) |> fun h=>(⟨List.mem_of_find?_eq_some hfind,h.1⟩:p ∈ ps∧_)
    simp only [decide_eq_true_eq] at he;split
    ·rename_i hlt;obtain ⟨a1,a2⟩:=hps p hm (by rw [he];exact Nat.le_refl _);obtain ⟨ls',e,b1,b2,b3⟩:=a2;have hle:ls'=x :: ls:=QU b2 (by simp [hx,hl]) (b1.symm.trans he);subst hle;refine ⟨?_,fun p h=>.inl h⟩;have:=NameAt.ptr (Stands.end_ (List.prefix_refl (l ++ aK (49152 ||| p.2)))) hlt a1 (b3.mono (List.prefix_append l _))
     simpa [aK] using this
    ·exact step ps fun p h=>.inl h
   ·refine step _ fun p h => ?_;rw [List.mem_append,List.mem_singleton] at h;exact h
def Good (x:AV):Prop:=∀ p ∈ x.2,PlOk x.1 p
theorem Good.mono {l':List UInt8} (h:Good (l,ps)) (hp:l <+: l'):Good (l',ps):=fun p hm=>(h p hm).mono hp
theorem KU (h:Good (l,ps)) (hf:ls.all iT=true):NameAt (aS ls l ps).1 l.length l.length ls (aS ls l ps).1.length∧Good (aS ls l ps):=by
 obtain ⟨h1,h2⟩:=vB ls l ps l.length (fun p hp _=>by
  have:=h p hp;obtain ⟨_,_,_,_,h3⟩:=this;exact ⟨h3.lt,h p hp⟩) (Nat.le_refl _) hf
 refine ⟨h1,fun p hp => ?_⟩;rcases h2 p hp with g | g
 ·exact (h p g).mono (gF _ _ _)
 ·exact g
theorem mP (h:Good (l,ps)) (hn:(aM n).isSome=true) (hs:s.length≤100000000) (hp:(aS (cX n) l ps).1 <+: s) :
 fJ s ⟨(l.length:Nat),0⟩=(n,⟨((aS (cX n) l ps).1.length:Nat),0⟩)∧Good (aS (cX n) l ps):=by
 obtain ⟨f1,f2,f3⟩:=fR hn;obtain ⟨h1,h2⟩:=KU h f1;rw [EU hs (h1.mono hp) (by rw [f2];exact f3),f2];exact ⟨rfl,h2⟩
theorem tT (h:Good (l,ps)) (hn:(aM n).isSome=true) (hs:s.length≤100000000) (hp:(aS (cX n) l ps).1 <+: s) :
 RdS.host s ⟨(l.length:Nat),0⟩=(n ++ [0],⟨((aS (cX n) l ps).1.length:Nat),0⟩):=by
 unfold RdS.host;rw [(mP h hn hs hp).1];unfold IH;rw [if_pos hn]
theorem pT:∀ (ls:List (List UInt8)) (l l':List UInt8) (ps:List (List UInt8 × Nat)),l.length=l'.length→∃ t,(aS ls l ps).1=l ++ t∧(aS ls l' ps).1=l' ++ t∧(aS ls l ps).2=(aS ls l' ps).2
 | [],l,l',ps,_=>⟨[0],rfl,rfl,rfl⟩
 | x :: ls,l,l',ps,h=>by
   have step:∀ ps',∃ t,(aS ls (l ++ eS x) ps').1=l ++ t∧(aS ls (l' ++ eS x) ps').1=l' ++ t∧(aS ls (l ++ eS x) ps').2=(aS ls (l' ++ eS x) ps').2:=by
    intro ps';obtain ⟨t,h1,h2,h3⟩:=pT ls (l ++ eS x) (l' ++ eS x) ps' (by simp [h]);exact ⟨eS x ++ t,by rw [h1,List.append_assoc],by rw [h2,List.append_assoc],h3⟩
   unfold aS;rw [← h];split
   ·split
    ·exact ⟨_,rfl,rfl,rfl⟩
    ·exact step _
   ·exact step _
theorem CP (r:Rec) (l l':List UInt8) (ps:List (List UInt8 × Nat)) (h:l.length=l'.length):∃ t,(bP r l ps).1=l ++ t∧(bP r l' ps).1=l' ++ t∧(bP r l ps).2=(bP r l' ps).2:=by
 unfold bP;split
 ·obtain ⟨t,h1,h2,h3⟩:=pT (cX (dX r.data).main) l l' ps h;rw [h1,h2,h3];obtain ⟨u,k1,k2,k3⟩:=pT (cX (dX r.data).mail) (l ++ t) (l' ++ t) (aS (cX (dX r.data).main) l' ps).2 (by simp [h]);rw [k1,k2,k3];exact ⟨t ++ u ++ r.data.drop (r.data.length - 20),bE,bE,rfl⟩
 ·split
  ·obtain ⟨t,h1,h2,h3⟩:=pT (cX (aR r.kind r.data).1) (l ++ r.data.take (r.data.length - (aR r.kind r.data).1.length - 1)) (l' ++ r.data.take (r.data.length - (aR r.kind r.data).1.length - 1)) ps (by simp [h]);rw [h1,h2,h3];exact ⟨r.data.take (r.data.length - (aR r.kind r.data).1.length - 1) ++ t,bE,bE,rfl⟩
  ·exact ⟨r.data,rfl,rfl,rfl⟩
theorem KV (r:Rec) (l:List UInt8) (ps:List (List UInt8 × Nat)):∃ t,(bP r (l ++ aK t.length) ps).1=l ++ aK t.length ++ t∧(bP r (l ++ aK 0) ps).1=l ++ aK 0 ++ t∧iX r l ps=bP r (l ++ aK t.length) ps:=by
 obtain ⟨t,h1,h2,h3⟩:=CP r (l ++ aK 0) (l ++ aK ((bP r (l ++ aK 0) ps).1.length - l.length - 2)) ps (by simp [aK]);have ht:(bP r (l ++ aK 0) ps).1.length - l.length - 2=t.length:=by
  rw [h1];simp [aK]
 rw [ht] at h2 h3;refine ⟨t,h2,h1,?_⟩;unfold iX;rw [ht,h1,show (l ++ aK 0 ++ t).drop (l.length + 2)=t by rw [show l.length + 2=(l ++ aK 0).length by simp [aK],List.drop_left],← h2,h3]
theorem gD {r:RdS} {is:Bool} {e:Int} (h:is=true):r.want is e=r:=by
 unfold RdS.want;rw [if_neg (by simp [h])]
theorem KW (h:(cA d).isSome=true):∃ rest,d=(dX d).main ++ [0] ++ ((dX d).mail ++ [0] ++ rest)∧rest.length=20:=by
 unfold dX;unfold cA at h ⊢;dsimp only at h ⊢;split at h
 ·rename_i c;rw [if_pos c];obtain ⟨c1,c2,c3,c4⟩:=c;have a:=xN c1;have b:=xN c2;refine ⟨(bF (bF d).2.1).2.1,?_,c3⟩;show d=(bF d).1 ++ [0] ++ ((bF (bF d).2.1).1 ++ [0] ++ (bF (bF d).2.1).2.1);rw [← b.1,← a.1]
 ·cases h
theorem HH {k:Int} (h:(aR k d).2=0):∃ a,d=a ++ (aR k d).1 ++ [0]∧(a.length:Int)=fU k∧(k=2∨k=5∨k=12∨k=15∨k=33):=by
 unfold aR at h ⊢;split at h
 ·cases h
 ·rename_i c1;rw [if_neg c1];split at h
  ·cases h
  ·rename_i c2;rw [if_neg c2];cases hh:jF (d.drop (fU k).toNat) with
   | none=>rw [hh] at h;cases h
   | some n =>
    obtain ⟨g1,_⟩:=nL hh;refine ⟨d.take (fU k).toNat,?_,?_,?_⟩
    ·dsimp only;rw [List.append_assoc,← g1,List.take_append_drop]
    ·rw [List.length_take];omega
    ·unfold fU at c1;split at c1
     ·omega
     ·split at c1
      ·omega
      ·split at c1
       ·omega
       ·omega
theorem HI {r:Rec} (hr:aW r=0) (h:Good (l,ps)) (ht:(bP r l ps).1=l ++ t) (hs:s.length≤100000000) (hp:l ++ t <+: s) :
 RdS.data s ⟨(l.length:Nat),0⟩ r.kind (t.length:Nat)=(r.data,⟨((l ++ t).length:Nat),0⟩)∧Good (bP r l ps):=by
 have hle:=hp.length_le;have hok:=tO hr;have hfit:fits r.kind r.data=true:=by
  unfold aW at hr;split at hr
  ·cases hr
  ·split at hr
   ·cases hr
   ·rename_i c;cases hf:fits r.kind r.data with
    | true=>rfl
    | false=>exact absurd (by simp [hf]) c
 have w1:RdS.want ⟨(l.length:Nat),0⟩ (decide (((l.length:Nat):Int) + ((t.length:Nat):Int)≤(s.length:Int))) 3=⟨(l.length:Nat),0⟩:=gD (by simp at hle ⊢;omega);have w2:RdS.want ⟨((l ++ t).length:Nat),0⟩ (decide ((((l ++ t).length:Nat):Int)=((l.length:Nat):Int) + ((t.length:Nat):Int))) 2=⟨((l ++ t).length:Nat),0⟩:=gD bE;unfold RdS.data;dsimp only;rw [w1];simp only [ne_eq,not_true,if_false];by_cases k6:r.kind=6
 ·have hS:(cA r.data).isSome=true:=by
   rw [k6] at hfit
   simpa [fits] using hfit
  obtain ⟨s1,s2,_⟩:=hok.soa k6;obtain ⟨rest,hd,hrl⟩:=KW hS;have hdrop:r.data.drop (r.data.length - 20)=rest:=by
   have e:r.data.length - 20=((dX r.data).main ++ [0] ++ ((dX r.data).mail ++ [0])).length:=by
    have:=congrArg List.length hd;simp at this ⊢;omega
   have hd2:r.data=((dX r.data).main ++ [0] ++ ((dX r.data).mail ++ [0])) ++ rest:=hd.trans bE;rw [e];exact (congrArg (List.drop _) hd2).trans List.drop_left
  unfold bP at ht ⊢;rw [if_pos k6] at ht ⊢;dsimp only at ht ⊢;rw [hdrop] at ht ⊢;have p2:(aS (cX (dX r.data).mail) (aS (cX (dX r.data).main) l ps).1 (aS (cX (dX r.data).main) l ps).2).1 <+: l ++ t:=⟨rest,ht⟩;have p1:=(gF (cX (dX r.data).mail) (aS (cX (dX r.data).main) l ps).1 (aS (cX (dX r.data).main) l ps).2).trans p2;have g1:=mP h s1 hs (p1.trans hp);have g1':=tT h s1 hs (p1.trans hp);have g2:=mP g1.2 s2 hs (p2.trans hp);have g2':=tT g1.2 s2 hs (p2.trans hp);have g3:Stands s (aS (cX (dX r.data).mail) (aS (cX (dX r.data).main) l ps).1 (aS (cX (dX r.data).main) l ps).2).1.length rest:=Stands.end_ (by rw [ht];exact hp);have g3':=g3.take 20 hrl;rw [if_neg aC,if_neg aC,if_pos k6];simp only [g1',g2'];have hlen:=congrArg List.length ht;rw [List.length_append,hrl] at hlen;rw [hlen] at g3';rw [show ((20:Int))=((20:Nat):Int) from rfl,g3'];dsimp only;rw [w2];refine ⟨?_,fun p hp'=>(g2.2 p hp').mono (List.prefix_append _ _)⟩;rw [Prod.mk.injEq];refine ⟨?_,rfl⟩;rw [List.append_assoc];exact hd.symm
 ·by_cases hh:(aR r.kind r.data).2=0∧r.kind≠33
  ·obtain ⟨hn,hnl⟩:=tN hh.1;obtain ⟨a,hd,hal,hk⟩:=HH hh.1;have hb:bP r l ps=aS (cX (aR r.kind r.data).1) (l ++ r.data.take (r.data.length - (aR r.kind r.data).1.length - 1)) ps:=by
    unfold bP;rw [if_neg k6,if_pos hh]
   have ht':=ht;rw [hb] at ht' ⊢;generalize (aR r.kind r.data).1=n at *;have htake:r.data.take (r.data.length - n.length - 1)=a:=by
    have e:r.data.length - n.length - 1=a.length:=by
     have:=congrArg List.length hd;simp at this;omega
    rw [e,hd,List.append_assoc,List.take_left]
   rw [htake] at ht' ⊢;have g:=mP (h.mono (List.prefix_append l a)) hn hs (by rw [ht'];exact hp);have g':=tT (h.mono (List.prefix_append l a)) hn hs (by rw [ht'];exact hp);rw [ht'] at g';refine ⟨?_,g.2⟩;by_cases k15:r.kind=15
   ·have hal2:a.length=2:=by
     rw [k15] at hal;have:fU 15=2:=rfl;omega
    have g3:Stands s l.length a:=Stands.end_ ((gF (cX n) (l ++ a) ps).trans (by rw [ht'];exact hp));have g3':RdS.take s ⟨(l.length:Nat),0⟩ 2=_:=g3.take 2 hal2;rw [if_neg aC,if_pos k15,g3'];dsimp only;rw [List.length_append,hal2] at g';rw [g'];dsimp only;rw [show (l ++ t).length=l.length + t.length from List.length_append] at w2;rw [List.length_append,w2,hd,List.append_assoc]
   ·have hal0:a=[]:=by
     have:fU r.kind=0:=by
      unfold fU;rw [if_neg hh.2,if_neg k15,if_pos aC]
     exact List.eq_nil_of_length_eq_zero aC
    subst hal0;rw [if_pos aC];rw [List.append_nil] at g';rw [g'];dsimp only;rw [w2,hd];rfl
  ·unfold bP at ht ⊢;rw [if_neg k6,if_neg hh] at ht ⊢;have htd:t=r.data:=(List.append_cancel_left ht).symm;subst htd;have hk:¬ (r.kind=2∨r.kind=5∨r.kind=12)∧r.kind≠15:=by
    have hx:∀ k:Int,(k=2∨k=5∨k=12∨k=15)→r.kind=k→False:=by
     intro k hk e;apply hh;refine ⟨?_,aC⟩;have hne:(aR r.kind r.data).2≠2:=by
      rw [e] at hfit ⊢;unfold fits at hfit;rw [if_neg aC,if_neg aC,if_neg aC,if_neg aC] at hfit
      simpa using hfit
     have hah:¬ fU r.kind < 0:=by
      rw [e];rcases hk with rfl | rfl | rfl | rfl <;> decide
     unfold aR at hne ⊢;rw [if_neg hah] at hne ⊢;split
     ·rename_i c;rw [if_pos c] at hne;exact absurd rfl hne
     ·rename_i c;rw [if_neg c] at hne;split
      ·rename_i c2;rw [c2] at hne;exact absurd rfl hne
      ·rfl
    refine ⟨fun c => ?_,fun c=>hx 15 aC c⟩;rcases c with c | c | c
    ·exact hx 2 aC c
    ·exact hx 5 aC c
    ·exact hx 12 aC c
   have g3:Stands s l.length r.data:=Stands.end_ hp;have g3':=g3.take r.data.length rfl;rw [if_neg hk.1,if_neg hk.2,if_neg k6,g3'];dsimp only;rw [show (l ++ r.data).length=l.length + r.data.length from List.length_append] at w2 ⊢;rw [w2];exact ⟨rfl,h.mono (List.prefix_append _ _)⟩
theorem rF (h:Good (l,ps)) (hn:(aM n).isSome=true) (hk:k < 65536) (hc:c < 65536) (hs:s.length≤100000000)
 (hp:(aS (cX n) l ps).1 ++ aK k ++ aK c <+: s):eQ s ⟨(l.length:Nat),0⟩=⟨n,k,c,⟨(((aS (cX n) l ps).1 ++ aK k ++ aK c).length:Nat),0⟩⟩∧Good ((aS (cX n) l ps).1 ++ aK k ++ aK c,(aS (cX n) l ps).2):=by
 have p1:(aS (cX n) l ps).1 ++ aK k <+: s:=(List.prefix_append _ _).trans hp;have g:=mP h hn hs ((List.prefix_append _ _).trans p1);have g1:=(Stands.end_ p1).word hk;have g2:=(Stands.end_ hp).word hc;rw [List.length_append,iL] at g2;refine ⟨?_,g.2.mono ((List.prefix_append _ _).trans (List.prefix_append _ _))⟩;unfold eQ;rw [g.1];dsimp only;rw [g1];dsimp only;rw [g2,List.length_append,List.length_append,iL,iL]
theorem QV {x:AV} (h:Good x) {q:gE} (hq:mD q=true) (hs:s.length≤100000000) (hp:(qW x q).1 <+: s) :
 eQ s ⟨(x.1.length:Nat),0⟩=⟨q.1,q.2.toNat,1,⟨((qW x q).1.length:Nat),0⟩⟩∧Good (qW x q):=by
 obtain ⟨h1,h2,h3⟩:=yJ hq;obtain ⟨l,ps⟩:=x;exact rF (k:=q.2.toNat) (c:=1) h h1 aC aC hs hp
theorem KX (x:AV) (q:gE):x.1 <+: (qW x q).1:=by
 unfold qW;rw [List.append_assoc];exact (gF _ _ _).trans (List.prefix_append _ _)
theorem tU:∀ (qs:List gE) (x:AV),x.1 <+: (qs.foldl qW x).1
 | [],_=>List.prefix_refl _
 | q :: qs,x=>(KX x q).trans (tU qs _)
theorem IS (hs:s.length≤100000000):∀ (qs:List gE) (x:AV) (acc:List gE),Good x→(∀ q ∈ qs,mD q=true)→(qs.foldl qW x).1 <+: s →
 NK s qs.length acc ⟨(x.1.length:Nat),0⟩=(acc ++ qs,⟨((qs.foldl qW x).1.length:Nat),0⟩)∧Good (qs.foldl qW x)
 | [],x,acc,h,_,_=>by simpa [NK] using h
 | q :: qs,x,acc,h,hq,hp=>by
   have hq0:=hq q bE;obtain ⟨h1,h2⟩:=QV h hq0 hs ((tU qs (qW x q)).trans hp);obtain ⟨k1,k2,k3⟩:=yJ hq0;have hk:((q.2.toNat:Nat):Int)=q.2:=aC;obtain ⟨h3,h4⟩:=IS hs qs (qW x q) (acc ++ [q]) h2 (fun y hy=>hq y (by simp [hy])) hp;refine ⟨?_,h4⟩;rw [List.length_cons,NK,if_neg bE,h1];unfold IL;dsimp only;rw [gD (by rw [hk];simpa using hq0),hk];rw [h3,List.append_assoc];rfl
theorem zC (r:Rec) (l:List UInt8) (ps:List (List UInt8 × Nat)):l <+: (iX r l ps).1:=by
 unfold iX;rw [List.append_assoc];exact List.prefix_append _ _
theorem EV (x:AV) (r:Rec):x.1 <+: (fC x r).1:=by
 refine List.IsPrefix.trans ?_ (zC _ _ _);rw [List.append_assoc,List.append_assoc];exact (gF _ _ _).trans (List.prefix_append _ _)
theorem jG:∀ (l:List Rec) (x:AV),x.1 <+: (l.foldl fC x).1
 | [],_=>List.prefix_refl _
 | r :: l,x=>(EV x r).trans (jG l _)
theorem KY {x:AV} (h:Good x) {r:Rec} (hr:aW r=0) (hs:s.length≤100000000) (hp:(fC x r).1 <+: s) :
 Good (fC x r)∧((eQ s ⟨(x.1.length:Nat),0⟩).kind:Int)=r.kind∧tP s (eQ s ⟨(x.1.length:Nat),0⟩)=r∧(nQ s (eQ s ⟨(x.1.length:Nat),0⟩)).2=⟨((fC x r).1.length:Nat),0⟩:=by
 have ok:=tO hr;have b1:=ok.k0;have b2:=ok.k1;have b3:=ok.t0;have b4:=ok.t1;obtain ⟨l,ps⟩:=x;have e0:fC (l,ps) r=iX r ((aS (cX r.name) l ps).1 ++ aK r.kind.toNat ++ aK 1 ++ fK r.ttl.toNat) (aS (cX r.name) l ps).2:=rfl;obtain ⟨y,hyl,hyn⟩:=yH ok ((aS (cX r.name) l ps).1 ++ aK r.kind.toNat ++ aK 1 ++ fK r.ttl.toNat) (aS (cX r.name) l ps).2;obtain ⟨t,e1,_,e2⟩:=KV r ((aS (cX r.name) l ps).1 ++ aK r.kind.toNat ++ aK 1 ++ fK r.ttl.toNat) (aS (cX r.name) l ps).2;have htl:t.length < 65536:=by
  have:=congrArg List.length (hyl.symm.trans ((congrArg Prod.fst e2).trans e1));simp [aK] at this;omega
 rw [e0,e2] at hp ⊢;rw [e1] at hp ⊢;have p1:(aS (cX r.name) l ps).1 ++ aK r.kind.toNat ++ aK 1 ++ fK r.ttl.toNat ++ aK t.length <+: s:=(List.prefix_append _ _).trans hp;have p2:(aS (cX r.name) l ps).1 ++ aK r.kind.toNat ++ aK 1 ++ fK r.ttl.toNat <+: s:=(List.prefix_append _ _).trans p1;have p3:(aS (cX r.name) l ps).1 ++ aK r.kind.toNat ++ aK 1 <+: s:=(List.prefix_append _ _).trans p2;obtain ⟨h1,h2⟩:=rF h ok.nm (show r.kind.toNat < 65536 by omega) (show 1 < 65536 by omega) hs p3;generalize (aS (cX r.name) l ps).1 ++ aK r.kind.toNat ++ aK 1=L at *;have g1:=(Stands.end_ p2).long (show r.ttl.toNat < 4294967296 by omega);have g2:=(Stands.end_ p1).word htl;rw [List.length_append,jV] at g2;obtain ⟨d1,d2⟩:=HI hr (h2.mono (show L <+: L ++ fK r.ttl.toNat ++ aK t.length by rw [List.append_assoc];exact List.prefix_append _ _)) e1 hs hp;have eL:(L ++ fK r.ttl.toNat ++ aK t.length).length=L.length + 4 + 2:=by rw [List.length_append,List.length_append,jV,iL]
 rw [eL] at d1;have eT:lH s ⟨r.name,r.kind.toNat,1,⟨(L.length:Nat),0⟩⟩=(r.ttl.toNat,⟨((L.length + 4:Nat):Int),0⟩):=by
  unfold lH;dsimp only;rw [gD bE,g1]
 have hk:((r.kind.toNat:Nat):Int)=r.kind:=aC;have ht:((r.ttl.toNat:Nat):Int)=r.ttl:=aC;have eD:nQ s ⟨r.name,r.kind.toNat,1,⟨(L.length:Nat),0⟩⟩=(r.data,⟨((L ++ fK r.ttl.toNat ++ aK t.length ++ t).length:Nat),0⟩):=by
  unfold nQ;rw [eT];dsimp only;rw [g2];dsimp only;rw [hk,d1]
 refine ⟨d2,?_,?_,?_⟩
 ·rw [h1];exact hk
 ·rw [h1];unfold tP;rw [eT,eD];dsimp only;rw [hk,ht]
 ·rw [h1,eD]
theorem tV (hs:s.length≤100000000) (last:Bool) (n f:Nat):∀ (l:List Rec) (x:AV) (acc:List Rec) (i:Nat),Good x→(∀ r ∈ l,aW r=0)→(l.foldl fC x).1 <+: s→i + l.length≤200 →
 lC s last n (l.length + f) i acc ⟨(x.1.length:Nat),0⟩=lC s last n f (i + l.length) (acc ++ l) ⟨((l.foldl fC x).1.length:Nat),0⟩∧Good (l.foldl fC x)
 | [],x,acc,i,h,_,_,_=>by simpa using h
 | r :: l,x,acc,i,h,hr,hp,hi=>by
   rw [List.length_cons] at hi;have hr0:=hr r bE;obtain ⟨h1,h2,h3,h4⟩:=KY h hr0 hs ((jG l (fC x r)).trans hp);obtain ⟨h5,h6⟩:=tV hs last n f l (fC x r) (acc ++ [r]) (i + 1) h1 (fun y hy=>hr y (by simp [hy])) hp aC;have hk41:r.kind≠41:=by
    intro e;unfold aW at hr0;rw [if_pos (.inl e)] at hr0;cases hr0
   refine ⟨?_,h6⟩;rw [List.length_cons,show l.length + 1 + f=(l.length + f) + 1 by omega,lC,if_neg bE,if_neg (by rintro ⟨c,_⟩;rw [c] at h2;exact hk41 h2.symm),h3];unfold sQ;rw [h4,h3,gD (by simp [hr0];omega),h5,List.append_assoc];rw [show i + 1 + l.length=i + (l.length + 1) by omega];rfl
def IT (a b:Nat) (r u t w v:Bool):Bool :=
 let f:=(((((flagN r 32768 ||| a * 2048) ||| flagN u 1024) ||| flagN t 512) ||| flagN w 256) ||| flagN v 128) ||| b
 decide (f < 65536) && decide (f &&& 112=0) && decide (f / 2048 &&& 15=a) && decide (f &&& 15=b) && (aO f 32768 == r) && (aO f 1024 == u) && (aO f 512 == t) && (aO f 256 == w) && (aO f 128 == v)
theorem KZ:∀ (a b:Fin 16) (r u t w v:Bool),IT a.1 b.1 r u t w v=true:=zDk
theorem HJ {m:MsgR} (h:MsgOk m):gG m < 65536∧gG m &&& 112=0∧((gG m / 2048 &&& 15:Nat):Int)=m.op∧((gG m &&& 15:Nat):Int)=m.rcode∧aO (gG m) 32768=m.resp∧aO (gG m) 1024=m.auth∧aO (gG m) 512=m.trunc∧aO (gG m) 256=m.want∧aO (gG m) 128=m.avail:=by
 have h1:=h.op;have h2:=h.rc;have:=KZ ⟨m.op.toNat,aC⟩ ⟨m.rcode.toNat,aC⟩ m.resp m.auth m.trunc m.want m.avail;simp only [IT,Bool.and_eq_true,decide_eq_true_eq,beq_iff_eq] at this;obtain ⟨⟨⟨⟨⟨⟨⟨⟨a1,a2⟩,a3⟩,a4⟩,a5⟩,a6⟩,a7⟩,a8⟩,a9⟩:=this;refine ⟨a1,a2,?_,?_,a5,a6,a7,a8,a9⟩
 ·refine (congrArg (fun n:Nat=>(n:Int)) a3).trans ?_;omega
 ·refine (congrArg (fun n:Nat=>(n:Int)) a4).trans ?_;omega
theorem CQ (m:MsgR):(fE m).length=12:=rfl
theorem EW {a b c e f:List UInt8} (h:a ++ b ++ c ++ d ++ e ++ f <+: s):Stands s 0 a∧Stands s a.length b∧Stands s (a ++ b).length c∧Stands s (a ++ b ++ c).length d∧Stands s (a ++ b ++ c ++ d).length e∧Stands s (a ++ b ++ c ++ d ++ e).length f:=by
 have h5:=(List.prefix_append (a ++ b ++ c ++ d ++ e) f).trans h;have h4:=(List.prefix_append (a ++ b ++ c ++ d) e).trans h5;have h3:=(List.prefix_append (a ++ b ++ c) d).trans h4;have h2:=(List.prefix_append (a ++ b) c).trans h3;have h1:=(List.prefix_append a b).trans h2;exact ⟨Stands.end_ (l:=[]) h1, .end_ h2, .end_ h3, .end_ h4, .end_ h5, .end_ h⟩
theorem qG {m:MsgR} (h:bZ m=0) (hl:(iA m).length≤65535):cK (iA m)=(m,0):=by
 have ok:=iY h;have hs:(iA m).length≤100000000:=aC;have i1:=ok.id;have iz:=ok.sz;have iq:=ok.ql;have ia:=ok.nl;have iu:=ok.ul;have ix:=ok.el;have e0:iA m=(gY m).1 ++ sO m:=rfl;have pB:(gY m).1 <+: iA m:=⟨_,rfl⟩;have eb:gY m=m.ex.foldl fC (m.au.foldl fC (m.an.foldl fC (m.qs.foldl qW (fE m,[])))):=rfl;generalize iA m=s at *;rw [eb] at pB;have pU:=(jG m.ex _).trans pB;have pA:=(jG m.au _).trans pU;have pQ:=(jG m.an _).trans pA;have pH:=(tU m.qs (fE m,[])).trans pQ;obtain ⟨f1,f2,f3,f4,f5,f6,f7,f8,f9⟩:=HJ ok;have hcx:m.ex.length + flagN (!decide (m.size=0)) 1≤201:=by
  have:=kM (!decide (m.size=0)) 1;omega
 obtain ⟨s1,s2,s3,s4,s5,s6⟩:=EW pH;have n1:=s1.word aC;have n2:=s2.word f1;have n3:=s3.word aC;have n4:=s4.word aC;have n5:=s5.word aC;have n6:=s6.word aC;have d1:vJ s=(m.id.toNat,⟨((2:Nat):Int),0⟩):=n1;have d2:mI s=(gG m,⟨((4:Nat):Int),0⟩):=by unfold mI;rw [d1];exact n2
 have d3:OJ s=⟨((4:Nat):Int),0⟩:=by unfold OJ;rw [d2];exact gD (by dsimp only;rw [f2];rfl)
 have d4:qA s=(m.qs.length,⟨((6:Nat):Int),0⟩):=by unfold qA;rw [d3];exact n3
 have d5:sR s=(m.an.length,⟨((8:Nat):Int),0⟩):=by unfold sR;rw [d4];exact n4
 have d6:sS s=(m.au.length,⟨((10:Nat):Int),0⟩):=by unfold sS;rw [d5];exact n5
 have d7:tR s=(m.ex.length + flagN (!decide (m.size=0)) 1,⟨(((fE m).length:Nat):Int),0⟩):=by unfold tR;rw [d6];exact n6
 have d8:RX s=⟨(((fE m).length:Nat):Int),0⟩:=by unfold RX;rw [d7,d4];exact gD (by simp;omega)
 obtain ⟨q1,q2⟩:=IS hs m.qs (fE m,[]) [] (fun p hp=>by cases hp) ok.qs pQ;have d9:PX s=(m.qs,⟨((m.qs.foldl qW (fE m,[])).1.length:Nat),0⟩):=by unfold PX;rw [d8,d4];exact q1
 have plain:∀ (l:List Rec) (x:AV),Good x→l.length≤200→(∀ r ∈ l,aW r=0)→(l.foldl fC x).1 <+: s→gM s ⟨(x.1.length:Nat),0⟩ l.length false=(l,0,⟨((l.foldl fC x).1.length:Nat),0⟩)∧Good (l.foldl fC x):=by
  intro l x hx hl hr hp;obtain ⟨r1,r2⟩:=tV hs false l.length 0 l x [] 0 hx hr hp aC;refine ⟨?_,r2⟩;unfold gM;rw [gD (by simp;omega)];exact r1
 obtain ⟨a1,a2⟩:=plain m.an _ q2 ia ok.an pA;have d10:PY s=(m.an,0,⟨((m.an.foldl fC (m.qs.foldl qW (fE m,[]))).1.length:Nat),0⟩):=by unfold PY;rw [d9,d5];exact a1
 obtain ⟨u1,u2⟩:=plain m.au _ a2 iu ok.au pU;have d11:PZ s=(m.au,0,⟨((m.au.foldl fC (m.an.foldl fC (m.qs.foldl qW (fE m,[])))).1.length:Nat),0⟩):=by unfold PZ;rw [d10,d6];exact u1
 have d12:NL s=(m.ex,m.size.toNat,⟨((s.length:Nat):Int),0⟩):=by
  unfold NL;rw [d11,d7];dsimp only;obtain ⟨x1,x2⟩:=tV hs true (m.ex.length + flagN (!decide (m.size=0)) 1) (flagN (!decide (m.size=0)) 1) m.ex _ [] 0 u2 ok.ex pB aC;unfold gM;rw [gD (by simp;omega),x1];rw [← eb] at x2 ⊢;by_cases hz:m.size=0
  ·have:flagN (!decide (m.size=0)) 1=0:=by rw [hz];rfl
   rw [this,lC,List.nil_append,hz,e0];unfold sO;rw [if_pos hz,List.append_nil];rfl
  ·have hf:flagN (!decide (m.size=0)) 1=1:=by
    rw [decide_eq_false hz];rfl
   have eo:sO m=[0] ++ aK 41 ++ aK m.size.toNat ++ fK 0 ++ aK 0:=by unfold sO;rw [if_neg hz]
   rw [hf,List.nil_append,Nat.zero_add];have p1:(gY m).1 ++ ([0] ++ aK 41 ++ aK m.size.toNat ++ fK 0 ++ aK 0) <+: s:=by rw [e0,eo];exact List.prefix_refl _
   simp only [← List.append_assoc] at p1;have p2:=(List.prefix_append _ (aK 0)).trans p1;have p3:=(List.prefix_append _ (fK 0)).trans p2;have hb:(gY m).1 ++ [0]=(aS (cX []) (gY m).1 (gY m).2).1:=rfl;rw [hb] at p1 p2 p3;obtain ⟨o1,_⟩:=rF (l:=(gY m).1) (ps:=(gY m).2) x2 (show (aM []).isSome=true by decide) (show 41 < 65536 by omega) (show m.size.toNat < 65536 by omega) hs p3;have es:=congrArg List.length e0;rw [eo] at es;simp only [← List.append_assoc] at es;rw [hb] at es;generalize (aS (cX []) (gY m).1 (gY m).2).1 ++ aK 41 ++ aK m.size.toNat=L at *;have o2:=(Stands.end_ p2).long (show 0 < 4294967296 by omega);have o3:=(Stands.end_ p1).word (show 0 < 65536 by omega);rw [List.length_append,jV] at o3;rw [List.length_append,List.length_append,jV,iL] at es;rw [lC,if_neg bE,o1,if_pos ⟨rfl,rfl⟩];unfold CG;dsimp only;rw [o2];dsimp only;rw [o3];dsimp only;rw [gD (by simp;omega),es]
 have d13:TJ s=⟨((s.length:Nat):Int),0⟩:=by unfold TJ;rw [d12];exact gD bE
 unfold cK;rw [d13,d12,d11,d10,d9,d2,d1];rw [if_pos rfl];dsimp only;rw [f3,f4,f5,f6,f7,f8,f9,show ((m.id.toNat:Nat):Int)=m.id by omega,show ((m.size.toNat:Nat):Int)=m.size by omega]
theorem BA {q:gE} (h:mD q=true):fN q.1=0∧1≤q.2∧q.2≤65535:=by
 simp only [mD,Bool.and_eq_true,decide_eq_true_eq] at h;exact ⟨h.1.1,h.1.2.1,h.1.2.2⟩
theorem IU {q:gE} (h:mD q=true) (hl:q.1.length≤100000) {now:Int} (hn:0≤now∧now≤1099511627776):AskOk lS0 q now:=by
 obtain ⟨h1,h2,h3⟩:=BA h;refine ⟨hn,(yJ h).1,hl,⟨h2,h3⟩,?_,rfl,by decide,by decide,by decide,by decide,by decide,by decide,?_,fun _=>rfl,?_,fun _=>rfl⟩
 ·exact if_pos ⟨h1,⟨h2,h3⟩,by decide,by decide,by decide⟩
 ·intro y hy;cases hy
 ·intro i e hy;cases hy
theorem QW (c:CliR) (q:gE) (now:Int):lS0.ask c q now=if q.2=251∨q.2=252∨255 < q.2 then { lS0 with out:=gT c q.2 5 [] [] } else lS0.fresh c q now:=by
 unfold NodeR.ask;split
 ·rfl
 ·rfl
theorem pV {m:MsgR} {q:gE} (h:bZ m=0) (hq:m.qs=[q]) (ha:m.an=[]) (hu:m.au=[]) (he:m.ex=[]):(aT m).2=0∧(aT m).1.length≤300∧cK (aT m).1=(m,0):=by
 have hk:mD q=true:=(iY h).qs q (by rw [hq];simp);have hl:(iA m).length≤300:=by
  have h1:=NG hk (fE m,[]);have h2:(fE m).length=12:=CQ m;have h3:(sO m).length≤11:=by
   unfold sO;split
   ·simp
   ·simp [aK,fK]
  unfold iA gY;rw [hq,ha,hu,he];simp only [List.foldl_cons,List.foldl_nil,List.length_append];simp only at h1;omega
 have e1:aT m=(iA m,0):=by
  unfold aT;rw [if_neg (by rw [h];simp),if_neg aC]
 rw [e1];exact ⟨rfl,hl,qG h aC⟩
theorem rG (c:CliR) (kind code:Int) (hid:0≤c.id∧c.id≤65535) (hk:mD (c.name,kind)=true) (hc:0≤code∧code≤15):gT c kind code [] []=[(c.node,(aT (eP c kind code [] [])).1)]∧cK (aT (eP c kind code [] [])).1=(eP c kind code [] [],0):=by
 have h:bZ (eP c kind code [] [])=0:=by
  unfold bZ;rw [if_pos];simp [eP,zeroM,fO,fT,hk];exact ⟨⟨decide_eq_true hid.1,decide_eq_true hid.2⟩,decide_eq_true hc.1,decide_eq_true hc.2⟩
 obtain ⟨h1,h2,h3⟩:=pV (q:=(c.name,kind)) h rfl rfl rfl rfl;refine ⟨?_,h3⟩;have hf:vK (eP c kind code [] []) 512=(eP c kind code [] [],(aT (eP c kind code [] [])).1,0):=by
  unfold vK;rw [if_neg (by rw [h];omega)];have hw:fD (eP c kind code [] []) 0=eP c kind code [] []:=rfl;show pE (eP c kind code [] []) 512 0=_;unfold pE;rw [hw,if_pos (by simp [mL,h1];omega)]
 unfold gT;rw [hf];rfl
def sU (q:gE):Prop:=q.2=251∨q.2=252∨255 < q.2
theorem EX {q:gE} (h:mD q=true) (src id:Int) (hid:0≤id∧id≤65535) (now:Int):∃ (to:Int) (b:List UInt8) (mm:MsgR),(lS0.ask ⟨src,id,q.1⟩ q now).out=[(to,b)]∧cK b=(mm,0)∧b.length≤300 ∧
 (sU q→to=src∧mm.resp=true∧mm.rcode=5∧mm.id=id∧(lS0.ask ⟨src,id,q.1⟩ q now).sent=0)∧(¬ sU q→to=3∧mm.resp=false∧(lS0.ask ⟨src,id,q.1⟩ q now).sent=1∧(lS0.ask ⟨src,id,q.1⟩ q now).nt.isSome=true):=by
 rw [QW];by_cases hR:sU q
 ·have hR':q.2=251∨q.2=252∨255 < q.2:=hR;rw [if_pos hR'];obtain ⟨h1,h2⟩:=rG ⟨src,id,q.1⟩ q.2 5 hid h aH;have hc:bZ (eP ⟨src,id,q.1⟩ q.2 5 [] [])=0:=by
   unfold bZ;rw [if_pos];simp [eP,zeroM,fO,fT,h];exact ⟨decide_eq_true hid.1,decide_eq_true hid.2⟩
  obtain ⟨_,h3,_⟩:=pV (q:=q) hc rfl rfl rfl rfl;exact ⟨src,_,_,h1,h2,h3,fun _=>⟨rfl,rfl,rfl,rfl,rfl⟩,fun hn=>absurd hR hn⟩
 ·have hR':¬(q.2=251∨q.2=252∨255 < q.2):=hR;rw [if_neg hR'];have hq':mD (fold q.1,q.2)=true:=by
   have:=h;unfold mD at this ⊢;rw [GK];exact this
  have hc:bZ (mO 0 (bV q.1 q.2 [3] 5).on.2)=0:=by
   have hq9:(mO 0 (bV q.1 q.2 [3] 5).on.2).qs=[(fold q.1,q.2)]:=rfl;unfold bZ;rw [if_pos];rw [hq9];simp [mO,zeroM,fO,fT,hq']
  obtain ⟨_,h3,h4⟩:=pV (q:=(fold q.1,q.2)) hc rfl rfl rfl rfl;exact ⟨3,_,_,rfl,h4,h3,fun hr=>absurd hr hR,fun _=>⟨rfl,rfl,rfl,rfl⟩⟩
section
variable {P:Program} {w w':World} {a:Act} {d:Option Nat} {ty:TypeId} {ps:String} {af:Array Edge} {g:Option (Nat × Bool)}
end
section
variable {P:Program} {Q:Exit→Act→World→Prop} {S:World→Prop} {l:List Oper} {ts:List Value} {df:List Deferred} {w:World} {fuel:Nat} {listed:List Bool}
end
def XA (up:Bool):List HldR:=[⟨[1,97],VD,[1,97],up⟩]
theorem HldsAt.nil (w:World):HldsAt w (.slice none 0 0) []:=⟨[],Sl.nil _ _,rfl,fun i h e=>by simp at e⟩
theorem HldsAt.one {z:Value} {up:Bool} (h:Sl k w v [[aE [1,97],z,aE [1,97], .bool up]]) (hk:k=4) (hz:SetsAt w z VD):HldsAt w v (XA up):=by
 subst hk;refine ⟨_,h,rfl,fun i x e => ?_⟩;cases i with
 | zero =>
  simp only [XA,List.getElem?_cons_zero,Option.some.injEq] at e;subst e;exact ⟨z,rfl,hz⟩
 | succ i=>simp [XA] at e
def tW (w:World) (n:Nat):World:={ w with heap:=w.heap.extract 0 n }
theorem hU {n:Nat} (h:n≤w.heap.size):(tW w n).heap.size=n:=by
 simp [tW];omega
theorem EY {n:Nat} (h:n≤w.heap.size):Ext (tW w n) w :=
 ⟨rfl,rfl,rfl,by rw [hU h];exact h,fun k hk=>by
  rw [hU h] at hk;simp [tW,Array.getElem?_extract];omega,Nat.le_refl _⟩
theorem Ext.cutW {n:Nat} (h:Ext w0 w) (hn:w0.heap.size≤n) (hw:n≤w.heap.size):Ext w0 (tW w n) :=
 ⟨h.os,h.tape,h.output,by rw [hU hw];exact hn,fun k hk=>by
  rw [← h.block k hk,← (EY hw).block k (by rw [hU hw];omega)],h.drawn⟩
theorem NodeI.other {wL:World} {M:NodeM} {S:NodeR} (h:NodeI wL w M S) (hn:S.nt=none) (ht:S.tt=none) {L:List Nat} (hB:Bn w.heap.size L w w') (hL:∀ j ∈ L,j < wL.heap.size) (hs:w.heap.size≤w'.heap.size):NodeI (tW w' wL.heap.size) w' M S:=by
 have st:∀ j,wL.heap.size≤j→j < w.heap.size→w'.heap[j]? = w.heap[j]? := fun j h1 h2=>hB j h2 h2 (fun e=>by have:=hL j e;omega);have e0:=hU (w:=w') (n:=wL.heap.size) (Nat.le_trans h.w.ext.size hs);have a':∀ {j:Nat} {o:Obj},wL.heap.size≤j→w.heap[j]? = some o→w'.heap[j]? = some o:=fun h1 h2=>by
  rw [st _ h1 (Array.getElem?_eq_some_iff.1 h2).1];exact h2
 obtain ⟨h1,h2,h⟩:=h;refine ⟨h1,h2,EY (Nat.le_trans h.ext.size hs),?_,?_,?_,?_,?_,?_,?_,?_,h.ne⟩
 ·rw [e0];refine ⟨h.nod.ge,a' h.nod.ge h.nod.blk,?_,Nat.le_trans h.ext.size hs,Nat.le_refl _⟩;rw [h2,show (M.c S).ov=.slice none 0 0 from h1];exact Own.nil _ _ _ _
 ·rw [e0];exact h.rts.same fun r hr=>st r (h.rts.block r hr).1 (h.rts.block r hr).2
 ·rw [e0];obtain ⟨gs,a⟩:=h.cac;refine ⟨gs,a.ge,a.eq,a' a.ge.1 a.blk,a.map.at fun es c e=>a' a.ge.2 e,fun g hg => ?_,a.apart,a.keys⟩;have b:=a.ents g hg;exact ⟨b.ge,a' b.ge b.blk,b.row.same fun r hr=>st r (b.row.block r hr).1 (b.row.block r hr).2,b.len,b.ok⟩
 ·rw [e0];exact ⟨h.den.ge,a' h.den.ge h.den.blk⟩
 ·rw [e0];obtain ⟨tbk,a⟩:=h.tab;refine ⟨tbk,a.ge,a.eq,a' a.ge.1 a.blk,a.map.at fun es c e=>a' a.ge.2 e,fun x b e => ?_⟩;have:=a.eq;rw [ht,e] at this;cases this
 ·rw [e0];exact h.gm
 ·exact h.map.at fun es c e=>a' h.gm e
 ·intro x e;rw [hn] at e;cases e
theorem EZ (v:Value) (l:List gN) (w:World) (hv:Sl 2 w v (bU l)) (hl:l.length≤100000):Calls Tryz.prog 15 #[v] w (pX w fun r w'=>Sl 2 w' r (bU l)):=by
 have hlen:(bU l).length=l.length:=List.length_map ..;have hle:=hv.le;go_enter Tryz.func15,Tryz.ntmps15
 refine_lift mS ?_;intro _ _ _;go_loopw [3,4] (fun ov iv wr=>∃ k:Nat,k≤l.length∧iv=.int .i64 k∧Ext w wr∧Own w.heap.size 2 93 wr ov (bU (l.take k))) (fun _ iv _=>l.length - (intOf iv).toNat)
 case atStart=>exact ⟨0,Nat.zero_le _,rfl,Ext.refl _,Own.nil _ _ _ _⟩
 case round =>
  rename_i ov iv wr;obtain ⟨k,hk,rfl,hx,ho⟩:=hrel;have hvr:=hv.ext hx;by_cases hlt:k < l.length
  ·have hel:=hvr.elem (show (bU l)[k]? = some [.int .i64 l[k].1,aE l[k].2] by simp [bU,hlt]);refine_lift jH ?_;intro _ _ _ _;refine aV 13 (Ext wr) zDk ?_;intro w2 x2 _;refine ⟨x2,?_⟩;refine eH 0 ?_;refine eH 1 ?_;refine eH 2 ?_;refine bH 3 ?_;refine bH 4 ?_;refine bH 5 ?_;refine eH 6 ?_;refine eH 7 ?_;refine bH 8 ?_;refine bH 9 ?_;refine bH 10 ?_;refine FP (i:=11) (v:=.agg #[.int .i64 l[k].1,aE l[k].2]) rfl rfl (fun _=>Runs.build (vals:=[(0, .int .i64 l[k].1),(1,aE l[k].2)]) rfl (by kernel_rfl)) ?_;refine aB ?_;refine eF 12 ?_;refine qP (e:=93) (k:=2) (bytes:=24) (xs:=[.agg #[.int .i64 l[k].1,aE l[k].2]]) (by simp [Value.cells]) fun v3 w3 x3 _ sl3 _ => ?_;refine aB ?_;have x13:=x2.trans x3;refine aD ⟨aZ x13,?_⟩;refine eF 13 ?_;have z1:=(hx.trans x13).size;refine dA (e:=93) (k:=2) rfl (ho.ext x13) rfl sl3 (by simp [Value.cells,aE,Value.oneCell']) z1 (by simp [bU];omega) ?_;intro v4 w4 o4 m4 _;refine aB ?_;refine aD ⟨aQ rfl,?_⟩;have hx4:=(ho.ext x13).mvx m4 (hx.trans x13) (Nat.le_refl _);refine eH 14 ?_;refine nX ?_;refine_lift aL ?_;refine ⟨⟨k + 1,aC,by go_num,hx4,?_⟩,by simp [intOf];omega⟩;rw [show bU (l.take (k + 1))=bU (l.take k) ++ [[.int .i64 l[k].1,aE l[k].2]] by unfold bU;rw [List.take_succ_eq_append_getElem hlt,List.map_append];rfl];exact o4
  ·have hkq:k=l.length:=aC;subst hkq;rw [List.take_length] at ho;refine_lift lS fun _ => ?_;go_ret;exact ⟨_,rfl,hx,ho.sl⟩
theorem LA {r q:gN}:(Op.equalIn 10000 93 (.agg #[.int .i64 r.1,aE r.2]) (.agg #[.int .i64 q.1,aE q.2])).run Tryz.prog w=.ok (decide (r=q)) w:=by
 have hS:Tryz.prog.underlying 93=some (.struct (Tryz.prog.fieldsOf 93)):=by kernel_rfl
 rw [show (10000:Nat)=9999 + 1 from rfl,run_equalIn_agg w 9999 93 _ _ hS (by kernel_rfl)];simp only [Program.fieldsOf,Tryz.underlying93];have u3:=Tryz.underlying3;have u9:=Tryz.underlying9;have a3:=Tryz.isAgg3;have a9:=Tryz.isAgg9;have z3:=Tryz.sizeOf3;have z9:=Tryz.sizeOf9;unfold aE
 go_simp
 obtain ⟨a1,a2⟩:=r;obtain ⟨b1,b2⟩:=q;simp only [Prod.mk.injEq];by_cases h1:a1=b1 <;> by_cases h2:a2=b2 <;> simp [h1,h2]
theorem Runs.neqOut {r q:gN} {x y:Operand} {a:Act} {d:Option Nat} {u ty:TypeId} {ps:String} {af:Array Edge} {g:Option (Nat × Bool)}
 (hx:a.eval x=.agg #[.int .i64 r.1,aE r.2]) (hy:a.eval y=.agg #[.int .i64 q.1,aE q.2]) :
 Runs Tryz.prog (Oper.mk d (.binOp .neq 93 x y u) ty ps af g) a w (.bool (!decide (r=q))):=by
 constructor;have hg:=run_eqGuard_agg (P:=Tryz.prog) w .neq 93 x y #[.int .i64 r.1,aE r.2] #[.int .i64 q.1,aE q.2] (by kernel_rfl);simp only [execOp,hx,hy,Sem.run_bind,hg,Result.andThen_ok,run_neq_struct,LA,Sem.run_pure]
theorem OH (u v:Value) (l:List gN) (w:World) (hu:Sl 2 w u (bU l)) (hv:Sl 2 w v (bU l)):Calls Tryz.prog 14 #[u,v] w (bG w (.bool true)):=by
 have hlen:(bU l).length=l.length:=List.length_map ..;have hle:=hu.le;go_enter Tryz.func14,Tryz.ntmps14
 refine_lift bK fun _ _ => ?_;go_loopw [5] (fun iv wr=>∃ k:Nat,k≤l.length∧iv=.int .i64 k∧Ext w wr) (fun iv _=>l.length - (intOf iv).toNat)
 case atStart=>exact ⟨0,Nat.zero_le _,rfl,Ext.refl _⟩
 case round =>
  rename_i iv wr;obtain ⟨k,hk,rfl,hx⟩:=hrel;have hur:=hu.ext hx;have hvr:=hv.ext hx;by_cases hlt:k < l.length
  ·have hel:=hur.elem (show (bU l)[k]? = some [.int .i64 l[k].1,aE l[k].2] by simp [bU,hlt]);have hel':=hvr.elem (show (bU l)[k]? = some [.int .i64 l[k].1,aE l[k].2] by simp [bU,hlt]);refine_lift rR ?_;intro _ _ _ _ _ _;refine eB zDk zDk ?_;refine_lift vF ?_;refine BC (v:=.bool (!decide (l[k]=l[k]))) rfl (fun w' _=>Runs.neqOut rfl rfl) ?_;rw [decide_eq_true (rfl:l[k]=l[k])];refine aB ?_;refine_lift vF ?_;intro w3 x3;refine_lift aL ?_;exact ⟨⟨k + 1,aC,by go_num,hx.trans x3⟩,by simp [intOf];omega⟩
  ·refine_lift lS fun _ => ?_;go_ret;exact ⟨rfl,hx⟩
theorem pW {m:MsgR} (h:(aT m).2=0):bZ m=0∧aT m=(iA m,0)∧(iA m).length≤65535∧cK (aT m).1=(m,0):=by
 unfold aT at h ⊢;split at h
 ·rename_i c;exact absurd h c
 ·rename_i c;rw [if_neg c];split at h
  ·cases h
  ·rename_i c2;rw [if_neg c2];have c3:bZ m=0:=Decidable.not_not.1 c;exact ⟨c3,rfl,aC,qG c3 aC⟩
structure HeardU (wL w:World) (M:NodeM) (o:List gN) (L:List Nat) (r:Value) (w':World):Prop where
 own:Own w.heap.size 2 50 w' r (bU o)
 ko:Ko w.heap.size w w'
 bn:Bn w.heap.size (M.nb :: L) w w'
 size:w.heap.size≤w'.heap.size
 ext:Ext wL w'
theorem QX {wL:World} {M:NodeM} (h:NodeI wL w M lS0) (src now:Int) (s:List UInt8) (hs:s.length≤1000000) (c2:0≤now∧now≤1099511627776) {m:MsgR} (hd:cK s=(m,0)) (hr:m.resp=true) :
 Calls Tryz.prog 12 #[.pointer (some ⟨M.nb,0,none⟩), .int .i64 src,aE s, .int .i64 now] w (fun e w'=>∃ r,e=.returned r∧HeardU wL w M [] [] r w'∧∃ M',M'.nb=M.nb∧M'.tb=M.tb∧M'.tm=M.tm∧M'.mb=M.mb∧NodeI wL w' M' lS0):=by
 by_cases c1:0≤src∧src≤99
 ·refine (QM h src now s hs c1 c2 hd hr rfl).mono ?_;rintro e w' ⟨r,M',rfl,g1,g2,g3,g4,g5,g6⟩;obtain ⟨f1,f2⟩:=g5 trivial;obtain ⟨f3,f4,f5⟩:=f2 rfl;exact ⟨r,rfl,⟨g3,g4,f1,g6,g2.w.ext⟩,M',g1,f3,f4,f5,g2⟩
 ·refine (CN src now s hs w (.inr (.inr c1))).mono ?_;rintro e w' ⟨rfl,hx⟩;exact ⟨_,rfl,⟨Own.nil _ _ _ _,Ko.of hx,Bn.of hx,hx.size,(h.grow hx).w.ext⟩,M,rfl,rfl,rfl,rfl,h.grow hx⟩
theorem QY {m:MsgR} (h:(aT m).2≠0):(aT m).1=[]:=by
 unfold aT at h ⊢;split
 ·rfl
 ·split
  ·rfl
  ·rename_i a b;rw [if_neg a,if_neg b] at h;exact absurd rfl h
theorem QZ (q:gE) (hl:q.1.length≤300):∃ o:List gN,o.length≤1∧∀ (wL w:World) (M:NodeM),NodeI wL w M lS0 →
 Calls Tryz.prog 12 #[.pointer (some ⟨M.nb,0,none⟩), .int .i64 7,aE (qB 5 q), .int .i64 2] w (fun e w'=>∃ r,e=.returned r∧HeardU wL w M o [M.tb,M.tm,M.mb] r w'):=by
 by_cases hE:(aT (qM 5 q)).2=0
 ·obtain ⟨e1,e2,e3,e4⟩:=pW hE;have ok:=iY e1;have hqk:mD q=true:=ok.qs q (by simp [qM]);obtain ⟨to,bb,mm,hout,hdec,hbl,hy,hnn⟩:=EX hqk 7 5 aH 2;have hln:(qB 5 q).length≤1000000:=by
   unfold qB;rw [e2];exact Nat.le_trans e3 aC
  refine ⟨[(to,bb)],Nat.le_refl _,fun wL w M h => ?_⟩;refine (pR h 7 2 (qB 5 q) hln aH aH e4 rfl q rfl rfl (IU hqk aC aH)).mono ?_;rintro e w' ⟨r,M',rfl,g1,g2,g3,g4,g5,g6⟩;obtain ⟨f1,f2⟩:=g5 ⟨rfl,rfl⟩;have hout':(lS0.ask ⟨7,(qM 5 q).id,q.1⟩ q 2).out=[(to,bb)]:=hout;rw [hout'] at g3;exact ⟨r,rfl,g3,g4,f1,g6,g2.w.ext⟩
 ·refine ⟨[],Nat.zero_le _,fun wL w M h => ?_⟩;have e0:qB 5 q=[]:=QY hE;rw [e0];refine (CN 7 2 [] bE w (.inr (.inl zDk))).mono ?_;rintro e w' ⟨rfl,hx⟩;exact ⟨_,rfl,Own.nil _ _ _ _,Ko.of hx,Bn.of hx,hx.size,(h.grow hx).w.ext⟩
theorem SC (m:MsgR) (q a u e:Value) (src:Int) (qn:List UInt8) (qt:Int) (w:World) (hm:MsgV w m q a u e):Calls Tryz.prog 3 #[.agg (aX m q a u e).toArray, .int .i64 src, .agg #[aE qn, .int .i64 qt]] w (bG w (.bool true)):=by
 have cF:=fun w' (hx:Ext w w')=>TD m q a u e w' (hm.ext hx);go_enter Tryz.func3,Tryz.ntmps3
 refine_lift lQ fun _ _ => ?_;refine jS (vs:=aX m q a u e) fun w1 x1 s1 b1 => ?_;refine aB ?_;refine_lift SI ?_;refine jS (vs:=[aE qn, .int .i64 qt]) fun w2 x2 s2 b2 => ?_;refine aB ?_;have x02:=x1.trans x2;have hpq:=aA (cs:=[aE qn, .int .i64 qt]) b2;have c1:=x2.at b1;have hpm:=aA (cs:=aX m q a u e) c1;unfold aX at hpm;refine_lift jH fun _ _ _ _ => ?_;refine bX (cF _ x02) fun w3 x3 => ?_;have x03:=x02.trans x3;have hpq3:=hpq.ext x3;have c3:=x3.at c1;have d3:=x3.at b2;clear hpq hpm;by_cases hG:KG m=true∧(qn.length:Int)≤300
 rotate_left
 ·cases hf:KG m
  ·refine_lift bK fun _ _ => ?_;refine bX (dW w3) fun w4 x4 => ?_;refine_lift aL ?_;go_ret;exact ⟨rfl,x03.trans x4⟩
  ·refine_lift FU (fun _ _ _ => ?_) (fun _ _ _ => ?_)
   all_goals first
    | (exact absurd ⟨hf,aC⟩ hG)
    | (refine bX (dW w3) fun w4 x4 => ?_
       refine_lift aL ?_;go_ret;exact ⟨rfl,x03.trans x4⟩)
 obtain ⟨hf,hql⟩:=hG;rw [hf];refine_lift mS fun _ _ _ => ?_;refine qP (e:=3) (k:=1) (bytes:=8) (xs:=[.int .i64 3]) (by simp [Value.cells]) fun v4 w4 x4 _ sl4 _ => ?_;refine aB ?_;obtain ⟨ad4,cap4,rfl⟩:∃ a n,v4=.slice a 1 n:=by
  obtain ⟨a,n,e,_⟩:=sl4;exact ⟨a,n,e⟩
 refine aG (v:=.agg #[.slice ad4 1 cap4, .int .i64 5, .int .i64 9, .int .i64 100, .int .i64 4]) (Runs.build (vals:=[(0, .slice ad4 1 cap4),(1, .int .i64 5),(2, .int .i64 9),(3, .int .i64 100),(4, .int .i64 4)]) rfl (by kernel_rfl)) ?_;refine aB ?_;refine eX (z:=[.slice none 0 0, .int .i64 0, .int .i64 0, .int .i64 0, .int .i64 0]) fun w5 x5 s5 b5 => ?_;refine aB ?_;refine fG (v:=.agg #[.slice ad4 1 cap4, .int .i64 5, .int .i64 9, .int .i64 100, .int .i64 4]) b5 (by simp [Value.cells,Value.oneCell']) fun w6 p6 => ?_;have x46:=eC x5 p6;have x36:=x4.trans x46;have c6:=x36.at c3;have d6:=x36.at d3;have b6:=p6.this;have hpc:=aA (cs:=[.slice ad4 1 cap4, .int .i64 5, .int .i64 9, .int .i64 100, .int .i64 4]) b6;have sl6:=sl4.ext x46;have hpq6:=hpq3.ext x36;clear hpq3;refine_lift bK fun _ _ => ?_;refine pZ (AZ (.slice ad4 1 cap4) [3] 5 9 100 4 w6 sl6 aH aH aH aH aH aH) ?_;rintro _ w7 x7 ⟨A,rfl,hov,h7⟩;refine aB ?_;have h7:NodeI w6 w7 A lS0:=h7.idle hov rfl;have hpc7:=hpc.ext x7;have sl7:=sl6.ext x7;clear hpc;refine_lift bK fun _ _ => ?_;refine pZ (AZ (.slice ad4 1 cap4) [3] 5 9 100 4 w7 sl7 aH aH aH aH aH aH) ?_;rintro _ w8 x8 ⟨B,rfl,hovB,h8⟩;refine aB ?_;have h8:NodeI w7 w8 B lS0:=h8.idle hovB rfl;have x68:=x7.trans x8;have x38:=x36.trans x68;have x08:=x03.trans x38;have c8:=x68.at c6;have d8:=x68.at d6;have l1:w1.heap.size < w6.heap.size:=(Array.getElem?_eq_some_iff.1 d6).1;have l0:w.heap.size < w6.heap.size:=(Array.getElem?_eq_some_iff.1 c6).1;have z01:=x1.size;have z7:=x7.size;have z8:=x8.size;refine_lift bK fun _ _ => ?_;refine fZ 1 (.bool true) c8 rfl fun w9 p9 => ?_;have z9:=p9.size;have c9:w9.heap[w.heap.size]? = some (.cells (aX { m with resp:=true } q a u e).toArray 25 (0,0)):=p9.this;have d9:=(p9.other _ (by omega:w1.heap.size≠w.heap.size)).trans d8;have x09:Ext w w9:=eC x08 p9;have hB9:∀ l,Bn w8.heap.size (w.heap.size :: l) w8 w9:=fun l j _ _ h=>p9.other j (fun e=>h (by simp [e]));have h9:=(h7.grow x8).other rfl rfl (hB9 []) (by intro j hj;rw [List.mem_singleton.1 hj];exact l0) aC;have k9:=h8.other rfl rfl (hB9 []) (by intro j hj;rw [List.mem_singleton.1 hj];omega) aC;have ea:=hU (w:=w9) (n:=w6.heap.size) aC;have eb:=hU (w:=w9) (n:=w7.heap.size) aC;have xa:Ext w (tW w9 w6.heap.size):=x09.cutW (by have:=x03.size;have:=x36.size;omega) aC;have ln:A.nb < w7.heap.size:=(Array.getElem?_eq_some_iff.1 h7.w.nod.blk).1;have lt:A.tb < w7.heap.size:=by
  obtain ⟨_,t⟩:=h7.w.tab;exact (Array.getElem?_eq_some_iff.1 t.blk).1
 have lm:A.tm < w7.heap.size:=by
  obtain ⟨_,t⟩:=h7.w.tab;exact t.map.lt
 have lb:A.mb < w7.heap.size:=h7.w.map.lt;generalize tW w9 w6.heap.size=wa at *;generalize tW w9 w7.heap.size=wb at *;have hpm9:=aA (cs:=aX { m with resp:=true } q a u e) c9;unfold aX at hpm9;dsimp only at hpm9;have hm9:MsgV w9 { m with resp:=true } q a u e:=⟨(hm.ext x09).1,(hm.ext x09).2,(hm.ext x09).3,(hm.ext x09).4⟩;clear hpc7 hpq6;have cE:=fun w' (hx:Ext w9 w')=>kN (hm9.ext hx);unfold aX at cE;dsimp only at cE;refine_lift bK fun _ _ => ?_;refine bX (cE _ (Ext.refl _)) fun w10 x10 => ?_;refine_lift LQ (fun _ _ _ => ?_) (fun _ _ _ _ _ => ?_)
 ·refine bX (dW w10) fun w11 x11 => ?_;refine_lift aL ?_;go_ret;exact ⟨rfl,x09.trans (x10.trans x11)⟩
 ·have hE:(aT { m with resp:=true }).2=0:=by
   have hz:=‹(!decide ((aT { m with resp:=true }).2=0))=false›
   simpa using hz
  obtain ⟨e1,e2,e3,e4⟩:=pW hE;have hln:(aT { m with resp:=true }).1.length≤1000000:=by
   rw [e2];exact Nat.le_trans e3 aC
  have h10:=h9.grow x10;have k10:=k9.grow x10;have d10:=x10.at d9;have x010:=x09.trans x10;obtain ⟨o,ol,hQ⟩:=QZ (qn,qt) (by show qn.length≤300;omega);clear hpm9;refine_lift aL ?_;refine fY (QX h10 src 1 _ hln aH e4 rfl) ?_;rintro _ w11 ⟨r11,rfl,u11,A',g1,g2,g3,g4,h11⟩;refine ⟨_,rfl,?_⟩;refine aB ?_;have hw11:=u11.size;have z10:=x10.size;have d11:=u11.ko _ _ _ _ aC aH d10;have k11:=k10.other rfl rfl u11.bn (by intro j hj;rw [List.mem_singleton.1 hj,eb];exact ln) u11.size;have f11:=hU (w:=w11) (n:=wb.heap.size) aC;generalize tW w11 wb.heap.size=wc at *;have hpq11:=aA (cs:=[aE qn, .int .i64 qt]) d11;refine_lift bK fun _ _ => ?_;refine bX (vX 5 (qn,qt) _) fun w12 x12 => ?_;have h12:=h11.grow x12;have k12:=k11.grow x12;have z12:=x12.size;have hQa:=hQ _ _ _ h12;rw [g1] at hQa;refine_lift bK fun _ _ => ?_;refine fY hQa ?_;rintro _ w13 ⟨r13,rfl,u13⟩;refine ⟨_,rfl,?_⟩;refine aB ?_;have hw13:=u13.size;have k13:=k12.other rfl rfl u13.bn (by
   intro j hj;rw [g1,g2,g3,g4] at hj;simp only [List.mem_cons,List.not_mem_nil,or_false] at hj;rcases hj with rfl | rfl | rfl | rfl <;> omega) u13.size
  have xc:Ext w (tW w13 wc.heap.size):=(xa.trans u13.ext).cutW (by have:=x08.size;omega) aC;generalize tW w13 wc.heap.size=wd at *;have o11:=(u11.own.ext x12).ko u13.ko aH;refine_lift bK fun _ _ => ?_;refine fY (hQ _ _ _ k13) ?_;rintro _ w14 ⟨r14,rfl,u14⟩;refine ⟨_,rfl,?_⟩;refine aB ?_;have s11:Sl 2 w14 r11 []:=(o11.ko u14.ko aH).sl;have s13:=(u13.own.ko u14.ko aH).sl;have s14:=u14.own.sl;have x014:=xc.trans u14.ext;refine_lift FT (fun hc => ?_) (fun _ _ hc => ?_);refine pZ (EZ r13 o w14 s13 aC) fun v15 w15 x15 tt15 => ?_;refine aB ?_;refine_lift aL ?_;refine pZ (EZ r14 o w15 (s14.ext x15) aC) fun v16 w16 x16 tt16 => ?_;refine aB ?_;refine_lift aL ?_;refine bX (OH v15 v16 o w16 (tt15.ext x16) tt16) fun w17 x17 => ?_;refine_lift aL ?_;refine bX (dW w17) fun w18 x18 => ?_;refine_lift aL ?_;go_ret;exact ⟨rfl,x014.trans (x15.trans (x16.trans (x17.trans x18)))⟩
  all_goals simp at hc
open Go.ChangeShapes Go.WideShapes Go.ChangeAt
theorem UB {H:Type} {enc:TypeId × Value→H} {spare:Nat→Bool} {c:Array Value} {x:DataW H × List MemPlace} (h:DataW.trod enc Tryz.prog w base spare held fuel 28 (Value.agg c).cells.toList=some x):∃ (q:List UInt8) (k:Int),c=#[aE q, .int .i64 k]:=by
 have e:(Value.agg c).cells.toList=c.toList:=rfl;rw [e] at h;obtain ⟨xs,n',_,_,hl,hxl,hf⟩:=DataW.trod_struct Tryz.underlying28 h;have c3:Tryz.prog.cellsOf 3=1:=by kernel_rfl
 have c22:Tryz.prog.cellsOf 26=1:=by kernel_rfl
 have c65:Tryz.prog.cellsOf 28=2:=by kernel_rfl
 rw [c65] at hl;obtain ⟨cl⟩:=c
 match cl,hl,xs,hxl with
 | [a,b],_,[y0,y1],_ =>
  have g0:=hf 0 _ rfl;have g1:=hf 1 _ rfl;simp [c3,c22] at g0 g1;obtain ⟨s0,rfl,_⟩:=oM Tryz.underlying26 g0;obtain ⟨n1,rfl,_⟩:=eV Tryz.underlying3 g1;exact ⟨s0,n1,rfl⟩
theorem own:ownKnob Tryz.prog.godebug=none:=by kernel_rfl
theorem WI:laidOutB Tryz.prog=true:=by kernel_rfl
theorem tX {H:Type} {enc:TypeId × Value→H} {spare:Nat→Bool} {x:DataW H × List MemPlace} (h:DataW.trod enc Tryz.prog w base spare held fuel 23 [v]=some x):∃ l:List Rec,Sl 4 w v (aF l):=by
 obtain ⟨es,hs,he⟩:=sZ Tryz.underlying23 (show Tryz.prog.cellsOf 61=4 by kernel_rfl) aC h;obtain ⟨l,rfl⟩:∃ l:List Rec,es=l.map Rec.cells:=by
  refine vO fun c hc => ?_;obtain ⟨n,y,hy⟩:=he c hc;obtain ⟨xs,n',_,_,hl,hxl,hf⟩:=DataW.trod_struct Tryz.underlying61 hy;have c30:Tryz.prog.cellsOf 26=1:=by kernel_rfl
  have c3:Tryz.prog.cellsOf 3=1:=by kernel_rfl
  have c9:Tryz.prog.cellsOf 9=1:=by kernel_rfl
  have c32:Tryz.prog.cellsOf 61=4:=by kernel_rfl
  rw [c32] at hl
  match c,hl,xs,hxl with
  | [a,b,d,e],_,[y0,y1,y2,y3],_ =>
   have g0:=hf 0 _ rfl;have g1:=hf 1 _ rfl;have g2:=hf 2 _ rfl;have g3:=hf 3 _ rfl;simp [c30,c3,c9] at g0 g1 g2 g3;obtain ⟨s0,rfl,_⟩:=oM Tryz.underlying26 g0;obtain ⟨n1,rfl,_⟩:=eV Tryz.underlying3 g1;obtain ⟨n2,rfl,_⟩:=eV Tryz.underlying3 g2;obtain ⟨s3,rfl,_⟩:=oM Tryz.underlying9 g3;exact ⟨⟨s0,n1,n2,s3⟩,rfl⟩
 exact ⟨l,hs⟩
theorem mQ {H:Type} {enc:TypeId × Value→H} {P:Program} {spare:Nat→Bool} {t:TypeId} {c:Value} {x:DataW H × List MemPlace} (ht:P.underlying t=some .bool) (h:DataW.trod enc P w base spare held fuel t [c]=some x):∃ b:Bool,c=.bool b:=by
 obtain ⟨b,h1,_⟩:=DataW.trod_bool ht h;exact ⟨b,by simpa using h1⟩
theorem FA {H:Type} {enc:TypeId × Value→H} {spare:Nat→Bool} {x:DataW H × List MemPlace} (h:DataW.trod enc Tryz.prog w base spare held fuel 22 [v]=some x):∃ qs:List gE,Sl 2 w v (cG qs):=by
 obtain ⟨es,hs,he⟩:=sZ Tryz.underlying22 (show Tryz.prog.cellsOf 28=2 by kernel_rfl) aC h;obtain ⟨l,rfl⟩:∃ l:List gE,es=l.map fun q=>[aE q.1, .int .i64 q.2]:=by
  refine vO fun c hc => ?_;obtain ⟨n,y,hy⟩:=he c hc;obtain ⟨xs,n',_,_,hl,hxl,hf⟩:=DataW.trod_struct Tryz.underlying28 hy;have c3:Tryz.prog.cellsOf 3=1:=by kernel_rfl
  have c22:Tryz.prog.cellsOf 26=1:=by kernel_rfl
  have c65:Tryz.prog.cellsOf 28=2:=by kernel_rfl
  rw [c65] at hl
  match c,hl,xs,hxl with
  | [a,b],_,[y0,y1],_ =>
   have g0:=hf 0 _ rfl;have g1:=hf 1 _ rfl;simp [c3,c22] at g0 g1;obtain ⟨s0,rfl,_⟩:=oM Tryz.underlying26 g0;obtain ⟨n1,rfl,_⟩:=eV Tryz.underlying3 g1;exact ⟨(s0,n1),rfl⟩
 exact ⟨l,hs⟩
theorem WB {H:Type} {enc:TypeId × Value→H} {spare:Nat→Bool} {cl:List Value} {x:DataW H × List MemPlace} (h:DataW.trod enc Tryz.prog w base spare held fuel 25 cl=some x) :
 ∃ (m:MsgR) (q a u e:Value),cl=aX m q a u e∧MsgV w m q a u e:=by
 obtain ⟨xs,n',_,_,hl,hxl,hf⟩:=DataW.trod_struct Tryz.underlying25 h;have c3:Tryz.prog.cellsOf 3=1:=by kernel_rfl
 have c4:Tryz.prog.cellsOf 4=1:=by kernel_rfl
 have c5:Tryz.prog.cellsOf 22=1:=by kernel_rfl
 have c6:Tryz.prog.cellsOf 23=1:=by kernel_rfl
 have c7:Tryz.prog.cellsOf 25=13:=by kernel_rfl
 rw [c7] at hl
 match cl,hl,xs,hxl with
 | [a0,a1,a2,a3,a4,a5,a6,a7,a8,a9,a10,a11,a12],_,[y0,y1,y2,y3,y4,y5,y6,y7,y8,y9,y10,y11,y12],_ =>
  have g0:=hf 0 _ rfl;have g1:=hf 1 _ rfl;have g2:=hf 2 _ rfl;have g3:=hf 3 _ rfl;have g4:=hf 4 _ rfl;have g5:=hf 5 _ rfl;have g6:=hf 6 _ rfl;have g7:=hf 7 _ rfl;have g8:=hf 8 _ rfl;have g9:=hf 9 _ rfl;have g10:=hf 10 _ rfl;have g11:=hf 11 _ rfl;have g12:=hf 12 _ rfl;simp [c3,c4,c5,c6] at g0 g1 g2 g3 g4 g5 g6 g7 g8 g9 g10 g11 g12;obtain ⟨n0,rfl,_⟩:=eV Tryz.underlying3 g0;obtain ⟨n1,rfl⟩:=mQ Tryz.underlying4 g1;obtain ⟨n2,rfl,_⟩:=eV Tryz.underlying3 g2;obtain ⟨n3,rfl⟩:=mQ Tryz.underlying4 g3;obtain ⟨n4,rfl⟩:=mQ Tryz.underlying4 g4;obtain ⟨n5,rfl⟩:=mQ Tryz.underlying4 g5;obtain ⟨n6,rfl⟩:=mQ Tryz.underlying4 g6;obtain ⟨n7,rfl,_⟩:=eV Tryz.underlying3 g7;obtain ⟨qs,h8⟩:=FA g8;obtain ⟨l9,h9⟩:=tX g9;obtain ⟨l10,h10⟩:=tX g10;obtain ⟨l11,h11⟩:=tX g11;obtain ⟨n12,rfl,_⟩:=eV Tryz.underlying3 g12;exact ⟨⟨n0,n1,n2,n3,n4,n5,n6,n7,qs,l9,l10,l11,n12⟩,a8,a9,a10,a11,rfl,⟨h8,h9,h10,h11⟩⟩
theorem SD (qn:List UInt8) (qt id src:Int) (w:World):Calls Tryz.prog 4 #[.agg #[aE qn, .int .i64 qt], .int .i64 id, .int .i64 src] w (bG w (.bool true)):=by
 go_enter Tryz.func4,Tryz.ntmps4
 refine_lift lQ fun _ _ => ?_;refine jS (vs:=[aE qn, .int .i64 qt]) fun w1 x1 s1 b1 => ?_;refine aB ?_;have hpq:=aA (cs:=[aE qn, .int .i64 qt]) b1;by_cases hG:(qn.length:Int)≤300∧0≤src∧src≤99
 rotate_left
 ·(repeat' first | ((with_reducible refine eN ?_);go_step) | ((with_reducible refine cB ?_);first | refine iF ?_ | (refine fA ?_ ?_ <;> intro hc)) | fail)
  all_goals first
   | (exact absurd aC hG)
   | (refine bX (dW w1) fun w2 x2 => ?_
      refine_lift aL ?_;go_ret;exact ⟨rfl,x1.trans x2⟩)
 ·obtain ⟨g1,g2,g3⟩:=hG
  (repeat' first | ((with_reducible refine eN ?_);go_step) | ((with_reducible refine cB ?_);first | refine iF ?_ | (refine fA ?_ ?_ <;> intro hc)) | fail)
  refine qP (e:=3) (k:=1) (bytes:=8) (xs:=[.int .i64 3]) (by simp [Value.cells]) fun v2 w2 x2 _ sl2 _ => ?_;refine aB ?_;obtain ⟨ad1,cap1,rfl⟩:∃ a n,v2=.slice a 1 n:=by
   obtain ⟨a,n,e,_⟩:=sl2;exact ⟨a,n,e⟩
  refine aG (v:=.agg #[.slice ad1 1 cap1, .int .i64 5, .int .i64 9, .int .i64 100, .int .i64 4]) (Runs.build (vals:=[(0, .slice ad1 1 cap1),(1, .int .i64 5),(2, .int .i64 9),(3, .int .i64 100),(4, .int .i64 4)]) rfl (by kernel_rfl)) ?_;refine aB ?_;refine_lift aL ?_;refine pZ (AZ (.slice ad1 1 cap1) [3] 5 9 100 4 w2 sl2 aH aH aH aH aH aH) ?_;rintro _ w3 x3 ⟨M,rfl,hov,h3⟩;refine aB ?_;have h3:NodeI w2 w3 M lS0:=h3.idle hov rfl;have hpq3:=(hpq.ext x2).ext x3;have b3:=x3.at (x2.at b1);clear sl2 hpq;refine_lift bK fun _ _ => ?_;refine qP (e:=28) (k:=2) (bytes:=24) (xs:=[.agg #[aE qn, .int .i64 qt]]) (by simp [Value.cells]) fun v4 w4 x4 _ sl4 _ => ?_;refine aB ?_;obtain ⟨ad4,cap4,rfl⟩:∃ a n,v4=.slice a 1 n:=by
   obtain ⟨a,n,e,_⟩:=sl4;exact ⟨a,n,e⟩
  refine aG (v:=.agg (aX { zeroM with id:=id,qs:=[(qn,qt)] } (.slice ad4 1 cap4) cI cI cI).toArray) (Runs.build (vals:=[(0, .int .i64 id),(8, .slice ad4 1 cap4)]) rfl (by kernel_rfl)) ?_;refine aB ?_;have hm4:MsgV w4 { zeroM with id:=id,qs:=[(qn,qt)] } (.slice ad4 1 cap4) cI cI cI:=⟨sl4,Sl.nil _ _,Sl.nil _ _,Sl.nil _ _⟩;have hpq4:=hpq3.ext x4;clear sl4 hpq3;refine_lift aL ?_;refine bX (kN hm4) fun w5 x5 => ?_;have hpq5:=hpq4.ext x5;have x35:=x4.trans x5;have b5:=x35.at b3;have h5:=h3.grow x35;clear hpq4;refine_lift LQ (fun _ _ _ => ?_) (fun _ _ _ _ _ => ?_)
  ·refine bX (dW w5) fun w6 x6 => ?_;refine_lift aL ?_;go_ret;exact ⟨rfl,x1.trans (x2.trans (x3.trans (x35.trans x6)))⟩
  ·have hE:(aT { zeroM with id:=id,qs:=[(qn,qt)] }).2=0:=by
    have hz:=‹(!decide ((aT { zeroM with id:=id,qs:=[(qn,qt)] }).2=0))=false›
    simpa using hz
   obtain ⟨e1,e2,e3,e4⟩:=pW hE;have ok:=iY e1;have hqk:mD (qn,qt)=true:=ok.qs _ bE;obtain ⟨to,bb,mm,hout,hdec,hbl,hy,hnn⟩:=EX hqk src id ok.id 1;have hln:(aT { zeroM with id:=id,qs:=[(qn,qt)] }).1.length≤1000000:=by
    rw [e2];exact Nat.le_trans e3 aC
   have hA:=pR h5 src 1 _ hln ⟨g2,g3⟩ aH e4 rfl (qn,qt) rfl rfl (IU hqk (by dsimp only;omega) aH);unfold lD at hA;dsimp only at hA hout hy hnn;refine_lift aL ?_;refine fY hA ?_;rintro _ w6 ⟨r6,M6,rfl,n6,h6,o6,k6,_,z6⟩;refine ⟨_,rfl,?_⟩;refine aB ?_;rw [hout] at o6;have sl6:Sl 2 w6 r6 [[.int .i64 to,aE bb]]:=o6.sl;have hel:=sl6.elem (i:=0) rfl;have b6:=k6 _ _ _ _ (Array.getElem?_eq_some_iff.1 b5).1 aH b5;have hpq6:=aA (cs:=[aE qn, .int .i64 qt]) b6;clear hpq5;refine_lift mS fun _ _ _ => ?_;have cD:=mJ (w:=w6) bb aC;unfold pN at cD;rw [hdec] at cD;refine fY cD ?_;rintro _ w7 ⟨qv,av,uv,ev,rfl,⟨q1,q2,q3,q4⟩,x7⟩;refine ⟨_,rfl,?_⟩;refine aB ?_;refine_lift aL ?_;refine eX (z:=jL) fun w8 x8 s8 b8 => ?_;refine aB ?_;have hm7:MsgV w7 mm qv av uv ev:=⟨q1.sl,q2.sl,q3.sl,q4.sl⟩;refine fG (v:=.agg (aX mm qv av uv ev).toArray) b8 (gP (hm7.ext x8)) fun w9 p9 => ?_;have x79:=eC x8 p9;have x69:=x7.trans x79;have hpm:=aA (cs:=aX mm qv av uv ev) p9.this;unfold aX at hpm;have h9:=h6.grow x69;have hpq9:=hpq6.ext x69;have hel9:=hel.ext x69;have sl9:=sl6.ext x69;clear hel hpq6 sl6;have cS:=fun w' (hx:Ext w9 w')=>CO (h9.grow hx).w;have cP:=fun w' (hx:Ext w9 w')=>pS (h9.grow hx).w;rw [n6] at cS cP;dsimp only at cS cP;by_cases hR:sU (qn,qt)
   ·obtain ⟨y1,y2,y3,y4,y5⟩:=hy hR;subst y1;rw [y2,y3,y4] at hpm;rw [y5] at cS;have hR':qt=251∨qt=252∨255 < qt:=hR
    (repeat' first | ((with_reducible refine eN ?_);go_step) | ((with_reducible refine cB ?_);first | refine iF ?_ | (refine fA ?_ ?_ <;> intro hc)) | fail)
    all_goals first
     | (refine bX (cS _ (Ext.refl _)) fun w10 x10 => ?_
        refine_lift iU (fun hc => ?_) (fun hc => ?_);refine bX (dW w10) fun w11 x11 => ?_;refine_lift aL ?_;go_ret;exact ⟨rfl,x1.trans (x2.trans (h9.w.ext.trans (x10.trans x11)))⟩)
     | (exact absurd hR' aC)
    all_goals simp at hc
   ·obtain ⟨y1,y2,y3,y4⟩:=hnn hR;subst y1;rw [y2] at hpm;rw [y3] at cS;rw [if_pos y4] at cP;have hR':¬(qt=251∨qt=252∨255 < qt):=hR
    (repeat' first | ((with_reducible refine eN ?_);go_step) | ((with_reducible refine cB ?_);first | refine iF ?_ | (refine fA ?_ ?_ <;> intro hc)) | fail)
    all_goals first
     | (refine bX (cS _ (Ext.refl _)) fun w10 x10 => ?_
        refine_lift iU (fun hc => ?_) (fun hc => ?_);refine bX (cP _ x10) fun w11 x11 => ?_;refine_lift aL ?_;refine bX (dW w11) fun w12 x12 => ?_;refine_lift aL ?_;go_ret;exact ⟨rfl,x1.trans (x2.trans (h9.w.ext.trans (x10.trans (x11.trans x12))))⟩)
     | (exact absurd aC hR')
    all_goals simp at hc
  all_goals
   refine bX (dW w1) fun w2 x2 => ?_;refine_lift aL ?_;go_ret;exact ⟨rfl,x1.trans x2⟩
theorem WJ (src:Int) (s:List UInt8) (now:Int) (w:World) (hl:s.length≤9223372036854775807):Calls Tryz.prog 5 #[.int .i64 src,aE s, .int .i64 now] w (bG w (.bool true)):=by
 go_enter Tryz.func5,Tryz.ntmps5
 refine_lift LQ (fun _ _ _ => ?_) (fun _ _ _ _ _ => ?_)
 ·refine bX (dW w) fun w1 x1 => ?_;refine_lift aL ?_;go_ret;exact ⟨rfl,x1⟩
 ·refine aG (v:=.agg #[.slice none 0 0, .int .i64 0, .int .i64 0, .int .i64 0, .int .i64 0]) (Runs.build0 (by kernel_rfl)) ?_;refine aB ?_;refine_lift aL ?_;refine bX (OE _) fun w1 x1 => ?_;refine_lift bK fun _ _ => ?_;refine bX (CN src now s aC w1 (.inl rfl)) fun w2 x2 => ?_;have sl2:Sl 2 w2 (.slice none 0 0) []:=Sl.nil _ _;refine_lift iU (fun hc => ?_) (fun hc => ?_);refine bX (QP now w2) fun w3 x3 => ?_;have sl3:Sl 2 w3 (.slice none 0 0) []:=Sl.nil _ _;clear sl2;refine_lift iU (fun hc => ?_) (fun hc => ?_);refine bX (QO w3) fun w4 x4 => ?_;refine_lift aL ?_;refine bX (HF w4) fun w5 x5 => ?_;refine_lift aL ?_;refine bX (dW w5) fun w6 x6 => ?_;refine_lift aL ?_;go_ret;exact ⟨rfl,x1.trans (x2.trans (x3.trans (x4.trans (x5.trans x6))))⟩
  all_goals simp at hc
theorem OL {P:Program} {r:Reach} {t:TypeId} (ht:P.underlying t=some .string) (h:Value.okWide P w r base t v):∃ s,v=.string s∧s.size≤9223372036854775807:=by
 simp only [Value.okWide,ht,Cell.okWide] at h;cases v <;> simp_all [Cell.ok]
 all_goals omega
def mR (q:gE) (id:Int):CliR:=⟨7,id,q.1⟩
structure WaitS (q:gE) (id bud wt k:Int) (S:NodeR) (l:List gN) (x:NTask) (y:WaitR):Prop where
 nt:S.nt=some x
 tt:S.tt=some y
 n:y.n=x.n
 cl:y.l=[mR q id]
 ft:x.ft=q.2
 stop:x.t.stop=none
 left:x.t.left=bud - (S.sent:Nat)
 sent:1≤S.sent∧((S.sent:Nat):Int)≤bud
 late:x.late=((S.sent:Nat):Int) * wt
 k:k≤x.late
 wt:S.wt=wt
 out:S.out=[]
 srv:∀ s ∈ x.t.servers,10≤s
 far:∀ o ∈ l,o.1≠7
 len:l.length≤S.sent
structure ToldS (q:gE) (id bud:Int) (S:NodeR) (l:List gN):Prop where
 nt:S.nt=none
 out:S.out=[]
 sent:((S.sent:Nat):Int)≤bud
 told:∃ l1 b code,l=l1 ++ [(7,b)]∧(∀ o ∈ l1,o.1≠7)∧code≠0∧cK b=(eP (mR q id) q.2 code [] [],0)∧b.length≤300
 len:l.length≤200
def NodeR.lateS (S:NodeR) (x:NTask) (y:WaitR) (now:Int):NodeR :=
 if now < x.late then S
 else if x.t.timeout.2.kind=1 then ({ S with nt:=some { x with t:=x.t.timeout.1 } }:NodeR).send { x with t:=x.t.timeout.1 } x.t.timeout.2 now
 else ({ S with nt:=some { x with t:=x.t.timeout.1 } }:NodeR).done { x with t:=x.t.timeout.1 } y x.t.timeout.2
theorem FB (c:CliR) (kind code:Int) (hid:0≤c.id∧c.id≤65535) (hk:mD (c.name,kind)=true) (hc:0≤code∧code≤15):(aT (eP c kind code [] [])).1.length≤300:=by
 have h:bZ (eP c kind code [] [])=0:=by
  unfold bZ;rw [if_pos];simp [eP,zeroM,fO,fT,hk];exact ⟨⟨decide_eq_true hid.1,decide_eq_true hid.2⟩,decide_eq_true hc.1,decide_eq_true hc.2⟩
 exact (pV (q:=(c.name,kind)) h rfl rfl rfl rfl).2.1
theorem TaskR.on_two (t:TaskR) (hs:t.stop=none):(t.timeout.2.kind=1∧∃ s rest,t.servers=s :: rest∧t.left≠0∧t.timeout=({ t with servers:=rest,left:=t.left - 1 },⟨1,s,t.qn,t.qt,0,[],[]⟩))∨(t.timeout.2=⟨2,0,[],0,2,[],[]⟩):=by
 have e:t.timeout=t.on:=by
  unfold TaskR.timeout;rw [hs]
 rw [e];unfold TaskR.on;split
 ·exact .inr rfl
 ·rename_i s rest h;split
  ·exact .inr rfl
  ·rename_i hl;exact .inl ⟨rfl,s,rest,h,hl,rfl⟩
theorem WaitS.step {q:gE} {id bud wt k:Int} {S:NodeR} {l:List gN} {x:NTask} {y:WaitR} (h:WaitS q id bud wt k S l x y) (hid:0≤id∧id≤65535) (hq:mD q=true) (hw:1≤wt) (hb:bud≤20) :
 (∃ x' y',WaitS q id bud wt (k + 1) { S.lateS x y k with out:=[] } (l ++ (S.lateS x y k).out) x' y')∨ToldS q id bud { S.lateS x y k with out:=[] } (l ++ (S.lateS x y k).out):=by
 have hsent:=h.sent;have hlate:=h.late;have hk:=h.k;by_cases hl:k < x.late
 ·left;have e:S.lateS x y k=S:=by rw [NodeR.lateS,if_pos hl]
  rw [e,h.out,List.append_nil];exact ⟨x,y,h.nt,h.tt,h.n,h.cl,h.ft,h.stop,h.left,h.sent,h.late,aC,h.wt,rfl,h.srv,h.far,h.len⟩
 ·have hkl:k=((S.sent:Nat):Int) * wt:=aC;rcases x.t.on_two h.stop with ⟨h1,s,rest,e1,e2,e3⟩ | e3
  ·left;have e:S.lateS x y k=({ S with nt:=some { x with t:=x.t.timeout.1 } }:NodeR).send { x with t:=x.t.timeout.1 } x.t.timeout.2 k:=by rw [NodeR.lateS,if_neg hl,if_pos h1]
   rw [e];have hout:(({ S with nt:=some { x with t:=x.t.timeout.1 } }:NodeR).send { x with t:=x.t.timeout.1 } x.t.timeout.2 k).out=[(s,(aT (mO S.sent x.t.timeout.2)).1)]:=by
    show S.out ++ _=_;rw [h.out,e3];rfl
   rw [hout];have hleft:=h.left;have e5:x.t.timeout.1={ x.t with servers:=rest,left:=x.t.left - 1 }:=by rw [e3]
   have hs10:10≤s:=h.srv s (by rw [e1];exact List.mem_cons_self ..);have hmul:((S.sent + 1:Nat):Int) * wt=((S.sent:Nat):Int) * wt + wt:=by
    rw [show ((S.sent + 1:Nat):Int)=((S.sent:Nat):Int) + 1 by omega,Int.add_mul,Int.one_mul]
   refine ⟨_,y,rfl,h.tt,h.n,h.cl,h.ft,?_,?_,?_,?_,?_,h.wt,rfl,?_,?_,?_⟩
   ·show x.t.timeout.1.stop=none;rw [e5];exact h.stop
   ·show x.t.timeout.1.left=bud - ((S.sent + 1:Nat):Int);rw [e5];show x.t.left - 1=_;omega
   ·show 1≤S.sent + 1∧((S.sent + 1:Nat):Int)≤bud;omega
   ·show k + S.wt=((S.sent + 1:Nat):Int) * wt;rw [hmul,h.wt,hkl]
   ·show k + 1≤k + S.wt;rw [h.wt];omega
   ·show ∀ s' ∈ x.t.timeout.1.servers,10≤s';rw [e5];intro s' hs';exact h.srv s' (by rw [e1];exact List.mem_cons_of_mem _ hs')
   ·intro o ho;rcases List.mem_append.1 ho with ho | ho
    ·exact h.far o ho
    ·rw [List.mem_singleton.1 ho];show s≠7;omega
   ·show (l ++ [_]).length≤S.sent + 1;have:=h.len;simp;omega
  ·right;have e:S.lateS x y k=({ S with nt:=some { x with t:=x.t.timeout.1 } }:NodeR).done { x with t:=x.t.timeout.1 } y x.t.timeout.2:=by rw [NodeR.lateS,if_neg hl,if_neg (by rw [e3];decide)]
   rw [e];obtain ⟨t1,t2⟩:=rG (mR q id) q.2 2 hid hq aH;have t3:=FB (mR q id) q.2 2 hid hq aH;have hout:(({ S with nt:=some { x with t:=x.t.timeout.1 } }:NodeR).done { x with t:=x.t.timeout.1 } y x.t.timeout.2).out=[(7,(aT (eP (mR q id) q.2 2 [] [])).1)]:=by
    show S.out ++ qF _ x.t.timeout.2 y.l=_;rw [h.out,h.cl,e3];show [] ++ ((gT (mR q id) x.ft 2 [] []) ++ [])=_;rw [h.ft,t1];rfl
   rw [hout];have hlen:=h.len;refine ⟨rfl,rfl,?_,⟨l,_,2,rfl,h.far,by decide,t2,t3⟩,?_⟩
   ·exact hsent.2
   ·simp;omega
theorem ToldS.step {q:gE} {id bud:Int} {S:NodeR} {l:List gN} (h:ToldS q id bud S l):ToldS q id bud { S with out:=[] } (l ++ S.out):=by
 rw [h.out,List.append_nil];exact ⟨h.nt,rfl,h.sent,h.told,h.len⟩
theorem WaitS.no {q:gE} {id bud wt k:Int} {S:NodeR} {l:List gN} {x:NTask} {y:WaitR} (h:WaitS q id bud wt k S l x y) (hw:0≤wt) (hk:bud * wt < k):False:=by
 have h1:=h.late;have h2:=h.k;have h3:((S.sent:Nat):Int) * wt≤bud * wt:=Int.mul_le_mul_of_nonneg_right h.sent.2 hw;omega
def cH (n:Nat):List Int:=(List.range n).map fun (i:Nat)=>10 + (i:Int)
theorem FC (n:Nat):cH (n + 1)=cH n ++ [10 + (n:Int)]:=by
 simp [cH,List.range_succ]
theorem yM (n:Nat):(cH n).length=n:=by simp [cH]
theorem yN {n:Nat} {s:Int} (h:s ∈ cH n):10≤s∧s < 10 + n:=by
 simp only [cH,List.mem_map,List.mem_range] at h;obtain ⟨i,hi,rfl⟩:=h;omega
theorem yO {n:Nat} (h:n≤20):(cH n).any (fun n => !(decide (0≤n) && decide (n≤99)))=false:=by
 rw [List.any_eq_false];intro s hs;have:=yN hs;simp;omega
theorem vD {n:Nat} (h:1≤n):∃ r,cH n=10 :: r:=by
 obtain ⟨m,rfl⟩:∃ m,n=m + 1:=⟨n - 1,aC⟩;refine ⟨(List.range m).map fun (i:Nat)=>10 + ((i + 1:Nat):Int),?_⟩;rw [cH,List.range_succ_eq_map];simp
theorem RA {q:gE} (h:mD q=true) (hl:q.1.length≤100000) {n:Nat} (hn:1≤n∧n≤20) {bud wt:Int} (hb:1≤bud∧bud≤100) (hw:1≤wt∧wt≤10):AskOk (NodeR.new (cH n) bud 9 100 wt) q 0:=by
 obtain ⟨h1,h2,h3⟩:=BA h;obtain ⟨r,hr⟩:=vD hn.1;have hlen:=yM n;refine ⟨by decide,(yJ h).1,hl,⟨h2,h3⟩,?_,?_,?_,⟨Int.le_refl 0,by show (0:Int)≤1000000000;decide⟩,?_,Nat.zero_le _,Nat.zero_le _,⟨Int.le_refl 0,by show (0:Int)≤1000000000;decide⟩,?_,fun _=>rfl,?_,fun _=>rfl⟩
 ·exact if_pos ⟨h1,⟨h2,h3⟩,by show 1≤(cH n).length∧(cH n).length≤20;omega,hb,yO hn.2⟩
 ·show (bV q.1 q.2 (cH n) bud).on.2.kind=1;unfold bV TaskR.on;simp only [hr];rw [if_neg aC]
 ·show (cH n).length≤100000;omega
 ·show 0≤wt∧wt≤2147483647;omega
 ·intro y hy;cases hy
 ·intro i e hy;cases hy
theorem HK {q:gE} (h:mD q=true) {n:Nat} (hn:1≤n∧n≤20) {id bud wt:Int} (hid:0≤id∧id≤65535) (hb:1≤bud∧bud≤20) (hw:1≤wt) :
 (∃ x' y',WaitS q id bud wt 0 { (NodeR.new (cH n) bud 9 100 wt).ask (mR q id) q 0 with out:=[] } ((NodeR.new (cH n) bud 9 100 wt).ask (mR q id) q 0).out x' y')∨ToldS q id bud { (NodeR.new (cH n) bud 9 100 wt).ask (mR q id) q 0 with out:=[] } ((NodeR.new (cH n) bud 9 100 wt).ask (mR q id) q 0).out:=by
 by_cases hR:q.2=251∨q.2=252∨255 < q.2
 ·right;have e:(NodeR.new (cH n) bud 9 100 wt).ask (mR q id) q 0={ NodeR.new (cH n) bud 9 100 wt with out:=gT (mR q id) q.2 5 [] [] }:=by
   unfold NodeR.ask;rw [if_pos hR];rfl
  obtain ⟨t1,t2⟩:=rG (mR q id) q.2 5 hid h aH;have t3:=FB (mR q id) q.2 5 hid h aH;rw [e,t1];refine ⟨rfl,rfl,?_,⟨[],_,5,rfl,bE,by decide,t2,t3⟩,bE⟩;show ((0:Nat):Int)≤bud;omega
 ·left;obtain ⟨r,hr⟩:=vD hn.1;have e:(NodeR.new (cH n) bud 9 100 wt).ask (mR q id) q 0=(NodeR.new (cH n) bud 9 100 wt).fresh (mR q id) q 0:=by
   unfold NodeR.ask;rw [if_neg hR];rfl
  have hon:(bV q.1 q.2 (cH n) bud).on=({ bV q.1 q.2 (cH n) bud with servers:=r,left:=bud - 1 },⟨1,10,fold q.1,q.2,0,[],[]⟩):=by
   unfold bV TaskR.on;simp only [hr];rw [if_neg aC]
  rw [e];refine ⟨_,_,rfl,rfl,rfl,rfl,rfl,?_,?_,?_,?_,?_,rfl,rfl,?_,?_,?_⟩
  ·show (bV q.1 q.2 (cH n) bud).on.1.stop=none;rw [hon];rfl
  ·show (bV q.1 q.2 (cH n) bud).on.1.left=bud - ((1:Nat):Int);rw [hon];rfl
  ·show 1≤1∧((1:Nat):Int)≤bud;omega
  ·show 0 + wt=((1:Nat):Int) * wt;simp
  ·show (0:Int)≤0 + wt;omega
  ·show ∀ s ∈ (bV q.1 q.2 (cH n) bud).on.1.servers,10≤s;rw [hon];intro s hs;exact (yN (n:=n) (by rw [hr];exact List.mem_cons_of_mem _ hs)).1
  ·intro o ho;have ho:o ∈ ([((bV q.1 q.2 (cH n) bud).on.2.to,(aT (mO 0 (bV q.1 q.2 (cH n) bud).on.2)).1)]:List gN):=ho;rw [hon] at ho;rw [List.mem_singleton.1 ho];show (10:Int)≠7
   decide
  ·show ([((bV q.1 q.2 (cH n) bud).on.2.to,(aT (mO 0 (bV q.1 q.2 (cH n) bud).on.2)).1)]:List gN).length≤1;simp
theorem Kf.mvb {T:List TypeId} {N:List Nat} {t:Nat} (hm:Mv (some b) w w') (hb:w.heap[b]? = some (.cells cs t fz)) (ht:t ∈ T):Kf T N w w':=by
 refine ⟨fun j cs' t' fz' hj ht'=>hm.at hj (fun e => ?_),fun j es c hj _=>hm.at hj (fun e => ?_)⟩
 ·cases e
  rw [hb] at hj;injection (Option.some.inj hj) with _ e2
  exact ht' (e2 ▸ ht)
 ·cases e
  rw [hb] at hj;cases hj
theorem RB {b:Addr} (now:Int) (w:World) (hn:¬(0≤now∧now≤1099511627776)):Calls Tryz.prog 19 #[.pointer (some b), .int .i64 now] w (bG w (.slice none 0 0)):=by
 go_enter Tryz.func19,Tryz.ntmps19
 refine_lift jH fun _ _ _ _ => ?_;refine bX (HC hn _) fun w1 x1 => ?_;refine_lift aL ?_;go_ret;exact ⟨rfl,x1⟩
theorem IV {wL:World} {M:NodeM} {S:NodeR} (h:NodeI wL w M S) (now:Int) (hn:0≤now∧now≤1099511627776) (hI:S.nt=none) :
 Calls Tryz.prog 19 #[.pointer (some ⟨M.nb,0,none⟩), .int .i64 now] w (lD wL w M S True []):=by
 have cN:∀ w',Ext w w'→Calls Tryz.prog 42 #[.pointer (some ⟨M.nb,0,none⟩)] w' (pX w' fun r w''=>Own 0 1 3 w'' r []):=fun w' hx=>by
  refine (pP (h.w.grow hx)).mono ?_;rintro e w'' ⟨r,rfl,hxx,hr⟩;rw [show pF S=[] by rw [pF,hI]] at hr;exact ⟨r,rfl,hxx,hr.weaken (Nat.zero_le _)⟩
 go_enter Tryz.func19,Tryz.ntmps19
 refine_lift jH fun _ _ _ _ => ?_;refine bX (nW hn _) fun w1 x1 => ?_;refine_lift jH fun _ _ _ _ => ?_;refine pZ (cN _ x1) fun v w2 x2 o2 => ?_;refine aB ?_;have sl2:=o2.sl;have ul:(([]:List (List Value))).length=0:=rfl;have x02:=x1.trans x2;refine_lift aL ?_;go_loopw [18] (fun iv w9=>iv=.int .i64 0∧w9=w2) (fun _ _=>0)
 case atStart=>exact ⟨rfl,rfl⟩
 case round =>
  obtain ⟨rfl,rfl⟩:=hrel;refine_lift mS fun _ _ _ => ?_;refine fY (vW (h.w.grow x02)) ?_;rintro _ w7 ⟨rfl,h7,o7,k7,f7,z7⟩;refine ⟨_,rfl,?_⟩;refine aB ?_;refine_lift aL ?_;go_ret;exact ⟨_,⟨M.nb,M.rv, .slice none 0 0,M.cb,M.em,M.db,M.tb,M.tm,M.mb,M.sb⟩,rfl,rfl,h7,o7,(Ko.of x02).trans k7,fun _=>⟨(Bn.of x02).trans x02.size f7,fun _=>⟨rfl,rfl,rfl⟩⟩,by have:=x02.size;omega⟩
theorem RC {wL:World} {M:NodeM} {S S':NodeR} (h:NodeI wL w M S) (now:Int) (hn:0≤now∧now≤1099511627776) {x:NTask} (hx:S.nt=some x) (h0:0≤x.t.left) (h1:x.t.left≤1000000) (hst:∀ a,x.t.stop=some a→a.ans.length≤1000000∧a.auth.length≤1000000) (hlate:now < x.late→S'=S)
 (hq:x.late≤now→∀ w2 u,NodeW wL w.heap.size w2 M { S with nt:=some { x with t:=x.t.timeout.1 } }→ActV w2 u x.t.timeout.2→Calls Tryz.prog 43 #[.pointer (some ⟨M.nb,0,none⟩), .int .i64 x.n,u, .int .i64 now] w2 (fun e w3=>e=.returned (.tuple #[])∧∃ M',M'.nb=M.nb∧NodeW wL w.heap.size w3 M' S'∧Ko w.heap.size w2 w3∧w2.heap.size≤w3.heap.size)) :
 Calls Tryz.prog 19 #[.pointer (some ⟨M.nb,0,none⟩), .int .i64 now] w (lD wL w M S' False []):=by
 have hb:=h.w.nod.blk;have hp:=aA (cs:=[M.rv, .int .i64 S.bud, .int .i64 S.room, .int .i64 S.most, .int .i64 S.wt, .pointer (some ⟨M.cb,0,none⟩), .pointer (some ⟨M.db,0,none⟩), .pointer (some ⟨M.tb,0,none⟩), .map (some M.mb), .int .i64 (S.sent:Nat),M.ov]) hb;obtain ⟨rb,qv,hN⟩:=h.w.tsk x hx;have hmap:=h.w.map;rw [hx] at hmap;have htm:dZ Tryz.prog 66 3 104=true:=zDk;have hzv:∀ w,(zeroValue 104).run Tryz.prog w=.ok (.pointer none) w:=fun w=>by kernel_rfl
 have cN:∀ w',Ext w w'→Calls Tryz.prog 42 #[.pointer (some ⟨M.nb,0,none⟩)] w' (pX w' fun r w''=>Own 0 1 3 w'' r [[.int .i64 x.n]]):=fun w' hx'=>by
  refine (pP (h.w.grow hx')).mono ?_;rintro e w'' ⟨r,rfl,hxx,hr⟩;rw [show pF S=[x.n] by rw [pF,hx]] at hr;exact ⟨r,rfl,hxx,hr.weaken (Nat.zero_le _)⟩
 go_enter Tryz.func19,Tryz.ntmps19
 refine_lift jH fun _ _ _ _ => ?_;refine bX (nW hn _) fun w1 x1 => ?_;refine_lift jH fun _ _ _ _ => ?_;refine pZ (cN _ x1) fun v w2 x2 o2 => ?_;refine aB ?_;have sl2:=o2.sl;have x02:=x1.trans x2;have hp2:=hp.ext x02;have hel:=sl2.elem (i:=0) rfl;have hlk:=eO (i:=0) nV htm hzv (hmap.ext x02) (x:=.int .i64 x.n) (v:=.pointer (some ⟨M.sb,0,none⟩)) ⟨_,rfl⟩ rfl (by simp [OK]) false;have bS:=x02.at hN.blk;clear hp;refine_lift aL ?_;go_loopw [18] (fun iv wr=>(iv=.int .i64 0∧wr=w2)∨(iv=.int .i64 1∧∃ M',M'.nb=M.nb∧NodeW wL w.heap.size wr M' S'∧Ko w.heap.size w2 wr∧w2.heap.size≤wr.heap.size)) (fun iv _=>1 - (intOf iv).toNat)
 case atStart=>exact .inl ⟨rfl,rfl⟩
 case round =>
  rcases hrel with ⟨rfl,rfl⟩ | ⟨rfl,M',g1,g2,g3,g4⟩
  ·refine_lift rR ?_;intro _ _ _ _ _ _;refine aG (v:=.pointer (some ⟨M.sb,0,none⟩)) (Runs.lookup rfl rfl hlk) ?_;refine aB ?_;have hpS:Pts wr (aP (.pointer (some ⟨M.sb,0,none⟩)) 19) [.int .i64 x.late]:=((aA bS).part 19).front 1;refine_lift bK fun _ _ => ?_;refine aG (v:=aP (.pointer (some ⟨M.sb,0,none⟩)) 19) (by apply Runs.fieldLitK (k:=14);rfl;decide +kernel) ?_;refine aB ?_;have hp0:Pts wr (aP (.pointer (some ⟨M.sb,0,none⟩)) 0) [.pointer (some ⟨rb,0,none⟩)]:=((aA bS).part 0).front 1;refine_lift iU (fun _ => ?_) (fun _ => ?_)
   ·refine fY (KF (hN.tsk.grow x02) h0 h1 hst) ?_;rintro _ w3 ⟨u,rfl,hA,m3⟩;refine ⟨_,rfl,?_⟩;refine aB ?_;have hE3:Ext wL w3:=by
     obtain ⟨rv',sv',gv',ev',hT'⟩:=hA.2;exact hT'.ext
    have k3:Kf [164] [] wr w3:=by
     obtain ⟨rv',sv',gv',ev',hT'⟩:=hN.tsk.grow x02;exact Kf.mvb m3 hT'.blk bE
    have k03:Kf [164] [] w w3:=(Kf.of x02).trans k3;have z3:=m3.size;have z02:=x02.size;have h3:NodeW wL w.heap.size w3 M { S with nt:=some { x with t:=x.t.timeout.1 } }:=by
     refine ⟨hE3,h.w.nod.keep k03 aC aH aH,h.w.rts.keep k03.keep aH,h.w.cac.keep k03 bE aH aH aH,h.w.den.keep k03 aH,h.w.tab.keep k03 bE aH aH aH,h.w.gm,hmap.keep k03 bE,?_,h.w.ne⟩;rintro z ⟨⟩;exact ⟨rb,qv,hN.ge,k03.cells _ _ _ _ hN.blk aH,hA.2,hN.row.keep k03.keep aH,hN.nil⟩
    refine_lift aL ?_;refine fY (hq (by assumption) _ _ h3 hA.1) ?_;rintro _ w4 ⟨rfl,M',g1,g2,g3,g4⟩;refine ⟨_,rfl,?_⟩;refine aB ?_;refine_lift aL ?_;exact ⟨.inr ⟨rfl,M',g1,g2,(Ko.kf k3 aH).trans g3,aC⟩,by simp [intOf]⟩
   ·exact ⟨.inr ⟨rfl,M,rfl,by rw [hlate ‹now < x.late›];exact h.w.grow x02,Ko.of (Ext.refl _),Nat.le_refl _⟩,by simp [intOf]⟩
  ·have hT:=vW g2;rw [g1] at hT;refine_lift mS fun _ _ _ => ?_;refine fY hT ?_;rintro _ w7 ⟨rfl,h7,o7,k7,f7,z7⟩;refine ⟨_,rfl,?_⟩;refine aB ?_;refine_lift aL ?_;go_ret;exact ⟨_,⟨M.nb,M'.rv, .slice none 0 0,M'.cb,M'.em,M'.db,M'.tb,M'.tm,M'.mb,M'.sb⟩,rfl,rfl,h7,o7,(Ko.of x02).trans (g3.trans k7),fun hP=>hP.elim,by have:=x02.size;omega⟩
end Go.Proofs.X
namespace Go.Proofs.X
open Go.RowKit
theorem RD {wL w:World} {M:NodeM} {S:NodeR} (h:NodeI wL w M S) {q:gE} {id bud wt k:Int} {l:List gN} {x:NTask} {y:WaitR} (hW:WaitS q id bud wt k S l x y) (hk:0≤k∧k≤1099511627776) (hw:1≤wt∧wt≤10) (hb:bud≤20) :
 Calls Tryz.prog 19 #[.pointer (some ⟨M.nb,0,none⟩), .int .i64 k] w (lD wL w M (S.lateS x y k) False []):=by
 have hs:=hW.stop;have hleft:=hW.left;have hsent:=hW.sent;refine RC h k hk hW.nt aC aC (by rw [hs];intro a e;cases e) (fun hl=>by rw [NodeR.lateS,if_pos hl]) fun hl w2 u hn2 hu => ?_;have hl':¬ k < x.late:=aC;rcases x.t.on_two hs with ⟨h1,s,rest,e1,e2,e3⟩ | e3
 ·refine (IQ hn2 rfl x.t.timeout.2 u hu h1 k hk.1 hk.2 (by show 0≤S.wt∧S.wt≤2147483647;rw [hW.wt];omega) (by show S.sent≤1000000;omega) (by show S.out.length≤100000;rw [hW.out];simp)).mono ?_;rintro e w3 ⟨rfl,ov,g1,g2,g3⟩;refine ⟨rfl,{ M with ov:=ov },rfl,?_,Ko.bn g2 ?_,g3.size⟩
  ·rw [show S.lateS x y k=({ S with nt:=some { x with t:=x.t.timeout.1 } }:NodeR).send { x with t:=x.t.timeout.1 } x.t.timeout.2 k by rw [NodeR.lateS,if_neg hl',if_pos h1]];exact g1
  intro j hj cs t fz hb;rcases List.mem_cons.1 hj with rfl | hj
  ·rw [hn2.nod.blk] at hb;injection (Option.some.inj hb) with _ e2
   rw [← e2]
   decide
  ·rw [List.mem_singleton.1 hj] at hb;obtain ⟨rb,qv,hN⟩:=hn2.tsk _ rfl;rw [hN.blk] at hb;injection (Option.some.inj hb) with _ e2
   rw [← e2]
   decide
 ·have hk2:x.t.timeout.2.kind=2:=by rw [e3]
  refine (IR hn2 rfl hW.tt hW.n x.t.timeout.2 u hu hk2 (by rw [e3]) k (by rw [hW.cl];simp) (by show S.out.length≤90000;rw [hW.out];simp)).mono ?_;rintro e w3 ⟨rfl,ov,g1,g2,g3⟩;refine ⟨rfl,{ M with ov:=ov },rfl,?_,g2,g3.size⟩;rw [show S.lateS x y k=({ S with nt:=some { x with t:=x.t.timeout.1 } }:NodeR).done { x with t:=x.t.timeout.1 } y x.t.timeout.2 by rw [NodeR.lateS,if_neg hl',if_neg (by rw [hk2];decide)]];exact g1
theorem NodeI.row {wL w w':World} {M:NodeM} {S:NodeR} (h:NodeI wL w M S) {B:Nat} {v:Value} {es:List (List Value)} (ho:Own B 2 50 w v es) (hm:Mv v.ownBlock w w') (hB:wL.heap.size≤B):NodeI wL w' M S:=by
 have k:Kf [50] [] w w':=Kf.row ho hm aH;have l:Lo wL.heap.size w w':=Lo.mv hm fun k hk=>Nat.le_trans hB (ho.block k hk).1;obtain ⟨h1,h2,h⟩:=h;have hx:Ext wL w':=l.ext h.ext (Nat.le_refl _);refine ⟨h1,h2,hx,⟨h.nod.ge,k.cells _ _ _ _ h.nod.blk aH,?_,hx.size,Nat.le_refl _⟩,h.rts.keep k.keep aH,h.cac.keep k bE aH aH aH,h.den.keep k aH,h.tab.keep k bE aH aH aH,h.gm,h.map.keep k bE,fun x e => ?_,h.ne⟩
 ·rw [h2,show (M.c S).ov=.slice none 0 0 from h1];exact Own.nil _ _ _ _
 ·obtain ⟨rb,qv,a⟩:=h.tsk x e;exact ⟨rb,qv,a.keep k hx aH aH aH aH aH aH⟩
def StayS (q:gE) (id bud wt k:Int) (S:NodeR) (l:List gN):Prop:=(∃ x y,WaitS q id bud wt k S l x y)∨ToldS q id bud S l
theorem RE {wL w:World} {M:NodeM} {S:NodeR} (h:NodeI wL w M S) {q:gE} {id bud wt k:Int} {l:List gN} (hW:StayS q id bud wt k S l) (hid:0≤id∧id≤65535) (hq:mD q=true) (hk:0≤k∧k≤1099511627776) (hw:1≤wt∧wt≤10) (hb:bud≤20) :
 Calls Tryz.prog 19 #[.pointer (some ⟨M.nb,0,none⟩), .int .i64 k] w (fun e w'=>∃ r M' S' o,e=.returned r∧M'.nb=M.nb∧NodeI wL w' M' S'∧Own w.heap.size 2 50 w' r (bU o)∧Ko w.heap.size w w'∧w.heap.size≤w'.heap.size∧StayS q id bud wt (k + 1) S' (l ++ o)∧o.length≤200):=by
 rcases hW with ⟨x,y,hW⟩ | hT
 ·refine (RD h hW hk hw hb).mono ?_;rintro e w' ⟨r,M',rfl,g1,g2,g3,g4,g5,g6⟩;have hst:=hW.step hid hq hw.1 hb;refine ⟨r,M',_,_,rfl,g1,g2,g3,g4,g6,hst,?_⟩;rcases hst with ⟨x',y',a⟩ | a
  ·have:=a.len;have:=a.sent;rw [List.length_append] at *;omega
  ·have:=a.len;rw [List.length_append] at this;omega
 ·refine (IV h k hk hT.nt).mono ?_;rintro e w' ⟨r,M',rfl,g1,g2,g3,g4,g5,g6⟩;exact ⟨r,M',_,_,rfl,g1,g2,g3,g4,g6, .inr hT.step,by rw [hT.out];simp⟩
end Go.Proofs.X
