/- Texts laid together: PLedV, PLedF, PLedS, PLedO. No conditions. -/
import Derived.Test.YtjbgdpjgfjnkbaaGreatDoorQAJ
namespace Go.Proofs.YtjbgdpjgfjnkbaaGreatDoor.Am
open Go
abbrev less (a b:o6):Bool:=Op.bytesLess a.1 b.1
def As:Option o6->List o6->Int
 | _,[]=>0
 | p,a :: l=>if ap a.1=false then 10 else match p with
  | none=>As (some a) l
  | some q=>if q.1=a.1 then 8 else if less q a=false then 1 else As (some a) l
def Ch (g:o8):Int:=if 256 < g.1.length then 3 else if As none g.1=0 then(if(uy (g.2 + oq g.1)).2=true then 0 else 6) else As none g.1
def ID (g:o8):Prop:=okU g.2/\uq g.1/\(∀ a ∈ g.1,a.1.length<=1000000000000000)/\g.1.length<=4398046511000
theorem vS {α:Type} {l:List α} {i:Nat} (h:i < l.length):l.drop i=l[i] :: l.drop (i + 1):=a3M h
theorem pP {α:Type} {l:List α} {i:Nat} (h:i < l.length):(l.take (i + 1)).getLast?=some l[i]:=by
 rw [I2 h,List.getLast?_append];rfl
theorem Gr {i:Nat} (h0:0 < i) (h:i < 9223372036854775807):A9 ((i:Int) - 1)=((i - 1:Nat):Int):=by
 rw [C8] <;> omega
theorem IE (p:Option o6) (a:o6) (l:List o6):As p (a :: l)=if ap a.1=false then 10 else match p with
  | none=>As (some a) l
  | some q=>if q.1=a.1 then 8 else if less q a=false then 1 else As (some a) l:=by rfl
theorem RK {g:o8} (h:ID g):jk g=some (Ch g):=by
 obtain⟨l,c⟩:=g;obtain⟨hc,hb,hn,hl⟩:=h;dsimp only at hc hb hn hl;rw [<-J3];unfold jk;dsimp only;rw [A7];refine⟨λh=>?_,λh=>?_⟩
 ·have h:=a23 h;rw [A4];unfold Ch;rw [if_pos (by dsimp only;omega)]
 have h:=a3k h;have hle:¬ 256 < l.length:=by omega
 have hval:Ch (l,c)=if As none l=0 then(if(uy (c + oq l)).2=true then 0 else 6) else As none l:=by unfold Ch;rw [a25 hle]
 rw [hval];unfold mO;refine D8 l (λi (_:Unit)=>(l,((l.length:Nat):Int),((i:Nat):Int),(l,c))) (λi _=>As none l=As (l.take i).getLast? (l.drop i)) (λi _ hi hv=>?_) (λ_ hv=>?_) (b0:=()) rfl (by omega)
 ·rw [vS hi,IE] at hv;unfold fp;dsimp only;rw [a2S (by omega:(i:Int) < ((l.length:Nat):Int)),E8,a2S (by omega:(0:Int)<=(i:Int)/\(i:Int) < ((l.length:Nat):Int)),C4,a2T,E0 hi,Gq (hn _ (a29 hi)),a2X];cases hname:ap l[i].1 with
  | false=>
   rw [a28 hname] at hv;rw [a3r,E8,A4,B8,hv,a25 (by decide)]
  | true=>
   rw [a25 (by rw [hname];decide)] at hv;rw [a3m,E3];rcases a3I i with h0 | h0
   ·subst h0;simp only [a31,List.getLast?_nil] at hv;unfold bN;rw [a2Y (by omega:¬ (0:Int) < ((0:Nat):Int)),E3,E3,E3,A4,B5,D2 (by omega)];exact⟨(),rfl,by rw [hv,pP hi]⟩
   ·have hi':i - 1 < l.length:=by omega
    have hlast:(l.take i).getLast?=some l[i - 1]:=by
     have:=pP hi'
     rwa [a4U h0] at this
    rw [hlast] at hv;dsimp only at hv;unfold bN;rw [a2S (by omega:(0:Int) < ((i:Nat):Int)),E8,Gr h0 (by omega),a2S (by omega:(0:Int)<=((i - 1:Nat):Int)/\((i - 1:Nat):Int) < ((l.length:Nat):Int)),C4,E8,C4,a2T,E0 hi'];by_cases e:l[i - 1].1=l[i].1
    ·rw [a28 e] at hv;rw [a2S e,E8,A4,B8,hv,a25 (by decide)]
    ·rw [a25 e] at hv;have ed:decide (l[i - 1].1=l[i].1)=false:=a2Y e;rw [ed,E3,a5g];cases hls:Op.bytesLess l[i - 1].1 l[i].1 with
     | false=>
      rw [a28 hls] at hv;rw [a3r,E8,A4,B8,hv,a25 (by decide)]
     | true=>
      rw [a25 (by show ¬ Op.bytesLess l[i - 1].1 l[i].1=false;rw [hls];decide)] at hv;rw [a3m,E3,A4,B5,D2 (by omega)];exact⟨(),rfl,by rw [hv,pP hi]⟩
 ·rw [a4g] at hv;have hv:As none l=0:=hv;unfold fp jD;dsimp only;rw [a2Y (by omega),E3,RJ hc hb hl,a2X,hv,a28 rfl];dsimp only;cases (uy (c + oq l)).2 with
  | true=>rw [a28 rfl];exact⟨_,rfl,rfl⟩
  | false=>rw [a25 (by decide)];exact⟨_,rfl,rfl⟩
theorem VJ {g:o8} (h:ID g):T9 g=some (Ch g):=by
 obtain⟨l,c⟩:=g;obtain⟨hc,hb,hn,hl⟩:=h;dsimp only at hc hb hn hl;rw [<-J3];unfold T9;dsimp only;rw [A7];refine⟨λh=>?_,λh=>?_⟩
 ·have h:=a23 h;rw [A4];unfold Ch;rw [if_pos (by dsimp only;omega)]
 have h:=a3k h;have hle:¬ 256 < l.length:=by omega
 have hval:Ch (l,c)=if As none l=0 then(if(uy (c + oq l)).2=true then 0 else 6) else As none l:=by unfold Ch;rw [a25 hle]
 rw [hval];unfold dS;refine D8 l (λi (_:Unit)=>(l,((l.length:Nat):Int),((i:Nat):Int),(l,c))) (λi _=>As none l=As (l.take i).getLast? (l.drop i)) (λi _ hi hv=>?_) (λ_ hv=>?_) (b0:=()) rfl (by omega)
 ·rw [vS hi,IE] at hv;unfold P6;dsimp only;rw [a2S (by omega:(i:Int) < ((l.length:Nat):Int)),E8,a2S (by omega:(0:Int)<=(i:Int)/\(i:Int) < ((l.length:Nat):Int)),C4,a2T,E0 hi,xi (hn _ (a29 hi)),a2X];cases hname:ap l[i].1 with
  | false=>
   rw [a28 hname] at hv;rw [a3r,E8,A4,B8,hv,a25 (by decide)]
  | true=>
   rw [a25 (by rw [hname];decide)] at hv;rw [a3m,E3];rcases a3I i with h0 | h0
   ·subst h0;simp only [a31,List.getLast?_nil] at hv;unfold K7;rw [a2Y (by omega:¬ (0:Int) < ((0:Nat):Int)),E3,E3,A4,B5,D2 (by omega)];exact⟨(),rfl,by rw [hv,pP hi]⟩
   ·have hi':i - 1 < l.length:=by omega
    have hlast:(l.take i).getLast?=some l[i - 1]:=by
     have:=pP hi'
     rwa [a4U h0] at this
    rw [hlast] at hv;dsimp only at hv;unfold K7;rw [a2S (by omega:(0:Int) < ((i:Nat):Int)),E8,Gr h0 (by omega),a2S (by omega:(0:Int)<=((i - 1:Nat):Int)/\((i - 1:Nat):Int) < ((l.length:Nat):Int)),C4,E8,C4,a2T,E0 hi'];by_cases e:l[i - 1].1=l[i].1
    ·rw [a28 e] at hv;rw [a2S e,E8,A4,B8,hv,a25 (by decide)]
    ·rw [a25 e] at hv;have ed:decide (l[i - 1].1=l[i].1)=false:=a2Y e;rw [ed,E3,a5g];cases hls:Op.bytesLess l[i - 1].1 l[i].1 with
     | false=>
      rw [a28 hls] at hv;rw [a3r,E8,A4,B8,hv,a25 (by decide)]
     | true=>
      rw [a25 (by show ¬ Op.bytesLess l[i - 1].1 l[i].1=false;rw [hls];decide)] at hv;rw [a3m,E3,A4,B5,D2 (by omega)];exact⟨(),rfl,by rw [hv,pP hi]⟩
 ·rw [a4g] at hv;have hv:As none l=0:=hv;unfold P6 Y3;dsimp only;rw [a2Y (by omega),E3,Ob hc hb hl,a2X,hv,a28 rfl];dsimp only;cases (uy (c + oq l)).2 with
  | true=>rw [a28 rfl];exact⟨_,rfl,rfl⟩
  | false=>rw [a25 (by decide)];exact⟨_,rfl,rfl⟩
def H7 (l:List o6) (n:List UInt8):Nat:=l.findIdx λa=>decide (a.1=n)
def J1 (l:List o6) (n:List UInt8):Nat:=l.findIdx λa=> !Op.bytesLess a.1 n
def Ls (l:List o6) (n:List UInt8):o6 × Bool:=if H7 l n < l.length then(l.getD (H7 l n) B0,true) else(B0,false)
def IF (l:List o6) (a:o6):List o6:=if H7 l a.1 < l.length then l.set (H7 l a.1) a else l.take (J1 l a.1) ++ a :: l.drop (J1 l a.1)
theorem DO {α:Type} {l:List α} {p:α->Bool} {i:Nat} (h:i < l.length) (hp:p l[i]=true) (hb:∀ j (hj:j < l.length),j < i->p l[j]=false):l.findIdx p=i:=
 (List.findIdx_eq h).2 ⟨hp,λj hj=>hb j (by omega) hj⟩
theorem Gt {α:Type} {l:List α} {p:α->Bool} (hb:∀ j (hj:j < l.length),p l[j]=false):l.findIdx p=l.length:=by
 rw [List.findIdx_eq_length];intro x hx;obtain⟨j,hj,rfl⟩:=a3Z hx;exact hb j hj
theorem vT {α:Type} {l:List α} {p:α->Bool} {j:Nat} (hj:j < l.length) (h:j < l.findIdx p):p l[j]=false:=by
 have:=List.not_of_lt_findIdx h;simpa using this
theorem Ci {α:Type} {l:List α} {p:α->Bool} (h:l.findIdx p < l.length):p l[l.findIdx p]=true:=List.findIdx_getElem (w:=h)
theorem Oe {α:Type} (l:List α) (p:α->Bool):l.findIdx p<=l.length:=List.findIdx_le_length
theorem xl {l:List o6} {n:List UInt8} (hl:l.length<=5000000000000):U5 l n=some (if H7 l n < l.length then((H7 l n:Nat):Int) else -1):=by
 rw [<-J3];unfold U5 kX;refine D8 l (λi (_:Unit)=>(n,l,((l.length:Nat):Int),((i:Nat):Int))) (λi _=>∀ j (hj:j < l.length),j < i->(λa:o6=>decide (a.1=n)) l[j]=false) (λi _ hi hv=>?_) (λ_ hv=>?_) (b0:=()) (λj hj h=>by omega) (by omega)
 ·unfold dp;dsimp only;rw [a2S (by omega:(i:Int) < ((l.length:Nat):Int)),E8,a2S (by omega:(0:Int)<=(i:Int)/\(i:Int) < ((l.length:Nat):Int)),C4,a2T,E0 hi];cases e:decide (l[i].1=n) with
  | true=>
   rw [E8,A4,B8];have:H7 l n=i:=DO hi e hv;rw [this,a28 hi]
  | false=>
   rw [E3,A4,B5,D2 (by omega)];refine⟨(),rfl,λj hj hlt=>?_⟩;by_cases ej:j=i
   ·subst ej;exact e
   ·exact hv j hj (by omega)
 ·unfold dp;dsimp only;have:H7 l n=l.length:=Gt λj hj=>hv j hj hj;rw [a2Y (by omega),E3,A4,B8,this,a25 (by omega)]
theorem Of {g:o8} {n:List UInt8} (hl:g.1.length<=5000000000000):dU g n=some (Ls g.1 n):=by
 unfold dU Ls;rw [xl hl,a2X];by_cases h:H7 g.1 n < g.1.length
 ·rw [a28 h,a28 h,a2S (by omega),E8,a2S (by omega:(0:Int)<=((H7 g.1 n:Nat):Int)/\((H7 g.1 n:Nat):Int) < ((g.1.length:Nat):Int)),C4,a2T]
 ·rw [a25 h,a25 h];rfl
theorem Ud {l:List o6} {a:o6} {k:Nat} (hk:k<=l.length) (hl:l.length<=4398046511000):aC l (k:Int) a=some (l.take k ++ a :: l.drop k):=by
 unfold aC;have e1:(l.take k).length=k:=by rw [a26];omega
 have e2:(l.take k ++ [a]).length=k + 1:=by rw [a2V,e1];rfl
 have e3:(l.drop k).length=l.length - k:=a3a;rw [a2T,a2T,a3i,e1,e2,e3,a2S (by omega),C4,a2S ⟨by unfold LIM;omega,by unfold LEN;omega⟩,C4,a2S ⟨by unfold LIM;omega,by unfold LEN;omega⟩,C4,a2S (by omega),C4,a2S ⟨by unfold LIM;omega,by unfold LEN;omega⟩,C4,a3c];rfl
theorem Cj {l:List o6} {a:o6} (hl:l.length<=4398046511000):ba l a=some (IF l a):=by
 unfold ba IF;rw [xl (by omega),a2X];by_cases h:H7 l a.1 < l.length
 ·rw [a28 h,a28 h,a2S (by omega),E8,a2S ⟨by unfold LIM;omega,by unfold LEN;omega⟩,C4,a2S (by omega:(0:Int)<=((H7 l a.1:Nat):Int)/\((H7 l a.1:Nat):Int) < ((l.length:Nat):Int)),C4,a2T,a2S h,C4]
 ·rw [a25 h,a25 h,a2Y (by omega),E3];rw [<-J3];unfold lH;refine D8 l (λi (_:Unit)=>(l,((i:Nat):Int),a)) (λi _=>∀ j (hj:j < l.length),j < i->(λx:o6=> !Op.bytesLess x.1 a.1) l[j]=false) (λi _ hi hv=>?_) (λ_ hv=>?_) (b0:=()) (λj hj h=>by omega) (by omega)
  ·unfold dQ;dsimp only;rw [a2S (by omega:(i:Int) < ((l.length:Nat):Int)),E8,a2S (by omega:(0:Int)<=(i:Int)/\(i:Int) < ((l.length:Nat):Int)),C4,a2T,E0 hi];cases e:Op.bytesLess l[i].1 a.1 with
   | false=>
    have:J1 l a.1=i:=DO hi (by rw [e];rfl) hv;rw [E3,Ud (by omega) hl,a3s,A4,B8,this]
   | true=>
    rw [E8,A4,B5,D2 (by omega)];refine⟨(),rfl,λj hj hlt=>?_⟩;by_cases ej:j=i
    ·subst ej;rw [e];rfl
    ·exact hv j hj (by omega)
  ·unfold dQ;dsimp only;have:J1 l a.1=l.length:=Gt λj hj=>hv j hj hj;rw [a2Y (by omega),E3,Ud (by omega) hl,a3s,A4,B8,this]
theorem RM (a b:List UInt8):fq a b=some (RL a b):=by
 have hn:∀ x,dX x=some false:=λx=>by unfold dX;rw [a2S rfl];rfl
 unfold fq RL;rw [hn,hn,a2X,a2X,E3,E3];rcases wy a b with h | h | h
 ·rw [h,a28 rfl,E8]
 ·subst h;rw [gY,a2S rfl];rfl
 ·have e:a ≠ b:=λe=>by subst e;rw [gY] at h;cases h
  rw [xj h,h,a2Y e];rfl
def Srt (l:List o6):Prop:=l.Pairwise λa b=>less a b=true
theorem Srt.lt {l:List o6} (h:Srt l) {i j:Nat} (hi:i < l.length) (hj:j < l.length) (hij:i < j):less l[i] l[j]=true:=List.pairwise_iff_getElem.1 h i j hi hj hij
theorem a2N {x:Nat} (h:x<=9223372036854775807):A9 (D7 (A9 (x:Int)) / 2 ^ 1)=((x / 2:Nat):Int):=by
 rw [C8 (n:=(x:Int)) (by omega) (by omega),J4 (by omega) (by omega),C8 (by omega) (by omega)];omega
abbrev Kz:o8:=([],(0:Int))
theorem Cl:∀ {l:List o6} {q:o6},As (some q) l=0 ↔ (∀ a ∈ l,ap a.1=true/\less q a=true)/\Srt l
 | [],q=>⟨λ_=>⟨λa h=>(by cases h),List.Pairwise.nil⟩,λ_=>rfl⟩
 | a :: l,q=>by
  rw [IE];have ih:=Cl (l:=l) (q:=a);dsimp only;constructor
  ·intro h;by_cases h1:ap a.1=false
   ·rw [a28 h1] at h;cases h
   rw [a25 h1] at h;by_cases h2:q.1=a.1
   ·rw [a28 h2] at h;cases h
   rw [a25 h2] at h;by_cases h3:less q a=false
   ·rw [a28 h3] at h;cases h
   rw [a25 h3] at h;have h3':less q a=true:=by simpa using h3
   obtain⟨h4,h5⟩:=ih.1 h;refine⟨λb hb=>?_,List.pairwise_cons.2 ⟨λb hb=>(h4 b hb).2,h5⟩⟩;rcases List.mem_cons.1 hb with rfl | hb
   ·exact⟨by simpa using h1,h3'⟩
   ·exact⟨(h4 b hb).1,qE h3' (h4 b hb).2⟩
  ·rintro⟨h1,h2⟩;obtain⟨h3,h4⟩:=List.pairwise_cons.1 h2;have ha:=h1 a a3V;have hne:q.1 ≠ a.1:=λe=>by
    have:=ha.2;unfold less at this;rw [e,gY] at this;cases this
   rw [a25 (by rw [ha.1];decide),a25 hne,a25 (by rw [ha.2];decide)];exact ih.2 ⟨λb hb=>⟨(h1 b (a3t _ hb)).1,h3 b hb⟩,h4⟩
theorem IG {l:List o6}:As none l=0 ↔ (∀ a ∈ l,ap a.1=true)/\Srt l:=by
 cases l with
 | nil=>exact⟨λ_=>⟨λa h=>(by cases h),List.Pairwise.nil⟩,λ_=>rfl⟩
 | cons a l=>
  rw [IE];dsimp only;constructor
  ·intro h;by_cases h1:ap a.1=false
   ·rw [a28 h1] at h;cases h
   rw [a25 h1] at h;obtain⟨h4,h5⟩:=Cl.1 h;refine⟨λb hb=>?_,List.pairwise_cons.2 ⟨λb hb=>(h4 b hb).2,h5⟩⟩;rcases List.mem_cons.1 hb with rfl | hb
   ·simpa using h1
   ·exact(h4 b hb).1
  ·rintro⟨h1,h2⟩;obtain⟨h3,h4⟩:=List.pairwise_cons.1 h2;rw [a25 (by rw [h1 a a3V];decide)];exact Cl.2 ⟨λb hb=>⟨h1 b (a3t _ hb),h3 b hb⟩,h4⟩
def a1f (g:o8):Prop:=g.1.length<=256/\(∀ a ∈ g.1,ap a.1=true)/\Srt g.1/\(uy (g.2 + oq g.1)).2=true
theorem II {g:o8}:Ch g=0 ↔ a1f g:=by
 unfold Ch a1f;constructor
 ·intro h;by_cases h1:256 < g.1.length
  ·rw [a28 h1] at h;cases h
  rw [a25 h1] at h;by_cases h2:As none g.1=0
  ·rw [a28 h2] at h;obtain⟨h3,h4⟩:=IG.1 h2;refine⟨by omega,h3,h4,?_⟩;by_cases h5:(uy (g.2 + oq g.1)).2=true
   ·exact h5
   ·rw [a25 h5] at h;cases h
  ·rw [a25 h2] at h;exact absurd h h2
 ·rintro⟨h1,h2,h3,h4⟩;rw [a25 (by omega),a28 (IG.2 ⟨h2,h3⟩),a28 h4]
theorem RO {l:List o6} {n:List UInt8} (hs:Srt l):∀ i (hi:i < l.length),J1 l n<=i->Op.bytesLess l[i].1 n=false:=λi hi h=>by
 have hp:(!Op.bytesLess l[J1 l n].1 n)=true:=Ci (p:=λa:o6=> !Op.bytesLess a.1 n) (by show J1 l n < l.length;omega);rcases a3O (J1 l n) i with h1 | h1
 ·have h2:Op.bytesLess l[J1 l n].1 l[i].1=true:=hs.lt (by omega) hi h1;cases e:Op.bytesLess l[i].1 n with
  | false=>rfl
  | true=>rw [qE h2 e] at hp;cases hp
 ·have:i=J1 l n:=by omega
  subst this;simpa using hp
theorem KB {l:List o6} {n:List UInt8}:∀ i (hi:i < l.length),i < J1 l n->Op.bytesLess l[i].1 n=true:=λi hi h=>by
 have:=vT (p:=λa:o6=> !Op.bytesLess a.1 n) hi h;simpa using this
theorem iW {l:List o6} {n:List UInt8} (h:H7 l n < l.length):l[H7 l n].1=n:=a23 (Ci (p:=λa:o6=>decide (a.1=n)) h)
theorem vU {l:List o6} {n:List UInt8} (hs:Srt l) (h:H7 l n < l.length):J1 l n=H7 l n:=by
 have hp:=iW h;refine DO h (by rw [hp,gY];rfl) λj hj hlt=>?_;have:=hs.lt hj h hlt;unfold less at this;rw [hp] at this;rw [this];rfl
theorem vp {l:List o6} {n:List UInt8}:H7 l n < l.length ↔ n ∈ l.map λa=>a.1:=by
 rw [List.mem_map];constructor
 ·intro h;exact⟨l[H7 l n],a29 h,iW h⟩
 ·rintro⟨a,ha,rfl⟩;unfold H7;rw [List.findIdx_lt_length];exact⟨a,ha,by simp⟩
theorem oI {l:List o6} (k:Nat) (a:o6):(l.take k ++ a :: l.drop k).Perm (a :: l):=by
 refine List.perm_middle.trans ?_;rw [a3q]
theorem VK {l:List o6} {a:o6} (hs:Srt l) (h:¬ H7 l a.1 < l.length):Srt (l.take (J1 l a.1) ++ a :: l.drop (J1 l a.1)):=by
 unfold Srt;rw [a4d];have hle:J1 l a.1<=l.length:=Oe _ _;refine⟨hs.sublist (List.take_sublist _ _),List.pairwise_cons.2 ⟨λb hb=>?_,hs.sublist (List.drop_sublist _ _)⟩,λb hb c hc=>?_⟩
 ·obtain⟨j,hj,rfl⟩:=a3Z hb;rw [a3a] at hj;rw [List.getElem_drop];have h1:=RO (n:=a.1) hs (J1 l a.1 + j) (by omega) (by omega);rcases wy a.1 (l[J1 l a.1 + j]'(by omega)).1 with e | e | e
  ·exact e
  ·exact absurd (vp.2 (List.mem_map.2 ⟨l[J1 l a.1 + j]'(by omega),a29 _,e.symm⟩)) h
  ·rw [h1] at e;cases e
 ·obtain⟨j,hj,rfl⟩:=a3Z hb;rw [a26] at hj;rw [List.getElem_take];rcases List.mem_cons.1 hc with rfl | hc
  ·exact KB j (by omega) (by omega)
  ·obtain⟨i,hi,rfl⟩:=a3Z hc;rw [a3a] at hi;rw [List.getElem_drop];exact hs.lt (by omega) (by omega) (by omega)
theorem VL {l:List o6} {a:o6} (hs:Srt l) (h:H7 l a.1 < l.length):Srt (l.set (H7 l a.1) a):=by
 have hn:=iW h;unfold Srt;rw [List.pairwise_iff_getElem];intro i j hi hj hij;rw [a3G] at hi hj;rw [List.getElem_set,List.getElem_set];have:=hs.lt hi hj hij;unfold less at this ⊢;split
 ·rename_i e;rw [a25 (by omega)];subst e
  rwa [hn] at this
 ·split
  ·rename_i e;subst e
   rwa [hn] at this
  ·exact this
theorem yK {l:List o6} {a:o6} (hs:Srt l):Srt (IF l a):=by
 unfold IF;split
 ·exact VL hs (by assumption)
 ·exact VK hs (by assumption)
theorem VM (l:List o6) (a:o6):(IF l a).length=if H7 l a.1 < l.length then l.length else l.length + 1:=by
 unfold IF;split
 ·exact a3G
 ·exact(oI _ a).length_eq
theorem DP {l:List o6} (hl:l.length<=4398046511000):K6 l=some l:=by
 have h1:(0 + l.length) * 32<=LIM:=by unfold LIM;omega
 have h2:0 + l.length<=LEN:=by unfold LEN;omega
 unfold K6 wt;exact congrArg (λb=>chk b (some l)) (a2S ⟨h1,h2⟩)
theorem VN {g:o8} (hl:g.1.length<=4398046511000):ox g=some (g.1,g.2):=by
 unfold ox;rw [DP hl];rfl
def I4 (l:List o6):List (List UInt8):=l.map λa=>a.1
def RQ (seen:List (List UInt8)):List o6->Int
 | []=>0
 | a :: l=>if ap a.1=false then 10 else if a.1 ∈ seen then 8 else RQ (seen ++ [a.1]) l
theorem DR (seen:List (List UInt8)) (a:o6) (l:List o6):RQ seen (a :: l)=if ap a.1=false then 10 else if a.1 ∈ seen then 8 else RQ (seen ++ [a.1]) l:=rfl
theorem Au {l:List o6} {i:Nat} (h:i < l.length):I4 (l.take (i + 1))=I4 (l.take i) ++ [l[i].1]:=by
 unfold I4;rw [I2 h,a3g];rfl
def Gv (l:List o6):List o6:=a0e B0 KC l
def WN (l:List o6):o8 × Int:=if 256 < l.length then(Kz,3) else if RQ [] l=0 then(if(uy (0 + oq l)).2=true then((Gv l,0),0) else(Kz,6)) else(Kz,RQ [] l)
theorem pQ (l:List o6):(Gv l).Perm l:=(DQ B0 KC Ue l).1
theorem Oi (l:List o6):(Gv l).Pairwise λx y=>less y x=false:=by
 have h:=(DQ B0 KC Ue l).2;refine h.imp fun {x y} h=>?_;rw [RP] at h;exact h
theorem Oj {l:List o6} (h:(I4 l).Nodup) {a b:o6} (ha:a ∈ l) (hb:b ∈ l) (e:a.1=b.1):a=b:=by
 unfold I4 at h;rw [List.nodup_iff_pairwise_ne,List.pairwise_map] at h;obtain⟨i,hi,rfl⟩:=a3Z ha;obtain⟨j,hj,rfl⟩:=a3Z hb;rcases a4Z i j with k | k | k
 ·exact absurd e (List.pairwise_iff_getElem.1 h i j hi hj k)
 ·subst k;rfl
 ·exact absurd e.symm (List.pairwise_iff_getElem.1 h j i hj hi k)
theorem Zb {l:List o6} (h:Srt l):l.Pairwise λx y=>less y x=false:=h.imp fun {_x _y} k=>xj k
theorem Ol {l b:List o6} (hn:(I4 l).Nodup) (hp:b.Perm l) (hs:Srt b):b=Gv l:=by
 refine List.Perm.eq_of_pairwise (le:=λx y=>less y x=false) (λx y hx hy h1 h2=>?_) (Zb hs) (Oi l) (hp.trans (pQ l).symm);refine Oj hn (hp.mem_iff.1 hx) ((pQ l).mem_iff.1 hy) ?_;rcases wy x.1 y.1 with e | e | e
 ·unfold less at h2;rw [e] at h2;cases h2
 ·exact e
 ·unfold less at h1;rw [e] at h1;cases h1
theorem RR {l m:List Int} (h:l.Perm m):l.sum=m.sum:=by
 induction h with
 | nil=>rfl
 | cons x _ ih=>rw [a35,a35,ih]
 | swap x y l=>simp only [a35];omega
 | trans _ _ h1 h2=>rw [h1,h2]
theorem yL {l m:List o6} (h:l.Perm m):oq l=oq m:=RR (h.map _)
theorem DS {l:List o6} {n:List UInt8}:H7 l n < l.length ↔ n ∈ I4 l:=vp
theorem vV {l m:List o6} (h:l.Perm m) {n:List UInt8}:n ∈ I4 l ↔ n ∈ I4 m:=(h.map _).mem_iff
end Go.Proofs.YtjbgdpjgfjnkbaaGreatDoor.Am
