/- slices.SortStableFunc at any type and comparison: merging in place. No conditions. -/
import Derived.Test.YtjbgdpjgfjnkbaaGreatDoorQAF
namespace Go.Proofs.YtjbgdpjgfjnkbaaGreatDoor.Am
open Go
section
variable {α:Type} {lt:α->α->Bool}
theorem IA (h:Swo lt) {l:List α} {z x:α} (hs:oH lt (l ++ [z])) (hz:lt z x=true):∀ b ∈ l ++ [z],lt b x=true:=λb hb=>by
 unfold oH at hs;rw [a4d] at hs;rcases List.mem_append.1 hb with hb | hb
 ·cases hbx:lt b x with
  | true=>rfl
  | false=>
   have:=h.tr _ _ _ (hs.2.2 b hb z (by simp)) hbx;rw [hz] at this;cases this
 ·simp only [a3o] at hb;subst hb;exact hz
theorem IB (h:Swo lt) {l:List α} {y x:α} (hs:oH lt (y :: l)) (hy:lt y x=false):∀ b ∈ y :: l,lt b x=false:=λb hb=>by
 unfold oH at hs;rw [a4I] at hs;rcases List.mem_cons.1 hb with rfl | hb
 ·exact hy
 ·exact h.tr _ _ _ (hs.1 b hb) hy
theorem DI (h:Swo lt) {l:List α} {z y:α} (hs:oH lt (l ++ [z])) (hz:lt y z=false):∀ b ∈ l ++ [z],lt y b=false:=λb hb=>by
 unfold oH at hs;rw [a4d] at hs;rcases List.mem_append.1 hb with hb | hb
 ·exact h.tr _ _ _ hz (hs.2.2 b hb z (by simp))
 ·simp only [a3o] at hb;subst hb;exact hz
theorem DJ (h:Swo lt) {l:List α} {w y:α} (hs:oH lt (w :: l)) (hw:lt y w=true):∀ b ∈ w :: l,lt y b=true:=λb hb=>by
 unfold oH at hs;rw [a4I] at hs;rcases List.mem_cons.1 hb with rfl | hb
 ·exact hw
 ·cases hyb:lt y b with
  | true=>rfl
  | false=>
   have:=h.tr _ _ _ hyb (hs.1 b hb);rw [hw] at this;cases this
theorem NU {l m:List α} (h1:oH lt l) (h2:oH lt m) (h:∀ a ∈ l,∀ b ∈ m,lt b a=false):oH lt (l ++ m):=by
 unfold oH at *
 rw [a4d];exact⟨h1,h2,λa ha b hb=>h a ha b hb⟩
theorem mB {l m:List α} (h:oH lt (l ++ m)):oH lt l:=(List.pairwise_append.1 h).1
theorem jW {l m:List α} (h:oH lt (l ++ m)):oH lt m:=(List.pairwise_append.1 h).2.1
theorem NV {l m:List α} (h:oH lt (l ++ m)):∀ a ∈ l,∀ b ∈ m,lt b a=false:=λa ha b hb=>(List.pairwise_append.1 h).2.2 a ha b hb
theorem rX (h:Swo lt) {A1 A2 B1 B2 S1 S2:List α} (hA:oH lt (A1 ++ A2)) (hB:oH lt (B1 ++ B2)) (h1:oH lt S1) (f1:ga (lt:=lt) S1 (A1 ++ B1)) (h2:oH lt S2) (f2:ga (lt:=lt) S2 (A2 ++ B2))
  (x1:∀ a ∈ A1,∀ b ∈ B2,lt b a=false) (x2:∀ b ∈ B1,∀ a ∈ A2,lt b a=true):oH lt (S1 ++ S2)/\ga (lt:=lt) (S1 ++ S2) ((A1 ++ A2) ++ (B1 ++ B2)):=by
 refine⟨NU h1 h2 λa ha b hb=>?_,?_⟩
 ·rcases List.mem_append.1 (f1.mem h ha) with ha | ha <;> rcases List.mem_append.1 (f2.mem h hb) with hb | hb
  ·exact NV hA a ha b hb
  ·exact x1 a ha b hb
  ·exact h.asy _ _ (x2 a ha b hb)
  ·exact NV hB a ha b hb
 ·refine(f1.app f2).trans ?_;have e1:(A1 ++ B1) ++ (A2 ++ B2)=A1 ++ ((B1 ++ A2) ++ B2):=by simp
  have e2:(A1 ++ A2) ++ (B1 ++ B2)=A1 ++ ((A2 ++ B1) ++ B2):=by simp
  rw [e1,e2];exact(ga.refl A1).app ((ga.comm h (A:=A2) (B:=B1) (λa ha b hb=>x2 b hb a ha)).symm.app (ga.refl B2))
end
section
variable {α:Type} {d:α} {cmp:α->α->Option Int} {c:α->α->Int} {rec:List α->Int->Int->Int->Option (List α)}
theorem RE {i j:Nat} (h:i + j < 9223372036854775808):A9 ((D7 (A9 ((i:Int) + (j:Int)))) / 2 ^ 1)=(((i + j) / 2:Nat):Int):=by
 rw [C8 (n:=(i:Int) + (j:Int)) (by omega) (by omega),J4 (n:=(i:Int) + (j:Int)) (by omega) (by omega),C8] <;> omega
theorem Kw {P B R:List α} {x:α} (hlen:(P ++ x :: (B ++ R)).length < 4611686018427387904) :
  yG d cmp rec ((P.length + 1 + B.length:Nat):Int) (P.length:Int) (P ++ x :: (B ++ R))=some (P ++ B ++ x :: R):=by
 simp only [a2V,a27] at hlen;unfold yG;refine J3.1 (eX (λv=>∃ B1 B2,B=B1 ++ B2/\v=(((P.length + 1 + B.length:Nat):Int),((P.length + B1.length:Nat):Int),P ++ B1 ++ x :: (B2 ++ R))) (λv=>(v.1 - v.2.1).toNat) ?_ ⟨[],B,rfl,by simp⟩ (by dsimp only;omega));rintro v ⟨B1,B2,rfl,rfl⟩;dsimp only;simp only [a2V] at hlen ⊢;have w1:A9 (((P.length + 1 + (B1.length + B2.length):Nat):Int) - 1)=((P.length + B1.length + B2.length:Nat):Int):=by rw [C8] <;> omega
 have w2:A9 (((P.length + B1.length:Nat):Int) + 1)=((P.length + B1.length + 1:Nat):Int):=by rw [C8] <;> omega
 cases B2 with
 | nil=>
  simp only [a3l,a4A] at w1 ⊢;simp only [Cb,w1,w2,A7,D4,A4,B5,B8,a2W,a2U,a3b,a3E];exact⟨λh=>by omega,λ_=>trivial⟩
 | cons y B2=>
  simp only [a27] at hlen w1 ⊢;have e0:P ++ B1 ++ x :: (y :: B2 ++ R)=(P ++ B1) ++ x :: ([] ++ y :: (B2 ++ R)):=by simp
  have sw:=Ge (d:=d) (A:=P ++ B1) (M:=[]) (x:=x) (y:=y) (B:=B2 ++ R) (i:=P.length + B1.length) (j:=P.length + B1.length + 1) (by simp) (by simp);simp only [Cb,w1,w2,A7,D4,A4,B5,B8,a2W,a2U,a3G,a2T];rw [e0,sw];have hL:((P ++ B1) ++ x :: ([] ++ y :: (B2 ++ R))).length=P.length + B1.length + 1 + 1 + (B2.length + R.length):=by simp;omega
  rw [hL];refine⟨λ_=>⟨by omega,by omega,by omega,by omega,by omega,by omega,by omega,by omega,⟨B1 ++ [y],B2,by simp,by simp;omega⟩,by omega⟩,λh=>by omega⟩
theorem NW {P B R:List α} {y:α} (hlen:(P ++ B ++ y :: R).length < 4611686018427387904) :
  Ca d cmp rec (P.length:Int) ((P.length + B.length:Nat):Int) (P ++ B ++ y :: R)=some (P ++ y :: (B ++ R)):=by
 simp only [a2V,a27] at hlen;unfold Ca;refine J3.1 (eX (λv=>∃ B1 B2,B=B1 ++ B2/\v=((P.length:Int),((P.length + B1.length:Nat):Int),P ++ B1 ++ y :: (B2 ++ R))) (λv=>v.2.1.toNat) ?_ ⟨B,[],by simp,by simp⟩ (by dsimp only;omega));rintro v ⟨B1,B2,rfl,rfl⟩;dsimp only;simp only [a2V] at hlen ⊢;rcases a3I B1.length with h0 | h0
 ·have:B1=[]:=a3e h0;subst this;simp only [Gi,A7,D4,A4,B5,B8,a2W,a2U,a3l,a3b,a3E];exact⟨λh=>by omega,λ_=>trivial⟩
 ·obtain⟨B3,x,rfl⟩:=qC h0;simp only [a2V,a27,a3l] at hlen ⊢;have w1:A9 (((P.length + (B3.length + (0 + 1)):Nat):Int) - 1)=((P.length + B3.length:Nat):Int):=by rw [C8] <;> omega
  have e0:P ++ (B3 ++ [x]) ++ y :: (B2 ++ R)=(P ++ B3) ++ x :: ([] ++ y :: (B2 ++ R)):=by simp
  have sw:=Io (d:=d) (A:=P ++ B3) (M:=[]) (x:=x) (y:=y) (B:=B2 ++ R) (i:=P.length + B3.length) (j:=P.length + (B3.length + (0 + 1))) (by simp) (by simp;omega);simp only [Gi,w1,A7,D4,A4,B5,B8,a2W,a2U,a3G,a2T];rw [e0,sw];have hL:((P ++ B3) ++ x :: ([] ++ y :: (B2 ++ R))).length=P.length + B3.length + 1 + 1 + (B2.length + R.length):=by simp;omega
  rw [hL];refine⟨λ_=>⟨by omega,by omega,by omega,by omega,by omega,by omega,by omega,by omega,⟨B3,x :: B2,by simp,by simp⟩,by omega⟩,λh=>by omega⟩
def kO (lt:α->α->Bool) (A B S:List α):Prop:=oH lt S/\ga (lt:=lt) S (A ++ B)/\S.length=A.length + B.length
theorem RF (hc:∀ a b,cmp a b=some (c a b)) (h:Swo (ltc c)) {P B Q:List α} {x:α} (hB:oH (ltc c) B) (hlen:(P ++ [x] ++ B ++ Q).length < 4611686018427387904) :
  Ok (yH d cmp rec (P.length:Int) ((P.length + 1:Nat):Int) ((P.length + 1 + B.length:Nat):Int) (P ++ [x] ++ B ++ Q)) λr=>∃ S,r=P ++ S ++ Q/\kO (ltc c) [x] B S:=by
 simp only [a2V,a27,a3l] at hlen;unfold yH;refine eX (λv=>∃ i j:Nat,i<=j/\j<=B.length/\(i=0\/ltc c (B.getD (i - 1) d) x=true)/\(j=B.length\/ltc c (B.getD j d) x=false)/\v=((P.length:Int),((P.length + 1 + i:Nat):Int),((P.length + 1 + j:Nat):Int),P ++ [x] ++ B ++ Q)) (λv=>(v.2.2.1 - v.2.1).toNat) ?_ ⟨0,B.length,by omega,by omega,.inl rfl,.inl rfl,rfl⟩ (by dsimp only;omega);rintro v ⟨i,j,hij,hj,hi0,hj0,rfl⟩;dsimp only;have hh:=RE (i:=P.length + 1 + i) (j:=P.length + 1 + j) (by omega);obtain⟨k,hk⟩:∃ k,(P.length + 1 + i + (P.length + 1 + j)) / 2=P.length + 1 + k:=⟨(P.length + 1 + i + (P.length + 1 + j)) / 2 - (P.length + 1),by omega⟩;rw [hk] at hh;have w3:A9 (((P.length + 1 + k:Nat):Int) + 1)=((P.length + 1 + (k + 1):Nat):Int):=by rw [C8] <;> omega
 have hL:(P ++ [x] ++ B ++ Q).length=P.length + 1 + B.length + Q.length:=by simp;omega
 have gx:(P ++ [x] ++ B ++ Q).getD P.length d=x:=by
  have:P ++ [x] ++ B ++ Q=P ++ x :: (B ++ Q):=by simp
  rw [this];exact kp rfl
 simp only [Iy,hh,w3,hc,hL,A7,D4,A5,A4,C9,B5,B8,a2W,a2U,a2T,gx];refine⟨λhlt=>?_,λhge=>?_⟩
 ·have hkj:i<=k/\k < j:=by omega
  have gk:(P ++ [x] ++ B ++ Q).getD (P.length + 1 + k) d=B.getD k d:=by
   rw [List.getD_eq_getElem?_getD,List.getD_eq_getElem?_getD,List.getElem?_append_left (by simp;omega),List.getElem?_append_right (by simp)];simp
  rw [gk];refine⟨by omega,by omega,by omega,by omega,λhl=>⟨⟨k + 1,j,by omega,by omega,.inr ?_,hj0,rfl⟩,by omega⟩,λhl=>⟨⟨i,k,by omega,by omega,hi0,.inr ?_,rfl⟩,by omega⟩⟩
  ·simpa [ltc] using hl
  ·simpa [ltc] using hl
 ·have e:j=i:=by omega
  subst e;obtain⟨B1,B2,rfl,rfl⟩:=Aq hj;simp only [a2V] at hlen hj0 ⊢;unfold Ix;have hr:=Kw (d:=d) (cmp:=cmp) (rec:=rec) (P:=P) (B:=B1) (R:=B2 ++ Q) (x:=x) (by simp only [a2V,a27];omega);have e1:P ++ [x] ++ (B1 ++ B2) ++ Q=P ++ x :: (B1 ++ (B2 ++ Q)):=by simp
  rw [e1,hr,A4];have f1:∀ b ∈ B1,ltc c b x=true:=by
   rcases a3I B1.length with h0 | h0
   ·have:=a3e h0;subst this;simp
   ·obtain⟨B3,z,rfl⟩:=qC h0;have hz:(B3 ++ [z] ++ B2).getD ((B3 ++ [z]).length - 1) d=z:=by
     have:B3 ++ [z] ++ B2=B3 ++ z :: B2:=by simp
     rw [this];exact kp (by simp)
    rw [hz] at hi0;exact IA h (mB hB) (hi0.resolve_left (by simp))
  have f2:∀ b ∈ B2,ltc c b x=false:=by
   cases B2 with
   | nil=>simp
   | cons y B2=>
    have hz:(B1 ++ y :: B2).getD B1.length d=y:=kp rfl;rw [hz] at hj0;exact IB h (jW hB) (hj0.resolve_left (by simp))
  refine⟨B1 ++ x :: B2,by simp,?_⟩;have:=rX h (A1:=[]) (A2:=[x]) (B1:=B1) (B2:=B2) (S1:=B1) (S2:=x :: B2) (by simp [oH]) hB (mB hB) (ga.refl _) (by
   unfold oH;rw [a4I];exact⟨f2,jW hB⟩) (ga.refl _) (by simp) (by simpa using f1)
  exact⟨this.1,by simpa using this.2,by simp;omega⟩
theorem RG (hc:∀ a b,cmp a b=some (c a b)) (h:Swo (ltc c)) {P A Q:List α} {y:α} (hA:oH (ltc c) A) (hlen:(P ++ A ++ [y] ++ Q).length < 4611686018427387904) :
  Ok (yF d cmp rec ((P.length + A.length:Nat):Int) (P.length:Int) ((P.length + A.length:Nat):Int) (P ++ A ++ [y] ++ Q)) λr=>∃ S,r=P ++ S ++ Q/\kO (ltc c) A [y] S:=by
 simp only [a2V,a27,a3l] at hlen;unfold yF;refine eX (λv=>∃ i j:Nat,i<=j/\j<=A.length/\(i=0\/ltc c y (A.getD (i - 1) d)=false)/\(j=A.length\/ltc c y (A.getD j d)=true)/\v=(((P.length + A.length:Nat):Int),((P.length + i:Nat):Int),((P.length + j:Nat):Int),P ++ A ++ [y] ++ Q)) (λv=>(v.2.2.1 - v.2.1).toNat) ?_ ⟨0,A.length,by omega,by omega,.inl rfl,.inl rfl,by simp⟩ (by dsimp only;omega);rintro v ⟨i,j,hij,hj,hi0,hj0,rfl⟩;dsimp only;have hh:=RE (i:=P.length + i) (j:=P.length + j) (by omega);obtain⟨k,hk⟩:∃ k,(P.length + i + (P.length + j)) / 2=P.length + k:=⟨(P.length + i + (P.length + j)) / 2 - P.length,by omega⟩;rw [hk] at hh;have w3:A9 (((P.length + k:Nat):Int) + 1)=((P.length + (k + 1):Nat):Int):=by rw [C8] <;> omega
 have hL:(P ++ A ++ [y] ++ Q).length=P.length + A.length + 1 + Q.length:=by simp;omega
 have gx:(P ++ A ++ [y] ++ Q).getD (P.length + A.length) d=y:=by
  have:P ++ A ++ [y] ++ Q=(P ++ A) ++ y :: Q:=by simp
  rw [this];exact kp (by simp)
 simp only [Iw,hh,w3,hc,hL,A7,D4,A5,A4,C9,B5,B8,a2W,a2U,a20,a2Z,a2T,gx];refine⟨λhlt=>?_,λhge=>?_⟩
 ·have hkj:i<=k/\k < j:=by omega
  have gk:(P ++ A ++ [y] ++ Q).getD (P.length + k) d=A.getD k d:=by
   rw [List.getD_eq_getElem?_getD,List.getD_eq_getElem?_getD,a3c,a3c,List.getElem?_append_right (by simp),List.getElem?_append_left (by simp;omega)];simp
  rw [gk];refine⟨by omega,by omega,by omega,by omega,λhl=>⟨⟨k + 1,j,by omega,by omega,.inr ?_,hj0,rfl⟩,by omega⟩,λhl=>⟨⟨i,k,by omega,by omega,hi0,.inr ?_,rfl⟩,by omega⟩⟩
  ·simpa [ltc] using hl
  ·simpa [ltc] using hl
 ·have e:j=i:=by omega
  subst e;obtain⟨A1,A2,rfl,rfl⟩:=Aq hj;simp only [a2V] at hlen hj0 ⊢;unfold NL;have hr:=NW (d:=d) (cmp:=cmp) (rec:=rec) (P:=P ++ A1) (B:=A2) (R:=Q) (y:=y) (by simp only [a2V,a27];omega);have e1:P ++ (A1 ++ A2) ++ [y] ++ Q=P ++ A1 ++ A2 ++ y :: Q:=by simp
  simp only [a2V] at hr;rw [e1,<-a3J,hr,A4];have f1:∀ a ∈ A1,ltc c y a=false:=by
   rcases a3I A1.length with h0 | h0
   ·have:=a3e h0;subst this;simp
   ·obtain⟨B3,z,rfl⟩:=qC h0;have hz:(B3 ++ [z] ++ A2).getD ((B3 ++ [z]).length - 1) d=z:=by
     have:B3 ++ [z] ++ A2=B3 ++ z :: A2:=by simp
     rw [this];exact kp (by simp)
    rw [hz] at hi0;exact DI h (mB hA) (hi0.resolve_left (by simp))
  have f2:∀ a ∈ A2,ltc c y a=true:=by
   cases A2 with
   | nil=>simp
   | cons z A2=>
    have hz:(A1 ++ z :: A2).getD A1.length d=z:=kp rfl;rw [hz] at hj0;exact DJ h (jW hA) (hj0.resolve_left (by simp))
  refine⟨A1 ++ y :: A2,by simp,?_⟩;have:=rX h (A1:=A1) (A2:=A2) (B1:=[y]) (B2:=[]) (S1:=A1 ++ [y]) (S2:=A2) hA (by simp [oH]) (NU (mB hA) (by simp [oH]) (by simpa using f1)) (ga.refl _) (jW hA) (by simpa using ga.refl A2) (by simp) (by simpa using f2);have e2:A1 ++ [y] ++ A2=A1 ++ y :: A2:=by simp
  rw [e2] at this;exact⟨this.1,by simpa using this.2,by simp;omega⟩
theorem kO.left {A:List α} (h:oH (ltc c) A):kO (ltc c) A [] A:=⟨h,by simpa using ga.refl A,by simp⟩
theorem kO.right {A:List α} (h:oH (ltc c) A):kO (ltc c) [] A A:=⟨h,by simpa using ga.refl A,by simp⟩
set_option maxHeartbeats 4000000 in
theorem NX (hc:∀ a b,cmp a b=some (c a b)) (h:Swo (ltc c)):∀ (n:Nat) {P A B Q:List α} {a m b:Int},A.length + B.length<=n->0 < A.length->0 < B.length->oH (ltc c) A->oH (ltc c) B->(P ++ A ++ B ++ Q).length < 2305843009213693952->
  a=P.length->m=((P.length + A.length:Nat):Int)->b=((P.length + A.length + B.length:Nat):Int)->Ok (VA d cmp n (P ++ A ++ B ++ Q) a m b) λr=>∃ S,r=P ++ S ++ Q/\kO (ltc c) A B S:=by
 intro n
 induction n with
 | zero=>intro P A B Q a m b hn h0;omega
 | succ n ih=>
  intro P A B Q a m b hn h0 h1 hA hB hlen ha hm hb;subst ha hm hb;have hlen':=hlen;simp only [a2V] at hlen';show Ok (yI d cmp (VA d cmp n) (P ++ A ++ B ++ Q) (P.length:Int) ((P.length + A.length:Nat):Int) ((P.length + A.length + B.length:Nat):Int)) _;have w1:A9 (((P.length + A.length:Nat):Int) - (P.length:Int))=(A.length:Int):=by rw [C8] <;> omega
  have w2:A9 (((P.length + A.length + B.length:Nat):Int) - ((P.length + A.length:Nat):Int))=(B.length:Int):=by rw [C8] <;> omega
  simp only [yI,NM,w1,w2,A7,a2W,a2U];refine⟨λhA1=>?_,λhA1=>⟨λhB1=>?_,λhB1=>?_⟩⟩
  ·obtain⟨x,A',rfl⟩:=Ip h0;have:A'=[]:=a3e (by simp at hA1;omega);subst this;exact RF hc h hB (by simp only [a2V] at hlen ⊢;omega)
  ·obtain⟨y,B',rfl⟩:=Ip h1;have:B'=[]:=a3e (by simp at hB1;omega);subst this;exact RG hc h hA (by simp only [a2V] at hlen ⊢;omega)
  ·have hh:=RE (i:=P.length) (j:=P.length + A.length + B.length) (by omega);obtain⟨k,hk⟩:∃ k,(P.length + (P.length + A.length + B.length)) / 2=P.length + k:=⟨(P.length + (P.length + A.length + B.length)) / 2 - P.length,by omega⟩;rw [hk] at hh;have hk1:2 * k<=A.length + B.length/\A.length + B.length<=2 * k + 1:=by omega
   have w3:A9 (((P.length + k:Nat):Int) + ((P.length + A.length:Nat):Int))=((P.length + k + P.length + A.length:Nat):Int):=by rw [C8] <;> omega
   simp only [NK,hh,w3,A7,a2W,a2U];have key:∀ s0 r0:Nat,s0<=r0->r0<=A.length->r0<=k->k<=s0 + B.length->(s0=0\/s0 + B.length=k)->(r0=A.length\/r0=k)->
     Ok (BZ d cmp (VA d cmp n) (P.length:Int) ((P.length + A.length:Nat):Int) ((P.length + A.length + B.length:Nat):Int) ((P.length + k:Nat):Int) ((P.length + k + P.length + A.length:Nat):Int) ((P.length + s0:Nat):Int) ((P.length + r0:Nat):Int) (P ++ A ++ B ++ Q)) λr=>∃ S,r=P ++ S ++ Q/\kO (ltc c) A B S:=by
    intro s0 r0 hsr hrA hrk hks hs hr;have w4:A9 (((P.length + k + P.length + A.length:Nat):Int) - 1)=((P.length + k + P.length + A.length:Nat):Int) - 1:=by rw [C8] <;> omega
    unfold BZ Iv;rw [w4];refine eX (λv=>∃ i j:Nat,s0<=i/\i<=j/\j<=r0/\(i=s0\/ltc c (B.getD (k - i) d) (A.getD (i - 1) d)=false)/\(j=r0\/ltc c (B.getD (k - 1 - j) d) (A.getD j d)=true)/\
     v=((P.length:Int),((P.length + A.length:Nat):Int),((P.length + A.length + B.length:Nat):Int),((P.length + k:Nat):Int),((P.length + k + P.length + A.length:Nat):Int),((P.length + i:Nat):Int),((P.length + j:Nat):Int),((P.length + k + P.length + A.length:Nat):Int) - 1,P ++ A ++ B ++ Q)) (λv=>(v.2.2.2.2.2.2.1 - v.2.2.2.2.2.1).toNat) ?_ ⟨s0,r0,by omega,hsr,by omega,.inl rfl,.inl rfl,rfl⟩ (by dsimp only;omega)
    rintro v ⟨i,j,hsi,hij,hj,hi0,hj0,rfl⟩;dsimp only;have hh2:=RE (i:=P.length + i) (j:=P.length + j) (by omega);obtain⟨q,hq⟩:∃ q,(P.length + i + (P.length + j)) / 2=P.length + q:=⟨(P.length + i + (P.length + j)) / 2 - P.length,by omega⟩;rw [hq] at hh2;have w5:A9 (((P.length + q:Nat):Int) + 1)=((P.length + (q + 1):Nat):Int):=by rw [C8] <;> omega
    simp only [NJ,hh2,w5,A7,D4,A5,A4,C9,B5,B8,a2W,a2U,a20,a2Z];refine⟨λhlt=>?_,λhge=>?_⟩
    ·have hqj:i<=q/\q < j:=by omega
     have w6:A9 (((P.length + k + P.length + A.length:Nat):Int) - 1 - ((P.length + q:Nat):Int))=((P.length + A.length + (k - 1 - q):Nat):Int):=by rw [C8] <;> omega
     have hL:(P ++ A ++ B ++ Q).length=P.length + A.length + B.length + Q.length:=by simp;omega
     have gA:(P ++ A ++ B ++ Q).getD (P.length + q) d=A.getD q d:=by
      rw [List.getD_eq_getElem?_getD,List.getD_eq_getElem?_getD,a3c,a3c,List.getElem?_append_right (by simp),List.getElem?_append_left (by simp;omega)];simp
     have gB:(P ++ A ++ B ++ Q).getD (P.length + A.length + (k - 1 - q)) d=B.getD (k - 1 - q) d:=by
      rw [List.getD_eq_getElem?_getD,List.getD_eq_getElem?_getD,a3c,List.getElem?_append_right (by simp),List.getElem?_append_left (by simp;omega)];congr 2;simp
     simp only [w6,hL,a2T,gA,gB,hc,A4];refine⟨by omega,by omega,by omega,by omega,λhl=>⟨⟨q + 1,j,by omega,by omega,by omega,.inr ?_,hj0,rfl⟩,by omega⟩,λhl=>⟨⟨i,q,by omega,by omega,by omega,hi0,.inr ?_,rfl⟩,by omega⟩⟩
     ·rw [show k - (q + 1)=k - 1 - q by omega,a5r];simpa [ltc] using hl
     ·simpa [ltc] using hl
    ·have e:j=i:=by omega
     subst e;obtain⟨A1,A2,rfl,rfl⟩:=Aq (l:=A) (i:=j) (by omega);obtain⟨B1,B2,rfl,hB1l⟩:=Aq (l:=B) (i:=k - A1.length) (by omega);simp only [a2V] at *
     have hk2:k=A1.length + B1.length:=by omega
     have x1:∀ a ∈ A1,∀ b ∈ B2,ltc c b a=false:=by
      rcases a3I A1.length with e0 | e0
      ·have:=a3e e0;subst this;simp
      cases B2 with
      | nil=>simp
      | cons y B2=>
       obtain⟨A3,z,rfl⟩:=qC e0;simp only [a2V,a27,a3l] at *
       have hz:(A3 ++ [z] ++ A2).getD (A3.length + (0 + 1) - 1) d=z:=by
        have:A3 ++ [z] ++ A2=A3 ++ z :: A2:=by simp
        rw [this];exact kp (by omega)
       have hy:(B1 ++ y :: B2).getD (k - (A3.length + (0 + 1))) d=y:=kp (by omega);rw [hz,hy] at hi0;have:=hi0.resolve_left (by omega);exact λa ha b hb=>IB h (jW hB) (DI h (mB hA) this a ha) b hb
     have x2:∀ b ∈ B1,∀ a ∈ A2,ltc c b a=true:=by
      rcases a3I B1.length with e0 | e0
      ·have:=a3e e0;subst this;simp
      cases A2 with
      | nil=>simp
      | cons w A2=>
       obtain⟨B3,z,rfl⟩:=qC e0;simp only [a2V,a27,a3l] at *
       have hz:(B3 ++ [z] ++ B2).getD (k - 1 - A1.length) d=z:=by
        have:B3 ++ [z] ++ B2=B3 ++ z :: B2:=by simp
        rw [this];exact kp (by omega)
       have hy:(A1 ++ w :: A2).getD A1.length d=w:=kp rfl;rw [hz,hy] at hj0;have:=hj0.resolve_left (by omega);exact λb hb a ha=>DJ h (jW hA) (IA h (mB hB) this b hb) a ha
     have w7:A9 (((P.length + k + P.length + (A1.length + A2.length):Nat):Int) - ((P.length + A1.length:Nat):Int))=((P.length + A1.length + A2.length + B1.length:Nat):Int):=by rw [C8] <;> omega
     have rest:Ok (yE d cmp (VA d cmp n) (P.length:Int) ((P.length + (A1.length + A2.length) + (B1.length + B2.length):Nat):Int) ((P.length + k:Nat):Int) ((P.length + A1.length:Nat):Int) ((P.length + A1.length + A2.length + B1.length:Nat):Int) (P ++ A1 ++ B1 ++ A2 ++ B2 ++ Q)) λr=>∃ S,r=P ++ S ++ Q/\kO (ltc c) (A1 ++ A2) (B1 ++ B2) S:=by
      have rest2:∀ S1,kO (ltc c) A1 B1 S1->Ok (yD d cmp (VA d cmp n) ((P.length + (A1.length + A2.length) + (B1.length + B2.length):Nat):Int) ((P.length + k:Nat):Int) ((P.length + A1.length + A2.length + B1.length:Nat):Int) (P ++ S1 ++ A2 ++ B2 ++ Q)) λr=>∃ S,r=P ++ S ++ Q/\kO (ltc c) (A1 ++ A2) (B1 ++ B2) S:=by
       intro S1 hS1;have done:∀ S2,kO (ltc c) A2 B2 S2->∃ S,P ++ S1 ++ S2 ++ Q=P ++ S ++ Q/\kO (ltc c) (A1 ++ A2) (B1 ++ B2) S:=λS2 hS2=>by
        obtain⟨m1,m2⟩:=rX h hA hB hS1.1 hS1.2.1 hS2.1 hS2.2.1 x1 x2;exact⟨S1 ++ S2,by simp,m1,m2,by simp only [a2V,hS1.2.2,hS2.2.2];omega⟩
       have triv:(A2=[]\/B2=[])->∃ S,P ++ S1 ++ A2 ++ B2 ++ Q=P ++ S ++ Q/\kO (ltc c) (A1 ++ A2) (B1 ++ B2) S:=by
        rintro(rfl | rfl)
        ·simpa using done B2 (kO.right (jW hB))
        ·simpa using done A2 (kO.left (jW hA))
       simp only [yD,A7,A5,A4,a2W,a2U];refine⟨λc1=>⟨λc2=>?_,λc2=>?_⟩,λc1=>?_⟩
       ·have:=ih (P:=P ++ S1) (A:=A2) (B:=B2) (Q:=Q) (a:=((P.length + k:Nat):Int)) (m:=((P.length + A1.length + A2.length + B1.length:Nat):Int)) (b:=((P.length + (A1.length + A2.length) + (B1.length + B2.length):Nat):Int)) (by omega) (by omega) (by omega) (jW hA) (jW hB) (by simp only [a2V,hS1.2.2];omega) (by simp only [a2V,hS1.2.2];omega) (by simp only [a2V,hS1.2.2];omega) (by simp only [a2V,hS1.2.2];omega);refine this.mono ?_;rintro r ⟨S2,rfl,hS2⟩;exact done S2 hS2
       ·exact triv (.inr (a3e (by omega)))
       ·exact triv (.inl (a3e (by omega)))
      have triv:(A1=[]\/B1=[])->kO (ltc c) A1 B1 (A1 ++ B1):=by
       rintro(rfl | rfl)
       ·simpa using kO.right (mB hB)
       ·simpa using kO.left (mB hA)
      have e5:P ++ A1 ++ B1 ++ A2 ++ B2 ++ Q=P ++ (A1 ++ B1) ++ A2 ++ B2 ++ Q:=by simp
      simp only [yE,A7,A5,a2W,a2U];refine⟨λc1=>⟨λc2=>?_,λc2=>?_⟩,λc1=>?_⟩
      ·have e4:P ++ A1 ++ B1 ++ A2 ++ B2 ++ Q=P ++ A1 ++ B1 ++ (A2 ++ B2 ++ Q):=by simp
       have:=ih (P:=P) (A:=A1) (B:=B1) (Q:=A2 ++ B2 ++ Q) (a:=(P.length:Int)) (m:=((P.length + A1.length:Nat):Int)) (b:=((P.length + k:Nat):Int)) (by omega) (by omega) (by omega) (mB hA) (mB hB) (by simp only [a2V];omega) rfl rfl (by omega);rw [e4];refine this.mono ?_;rintro r ⟨S1,rfl,hS1⟩;have:=rest2 S1 hS1
       rwa [show P ++ S1 ++ (A2 ++ B2 ++ Q)=P ++ S1 ++ A2 ++ B2 ++ Q by simp]
      ·rw [e5];exact rest2 _ (triv (.inr (a3e (by omega))))
      ·rw [e5];exact rest2 _ (triv (.inl (a3e (by omega))))
     have e6:P ++ (A1 ++ A2) ++ (B1 ++ B2) ++ Q=P ++ A1 ++ A2 ++ B1 ++ (B2 ++ Q):=by simp
     have nil:(A2=[]\/B1=[])->P ++ (A1 ++ A2) ++ (B1 ++ B2) ++ Q=P ++ A1 ++ B1 ++ A2 ++ B2 ++ Q:=by
      rintro(rfl | rfl) <;> simp
     simp only [NI,w7,A7,A5,a2W,a2U];refine⟨λc1=>⟨λc2=>?_,λc2=>?_⟩,λc1=>?_⟩
     ·have hr:=VB (d:=d) (cmp:=cmp) (P:=P ++ A1) (A:=A2) (B:=B1) (Q:=B2 ++ Q) (a:=((P.length + A1.length:Nat):Int)) (m:=((P.length + (A1.length + A2.length):Nat):Int)) (b:=((P.length + A1.length + A2.length + B1.length:Nat):Int)) (by simp) (by simp;omega) (by simp) (by omega) (by omega) (by simp only [a2V];omega);rw [e6,hr,A4]
      rwa [show P ++ A1 ++ B1 ++ A2 ++ (B2 ++ Q)=P ++ A1 ++ B1 ++ A2 ++ B2 ++ Q by simp]
     ·rw [nil (.inr (a3e (by omega)))];exact rest
     ·rw [nil (.inl (a3e (by omega)))];exact rest
   refine⟨λhlt=>?_,λhge=>?_⟩
   ·have w8:A9 (((P.length + k + P.length + A.length:Nat):Int) - ((P.length + A.length + B.length:Nat):Int))=((P.length + (k - B.length):Nat):Int):=by rw [C8] <;> omega
    rw [w8];exact key (k - B.length) k (by omega) (by omega) (by omega) (by omega) (by omega) (.inr rfl)
   ·have:=key 0 A.length (by omega) (by omega) (by omega) (by omega) (.inl rfl) (.inl rfl)
    rwa [a4A] at this
end
end Go.Proofs.YtjbgdpjgfjnkbaaGreatDoor.Am
