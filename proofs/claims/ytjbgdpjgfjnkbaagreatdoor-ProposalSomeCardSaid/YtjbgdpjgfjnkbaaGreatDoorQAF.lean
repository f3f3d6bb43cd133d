/- slices.SortStableFunc at any type and comparison: insertion sort, swaps, rotations. No conditions. -/
import Derived.Test.YtjbgdpjgfjnkbaaGreatDoorQAE
namespace Go.Proofs.YtjbgdpjgfjnkbaaGreatDoor.Am
open Go
section
variable {α:Type} {d:α} {cmp:α->α->Option Int} {c:α->α->Int}
def ltc (c:α->α->Int) (a b:α):Bool:=decide (c a b < 0)
theorem Kv (hc:∀ a b,cmp a b=some (c a b)) {P Q:List α} {x:α} {b i:Int} {T:List α}:∀ (s:List α),(P ++ s ++ x :: Q).length < 4611686018427387904->P ++ wM (ltc c) x s ++ Q=T->
  Ir d cmp (P.length:Int) b i ((P.length + s.length:Nat):Int) (P ++ s ++ x :: Q)=some (.inl ((P.length:Int),b,A9 (i + 1),T)):=by
 intro s hlen hT;refine J3.1 (eX (λv=>∃ s R,v=((P.length:Int),b,i,((P.length + s.length:Nat):Int),P ++ s ++ x :: R)/\P ++ wM (ltc c) x s ++ R=T/\(P ++ s ++ x :: R).length < 4611686018427387904) (λv=>v.2.2.2.1.toNat) ?_ ⟨s,Q,rfl,hT,hlen⟩ (by simp only [a2V,a27] at hlen ⊢;omega));rintro v ⟨s,R,rfl,hT,hlen⟩;dsimp only;rcases a3I s.length with h0 | h0
 ·have hs:s=[]:=a3e h0;subst hs;simp only [Gf,A7,A4,B8,a2W,a2U];refine⟨λh=>?_,λ_=>?_⟩
  ·simp at h
  ·rw [xg] at hT;simp at hT ⊢;exact hT
 ·obtain⟨s2,y,rfl⟩:=qC h0;simp only [a2V,a27,a3l] at hlen;have e0:P ++ (s2 ++ [y]) ++ x :: R=(P ++ s2) ++ y :: ([] ++ x :: R):=by simp
  have hw:A9 (((P.length + (s2 ++ [y]).length:Nat):Int) - 1)=((P.length + s2.length:Nat):Int):=by
   rw [C8] <;> simp <;> omega
  have hj:(((P.length + (s2 ++ [y]).length:Nat):Int)).toNat=(P ++ s2).length + 1 + ([]:List α).length:=by simp;omega
  have hj1:(((P.length + s2.length:Nat):Int)).toNat=(P ++ s2).length:=by rw [a2T,a2V]
  have g1:(P ++ (s2 ++ [y]) ++ x :: R).getD (((P.length + (s2 ++ [y]).length:Nat):Int)).toNat d=x:=by
   have:P ++ (s2 ++ [y]) ++ x :: R=(P ++ (s2 ++ [y])) ++ x :: R:=rfl;exact kp (by simp only [a2T,a2V])
  have g2:(P ++ (s2 ++ [y]) ++ x :: R).getD (((P.length + s2.length:Nat):Int)).toNat d=y:=by
   rw [e0];exact kp hj1
  simp only [Gf,hw,g1,g2,hc,A7,D4,A5,A4,B5,B8,a2W,a2U,a3G];have hL:(P ++ (s2 ++ [y]) ++ x :: R).length=P.length + s2.length + 1 + 1 + R.length:=by simp;omega
  rw [hL];have hsl:(s2 ++ [y]).length=s2.length + 1:=by simp
  rw [hsl];refine⟨λ_=>?_,λh=>?_⟩
  ·refine⟨by omega,by omega,by omega,by omega,λhlt=>?_,λhlt=>?_⟩
   ·refine⟨by omega,by omega,by omega,by omega,by omega,by omega,by omega,by omega,⟨s2,y :: R,?_,?_,?_⟩,?_⟩
    ·have:=Io (d:=d) (A:=P ++ s2) (M:=[]) (x:=y) (y:=x) (B:=R) (i:=((P.length + s2.length:Nat):Int).toNat) (j:=((P.length + (s2.length + 1):Nat):Int).toNat) hj1 (by simp;omega);rw [<-e0] at this;rw [<-hsl,g1,g2] at this;rw [<-hsl,this];simp
    ·rw [rW,a28 (by simp [ltc,hlt])] at hT;rw [<-hT];simp
    ·simp;omega
    ·simp;omega
   ·rw [rW,a25 (by simp [ltc,hlt])] at hT;rw [<-hT];simp
  ·omega
theorem NT (hc:∀ a b,cmp a b=some (c a b)) {P A Q:List α} (hlen:(P ++ A ++ Q).length < 4611686018427387904) :
  a0d d cmp (P ++ A ++ Q) (P.length:Int) ((P.length + A.length:Nat):Int)=some (P ++ iH (ltc c) A ++ Q):=by
 simp only [a2V] at hlen;have hw:A9 ((P.length:Int) + 1)=((P.length + 1:Nat):Int):=by rw [C8] <;> omega
 unfold a0d Is;rw [hw];refine J3.1 (eX (λv=>∃ A1 A2,A=A1 ++ A2/\((A1=[]/\A2=[]/\v=((P.length:Int),((P.length + A.length:Nat):Int),((P.length + 1:Nat):Int),P ++ A ++ Q))\/v=((P.length:Int),((P.length + A.length:Nat):Int),((P.length + A1.length:Nat):Int),P ++ iH (ltc c) A1 ++ (A2 ++ Q)))) (λv=>(v.2.1 - v.2.2.1).toNat) ?_ ?_ (by dsimp only;omega))
 ·rintro v ⟨A1,A2,rfl,h⟩;rcases h with⟨rfl,rfl,rfl⟩ | rfl
  ·dsimp only;simp only [BY,A7,A4,B8,a2W,a2U,a3b,a3l];exact⟨λh=>by omega,λ_=>by simp [iH]⟩
  ·dsimp only;cases A2 with
   | nil=>
    simp only [BY,A7,A4,B8,a2W,a2U,a3b,a3E];exact⟨λh=>by omega,λ_=>trivial⟩
   | cons x A2=>
    simp only [a2V,a27] at hlen;have hs:=X8 (ltc c) A1;have hin:=Kv (d:=d) hc (P:=P) (Q:=A2 ++ Q) (x:=x) (b:=((P.length + (A1 ++ x :: A2).length:Nat):Int)) (i:=((P.length + A1.length:Nat):Int)) (iH (ltc c) A1) (by simp only [a2V,a27,hs];omega) rfl;rw [hs,<-pN] at hin;have hw2:A9 (((P.length + A1.length:Nat):Int) + 1)=((P.length + (A1 ++ [x]).length:Nat):Int):=by
     rw [C8] <;> (try simp only [a2V,a27,a3l]) <;> omega
    rw [hw2] at hin;simp only [BY,A7,A4,B8,a2W,a2U,a3x,a2V,a27] at hin ⊢;rw [hin];refine⟨λ_=>?_,λh=>by omega⟩;rw [A4,B5];refine⟨⟨A1 ++ [x],A2,by simp,.inr (by simp)⟩,?_⟩;dsimp only;simp only [a3l];omega
 ·cases A with
  | nil=>exact⟨[],[],rfl,.inl ⟨rfl,rfl,rfl⟩⟩
  | cons x A=>exact⟨[x],A,rfl,.inr (by simp [iH,xg])⟩
theorem Gj {P A M B Q:List α} {a b n:Int} (hAB:A.length=B.length) (ha:a=P.length) (hb:b=((P.length + A.length + M.length:Nat):Int)) (hn:n=A.length) (hlen:(P ++ A ++ M ++ B ++ Q).length < 4611686018427387904) :
  YY d cmp (P ++ A ++ M ++ B ++ Q) a b n=some (P ++ B ++ M ++ A ++ Q):=by
 subst ha hb hn;simp only [a2V] at hlen;unfold YY It;refine J3.1 (eX (λv=>∃ A1 A2 B1 B2,A=A1 ++ A2/\B=B1 ++ B2/\A1.length=B1.length/\v=((P.length:Int),((P.length + A.length + M.length:Nat):Int),(A.length:Int),(A1.length:Int),P ++ B1 ++ A2 ++ M ++ A1 ++ B2 ++ Q)) (λv=>(v.2.2.1 - v.2.2.2.1).toNat) ?_ ⟨[],A,[],B,rfl,rfl,rfl,by simp⟩ (by dsimp only;omega));rintro v ⟨A1,A2,B1,B2,rfl,rfl,h1,rfl⟩;dsimp only;simp only [a2V] at hAB hlen ⊢;cases A2 with
 | nil=>
  have:B2=[]:=a3e (by simp at hAB;omega);subst this;simp only [Gg,A7,A4,B8,a2W,a2U,a3b,a3l];exact⟨λh=>by omega,λ_=>trivial⟩
 | cons x A2=>
  cases B2 with
  | nil=>simp at hAB;omega
  | cons y B2=>
   simp only [a27] at hAB hlen ⊢;have e0:P ++ B1 ++ x :: A2 ++ M ++ A1 ++ y :: B2 ++ Q=(P ++ B1) ++ x :: ((A2 ++ M ++ A1) ++ y :: (B2 ++ Q)):=by simp
   have w1:A9 (((P.length + (A1.length + (A2.length + 1)) + M.length:Nat):Int) + (A1.length:Int))=((P.length + B1.length + 1 + (A2.length + M.length + A1.length):Nat):Int):=by rw [C8] <;> omega
   have w2:A9 ((P.length:Int) + (A1.length:Int))=((P.length + B1.length:Nat):Int):=by rw [C8] <;> omega
   have w3:A9 ((A1.length:Int) + 1)=((A1.length + 1:Nat):Int):=by rw [C8] <;> omega
   have sw:=Ge (d:=d) (A:=P ++ B1) (M:=A2 ++ M ++ A1) (x:=x) (y:=y) (B:=B2 ++ Q) (i:=P.length + B1.length) (j:=P.length + B1.length + 1 + (A2.length + M.length + A1.length)) (by simp) (by simp;omega);simp only [Gg,w1,w2,w3,A7,D4,A4,B5,B8,a2W,a2U,a3G,a2T];rw [e0,sw];have hL:((P ++ B1) ++ x :: ((A2 ++ M ++ A1) ++ y :: (B2 ++ Q))).length=P.length + B1.length + 1 + (A2.length + M.length + A1.length) + 1 + (B2.length + Q.length):=by simp;omega
   rw [hL];refine⟨λ_=>⟨by omega,by omega,by omega,by omega,by omega,by omega,by omega,by omega,⟨A1 ++ [x],A2,B1 ++ [y],B2,by simp,by simp,by simp [h1],by simp⟩,?_⟩,λh=>by omega⟩;omega
theorem VB {P A B Q:List α} {a m b:Int} (ha:a=P.length) (hm:m=((P.length + A.length:Nat):Int)) (hb:b=((P.length + A.length + B.length:Nat):Int)) (hA:0 < A.length) (hB:0 < B.length) (hlen:(P ++ A ++ B ++ Q).length < 4611686018427387904) :
  a1c d cmp (P ++ A ++ B ++ Q) a m b=some (P ++ B ++ A ++ Q):=by
 subst ha hm hb;simp only [a2V] at hlen;unfold a1c Iu;have w1:A9 (((P.length + A.length:Nat):Int) - (P.length:Int))=(A.length:Int):=by rw [C8] <;> omega
 have w2:A9 (((P.length + A.length + B.length:Nat):Int) - ((P.length + A.length:Nat):Int))=(B.length:Int):=by rw [C8] <;> omega
 rw [w1,w2];refine J3.1 (eX (λv=>∃ P' A' B' Q',0 < A'.length/\0 < B'.length/\P'.length + A'.length=P.length + A.length/\P'.length + A'.length + B'.length + Q'.length=P.length + A.length + B.length + Q.length/\P' ++ B' ++ A' ++ Q'=P ++ B ++ A ++ Q/\v=(((P.length + A.length:Nat):Int),(A'.length:Int),(B'.length:Int),P' ++ A' ++ B' ++ Q')) (λv=>(v.2.1 + v.2.2.1).toNat) ?_ ⟨P,A,B,Q,hA,hB,rfl,rfl,rfl,rfl⟩ (by dsimp only;omega));rintro v ⟨P',A',B',Q',hA',hB',hm',hl',hT,rfl⟩;dsimp only;rw [<-hm'];have w3:A9 (((P'.length + A'.length:Nat):Int) - (A'.length:Int))=(P'.length:Int):=by rw [C8] <;> omega
 have w4:A9 ((A'.length:Int) - (B'.length:Int))=(A'.length:Int) - (B'.length:Int):=by rw [C8] <;> omega
 have w5:A9 ((B'.length:Int) - (A'.length:Int))=(B'.length:Int) - (A'.length:Int):=by rw [C8] <;> omega
 have w6:A9 (((P'.length + A'.length:Nat):Int) + (B'.length:Int))=((P'.length + A'.length + B'.length:Nat):Int):=by rw [C8] <;> omega
 have w7:A9 (((P'.length + A'.length + B'.length:Nat):Int) - (A'.length:Int))=((P'.length + B'.length:Nat):Int):=by rw [C8] <;> omega
 simp only [NH,NG,w3,w4,w5,w6,w7,A7,A5,A4,C9,B5,B8,a2W,a2U,Bool.not_eq_eq_eq_not,a3m,a3r];refine⟨λhne=>⟨λhlt=>?_,λhlt=>?_⟩,λhe=>?_⟩
 ·
  obtain⟨A1,A2,rfl,hA1⟩:=Aq (l:=A') (i:=B'.length) (by omega);have hsw:=Gj (d:=d) (cmp:=cmp) (P:=P') (A:=A1) (M:=A2) (B:=B') (Q:=Q') (a:=(P'.length:Int)) (b:=((P'.length + (A1 ++ A2).length:Nat):Int)) (n:=(B'.length:Int)) hA1 rfl (by simp;omega) (by omega) (by simp only [a2V] at hl' ⊢;omega);rw [<-a3c P' A1 A2] at *
  rw [hsw,A4];simp only [a2V] at hlt hm' hl' ⊢;refine⟨⟨P' ++ B',A2,A1,Q',by omega,by omega,by simp only [a2V];omega,by simp only [a2V];omega,?_,?_⟩,by omega⟩
  ·rw [<-hT];simp
  ·simp;omega
 ·obtain⟨B1,B2,rfl,hB1⟩:=Aq (l:=B') (i:=B'.length - A'.length) (by omega);simp only [a2V] at hB1 hlt hne hm' hl' ⊢;have hsw:=Gj (d:=d) (cmp:=cmp) (P:=P') (A:=A') (M:=B1) (B:=B2) (Q:=Q') (a:=(P'.length:Int)) (b:=((P'.length + (B1.length + B2.length):Nat):Int)) (n:=(A'.length:Int)) (by omega) rfl (by omega) rfl (by simp only [a2V];omega);rw [<-a3c (P' ++ A') B1 B2,hsw,A4];refine⟨⟨P',B2,B1,A' ++ Q',by omega,by omega,by omega,by simp only [a2V];omega,?_,?_⟩,by omega⟩
  ·rw [<-hT];simp
  ·simp;omega
 ·have hsw:=Gj (d:=d) (cmp:=cmp) (P:=P') (A:=A') (M:=[]) (B:=B') (Q:=Q') (a:=(P'.length:Int)) (b:=((P'.length + A'.length:Nat):Int)) (n:=(A'.length:Int)) (by omega) rfl (by simp) rfl (by simp only [a2V,a3l];omega);simp only [a3b] at hsw;rw [hsw,A4];exact hT
end
end Go.Proofs.YtjbgdpjgfjnkbaaGreatDoor.Am
