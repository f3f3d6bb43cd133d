/- Carrying out a transaction: the program's and the document's are the same. No conditions. -/
import Derived.Test.YtjbgdpjgfjnkbaaGreatDoorQAM
import Derived.Test.YtjbgdpjgfjnkbaaGreatDoorQAR
namespace Go.Proofs.YtjbgdpjgfjnkbaaGreatDoor.Am
open Go
abbrev TR:=A0
theorem jr {l:List o6} {n:List UInt8}:H7 l n < l.length ↔ n ∈ I4 l:=vp
def aS (l:List o6) (x:TR):List o6:=if H7 l x.1 < l.length then IF l ((l.getD (H7 l x.1) B0).1,D7 ((l.getD (H7 l x.1) B0).2.1 + x.2),(l.getD (H7 l x.1) B0).2.2) else IF l (x.1,D7 (0 + x.2),0)
theorem qF {l:List o6} {x:TR} (h:H7 l x.1 < l.length):aS l x=l.set (H7 l x.1) (l[H7 l x.1].1,D7 (l[H7 l x.1].2.1 + x.2),l[H7 l x.1].2.2):=by
 unfold aS;rw [a28 h,E0 h];unfold IF;dsimp only;rw [iW h,a28 h]
theorem sF {l:List o6} {x:TR} (h:¬ H7 l x.1 < l.length):aS l x=l.take (J1 l x.1) ++ (x.1,D7 (0 + x.2),0) :: l.drop (J1 l x.1):=by
 unfold aS;rw [a25 h];unfold IF;dsimp only;rw [a25 h]
theorem Cv {l:List o6} {x:TR} (hs:Srt l):Srt (aS l x):=by
 unfold aS;split <;> exact yK hs
theorem vz (l:List o6) (x:TR):(aS l x).length=if H7 l x.1 < l.length then l.length else l.length + 1:=by
 by_cases h:H7 l x.1 < l.length
 ·rw [qF h,a28 h,a3G]
 ·rw [sF h,a25 h,(oI _ _).length_eq];rfl
theorem El {l:List o6} {i:Nat} (h:i < l.length) {a:o6} (e:a.1=l[i].1):I4 (l.set i a)=I4 l:=by
 unfold I4;rw [a5q,e];have:(l.map λa=>a.1)[i]'(by rw [a3d];exact h)=l[i].1:=a4e ..;rw [<-this,List.set_getElem_self]
theorem kP (l:List o6) (x:TR) (n:List UInt8):n ∈ I4 (aS l x) ↔ n=x.1\/n ∈ I4 l:=by
 by_cases h:H7 l x.1 < l.length
 ·rw [qF h,El (a:=(l[H7 l x.1].1,D7 (l[H7 l x.1].2.1 + x.2),l[H7 l x.1].2.2)) h rfl];constructor
  ·exact .inr
  ·rintro(rfl | h1)
   ·exact jr.1 h
   ·exact h1
 ·rw [sF h,vV (oI _ _)];unfold I4;rw [a3h,a4c]
theorem IY {l:List o6} {x:TR} {a:o6} (h:a ∈ aS l x):a ∈ l\/(a.1=x.1/\okU a.2.1/\((a.2.2=0)\/∃ b ∈ l,b.1=a.1/\a.2.2=b.2.2)):=by
 by_cases hf:H7 l x.1 < l.length
 ·rw [qF hf] at h;rcases a3L h with h | rfl
  ·exact .inl h
  ·exact .inr ⟨iW hf,V9 _,.inr ⟨_,a29 hf,rfl,rfl⟩⟩
 ·rw [sF hf] at h;rcases List.mem_cons.1 ((oI _ _).mem_iff.1 h) with rfl | h
  ·exact .inr ⟨rfl,V9 _,.inl rfl⟩
  ·exact .inl h
theorem We {l:List Int} (h:∀ x ∈ l,okU x) (hl:l.length<=5000000000000):jh l=some (uy l.sum):=by
 have hnn:∀ x ∈ l,0<=x:=λx hx=>(h x hx).1;rw [<-J3];unfold jh mN;refine D8 l (λi (b:Int)=>(b,l,((l.length:Nat):Int),((i:Nat):Int))) (λi b=>b=(l.take i).sum/\okU b) (λi b hi hv=>?_) (λb hv=>?_) (b0:=0) ⟨by simp,by unfold okU;omega⟩ (by omega)
 ·obtain⟨hb,hb1⟩:=hv;have h1:=h l[i] (a29 hi);have h2:=ur hnn (i + 1);have h3:=IC hi;have h4:=h1.1;have h5:=hb1.1;unfold ff;dsimp only;rw [a2S (by omega:(i:Int) < ((l.length:Nat):Int)),E8,a2S (by omega:(0:Int)<=(i:Int)/\(i:Int) < ((l.length:Nat):Int)),C4,a2T,E0 hi,Oa hb1 h1,a2X,D2 (by omega)];unfold uy;by_cases hs:b + l[i] < 18446744073709551616
  ·rw [a28 hs];simp only [a3m,E3,A4,B5];exact⟨_,rfl,by rw [h3,hb],by unfold okU;omega⟩
  ·rw [a25 hs];simp only [a3r,E8,A4,B8];rw [a25 (by omega)]
 ·obtain⟨hb,hb1⟩:=hv;rw [a3i] at hb;unfold ff;dsimp only;rw [a2Y (by omega),E3,A4,B8];unfold uy;rw [a28 (by rw [<-hb];exact hb1.2),hb]
def bY (t:C5):Int × Bool:=uy (t.2.2.2.1 + (t.2.2.2.2.2.map λx=>x.2).sum)
theorem Uk {t:C5} (h:TxS t):∀ x ∈ t.2.2.2.1 :: (t.2.2.2.2.2.map λx=>x.2),okU x:=λx hx=>by
 rcases List.mem_cons.1 hx with rfl | hx
 ·exact h.2.2.2.1
 ·obtain⟨y,hy,rfl⟩:=List.mem_map.1 hx;exact(h.2.2.2.2.2.2 y hy).2
theorem Em {t:C5} (h:TxS t):mQ t=some (bY t):=by
 have hl:=h.2.2.2.2.2.1;have hc:=Uk h;obtain⟨t0,t1,t2,t3,t4,l⟩:=t;dsimp only at hl hc ⊢;rw [<-J3];unfold mQ qO;dsimp only;refine D8 l (λi (b:List Int)=>(l,((l.length:Nat):Int),((i:Nat):Int),b)) (λi b=>b=t3 :: (l.take i).map λx=>x.2) (λi b hi hv=>?_) (λb hv=>?_) (b0:=[t3]) rfl (by omega)
 ·have hbl:b.length=i + 1:=by rw [hv];simp only [a27,a3d,a26];omega
  unfold lk;dsimp only;rw [a2S (by omega:(i:Int) < ((l.length:Nat):Int)),E8,a2S (by omega:(0:Int)<=(i:Int)/\(i:Int) < ((l.length:Nat):Int)),C4,a2S (by rw [hbl];exact⟨by unfold LIM;omega,by unfold LEN;omega⟩),C4,a2T,E0 hi,A4,B5,D2 (by omega)];exact⟨_,rfl,by rw [I2 hi,a3g,hv];rfl⟩
 ·rw [a3i] at hv;unfold lk nX;dsimp only;rw [a2Y (by omega),E3,hv,Cg hc (by simp only [a27,a3d];omega),a2X,a3s,A4,B8,a35];rfl
theorem IZ {t:C5} (h:TxS t):cT t=some (bY t):=by
 have hl:=h.2.2.2.2.2.1;have hc:=Uk h;obtain⟨t0,t1,t2,t3,t4,l⟩:=t;dsimp only at hl hc ⊢;rw [<-J3];unfold cT lf;dsimp only;refine D8 l (λi (b:List Int)=>(l,((l.length:Nat):Int),((i:Nat):Int),b)) (λi b=>b=t3 :: (l.take i).map λx=>x.2) (λi b hi hv=>?_) (λb hv=>?_) (b0:=[t3]) rfl (by omega)
 ·have hbl:b.length=i + 1:=by rw [hv];simp only [a27,a3d,a26];omega
  unfold dt;dsimp only;rw [a2S (by omega:(i:Int) < ((l.length:Nat):Int)),E8,a2S (by omega:(0:Int)<=(i:Int)/\(i:Int) < ((l.length:Nat):Int)),C4,a2S (by rw [hbl];exact⟨by unfold LIM;omega,by unfold LEN;omega⟩),C4,a2T,E0 hi,A4,B5,D2 (by omega)];exact⟨_,rfl,by rw [I2 hi,a3g,hv];rfl⟩
 ·rw [a3i] at hv;unfold dt io;dsimp only;rw [a2Y (by omega),E3,hv,We hc (by simp only [a27,a3d];omega),a2X,a3s,A4,B8,a35];rfl
def iI (l:List o6) (n:List UInt8) (sum:Int):List o6:=IF l ((Ls l n).1.1,D7 ((Ls l n).1.2.1 - sum),D7 ((Ls l n).1.2.2 + 1))
def vA (g:o8) (t:C5) (sum:Int):o8:=(t.2.2.2.2.2.foldl aS (iI g.1 t.1 sum),D7 (g.2 + t.2.2.2.1))
theorem mD {l:List o6} {n:List UInt8} {sum:Int} (h:H7 l n < l.length):iI l n sum=l.set (H7 l n) (l[H7 l n].1,D7 (l[H7 l n].2.1 - sum),D7 (l[H7 l n].2.2 + 1)):=by
 unfold iI Ls;rw [a28 h,E0 h];unfold IF;dsimp only;rw [iW h,a28 h]
theorem yP {l:List TR} {i:Nat} (h:i < l.length) (a:List o6):(l.take (i + 1)).foldl aS a=aS ((l.take i).foldl aS a) l[i]:=by
 rw [I2 h,a40];rfl
theorem Cw (l:List TR) (a:List o6):(l.foldl aS a).length<=a.length + l.length:=by
 induction l generalizing a with
 | nil=>simp
 | cons x l ih=>
  have h1:=ih (aS a x);have h2:=vz a x;rw [a4b,a27];split at h2 <;> omega
theorem Ja {l:List TR} {a:List o6} (h:Srt a):Srt (l.foldl aS a):=by
 induction l generalizing a with
 | nil=>exact h
 | cons x l ih=>exact ih (Cv h)
theorem Jb {g:o8} {t:C5} {sum:Int} (hl:g.1.length<=4000000000000) (ht:t.2.2.2.2.2.length<=2000):cU g t sum=some (vA g t sum):=by
 have hp:(iI g.1 t.1 sum).length<=g.1.length + 1:=by unfold iI;rw [VM];split <;> omega
 rw [<-J3];unfold cU;rw [Of (by omega),a2X,Cj (by omega),a2X];show Ok (gr t.2.2.2.2.2 (((List.length t.2.2.2.2.2):Nat):Int) 0 g t ([],(0:Int)) (iI g.1 t.1 sum)) _;unfold gr;refine D8 t.2.2.2.2.2 (λi (b:List o6)=>(t.2.2.2.2.2,((t.2.2.2.2.2.length:Nat):Int),((i:Nat):Int),g,t,([],(0:Int)),b)) (λi b=>b=(t.2.2.2.2.2.take i).foldl aS (iI g.1 t.1 sum)) (λi b hi hv=>?_) (λb hv=>?_) (b0:=iI g.1 t.1 sum) rfl (by omega)
 ·have hb:b.length<=g.1.length + 1 + 2000:=by
   have h1:=Cw (t.2.2.2.2.2.take i) (iI g.1 t.1 sum);rw [<-hv,a26] at h1;omega
  have hnext:aS b t.2.2.2.2.2[i]=(t.2.2.2.2.2.take (i + 1)).foldl aS (iI g.1 t.1 sum):=by rw [yP hi,hv]
  unfold du;dsimp only;rw [a2S (by omega:(i:Int) < ((t.2.2.2.2.2.length:Nat):Int)),E8,a2S (by omega:(0:Int)<=(i:Int)/\(i:Int) < ((t.2.2.2.2.2.length:Nat):Int)),C4,a2T,E0 hi,xl (by omega),a2X];by_cases hf:H7 b t.2.2.2.2.2[i].1 < b.length
  ·rw [a28 hf,a2S (by omega),E8,a2S (by omega:(0:Int)<=((H7 b t.2.2.2.2.2[i].1:Nat):Int)/\((H7 b t.2.2.2.2.2[i].1:Nat):Int) < ((b.length:Nat):Int)),C4,a2T,a2S hf,C4];unfold Z8;rw [Cj (by omega),a2X,A4,B5,D2 (by omega)];refine⟨_,rfl,?_⟩;rw [<-hnext];unfold aS;rw [a28 hf]
  ·rw [a25 hf,a2Y (by omega),E3];unfold Z8;rw [Cj (by omega),a2X,A4,B5,D2 (by omega)];refine⟨_,rfl,?_⟩;rw [<-hnext];unfold aS;rw [a25 hf]
 ·rw [a3i] at hv;unfold du ip;dsimp only;rw [a2Y (by omega),E3,a3s,A4,B8,hv];rfl
theorem sG {g:o8} {n:List UInt8} (hs:Srt g.1) (hl:g.1.length<=4398046511000):gz g n=some (((J1 g.1 n:Nat):Int),decide (H7 g.1 n < g.1.length)):=by
 unfold gz;rw [Gw hs hl];rfl
theorem OL {α:Type} (l:List α) (i:Nat) (a b:α):(l.set i a).set i b=l.set i b:=List.set_set ..
theorem KR {g:o8} {t:C5} (hs:Srt g.1) (hl:g.1.length<=1000000) (ht:TxS t) (hf:H7 g.1 t.1 < g.1.length):nN g.1 g.2 t=some (vA g t (bY t).1):=by
 have htl:=ht.2.2.2.2.2.1;have hp:=vU hs hf;rw [<-J3];unfold nN;rw [Em ht,Option.bind_some,sG (g:=(g.1,g.2)) hs (by dsimp only;omega),Option.bind_some];dsimp only;rw [hp];have hb1:(0:Int)<=((H7 g.1 t.1:Nat):Int)/\((H7 g.1 t.1:Nat):Int) < ((g.1.length:Nat):Int):=by omega
 simp only [a2T,a3G];rw [a2S hb1,C4,a2S hf,C4,C4,C4,C4,C4,C4,C4];have hgd:∀ a:o6,(g.1.set (H7 g.1 t.1) a).getD (H7 g.1 t.1) B0=a:=λa=>by
  rw [E0 (by rw [a3G];exact hf),List.getElem_set_self]
 rw [hgd,OL,E0 hf];rw [show g.1.set (H7 g.1 t.1) (g.1[H7 g.1 t.1].1,D7 (g.1[H7 g.1 t.1].2.1 - (bY t).1),D7 (g.1[H7 g.1 t.1].2.2 + 1))=iI g.1 t.1 (bY t).1 from(mD hf).symm];have hps:Srt (iI g.1 t.1 (bY t).1):=yK hs;have hpl:(iI g.1 t.1 (bY t).1).length=g.1.length:=by rw [mD hf,a3G]
 unfold pz;refine D8 t.2.2.2.2.2 (λi (b:List o6)=>(t.2.2.2.2.2,((t.2.2.2.2.2.length:Nat):Int),((i:Nat):Int),g.2,t,(0:Int),b)) (λi b=>b=(t.2.2.2.2.2.take i).foldl aS (iI g.1 t.1 (bY t).1)) (λi b hi hv=>?_) (λb hv=>?_) (b0:=iI g.1 t.1 (bY t).1) rfl (by omega)
 ·have hb:b.length<=g.1.length + 2000:=by
   have h1:=Cw (t.2.2.2.2.2.take i) (iI g.1 t.1 (bY t).1);rw [<-hv,a26] at h1;omega
  have hbs:Srt b:=by rw [hv];exact Ja hps
  have hnext:aS b t.2.2.2.2.2[i]=(t.2.2.2.2.2.take (i + 1)).foldl aS (iI g.1 t.1 (bY t).1):=by rw [yP hi,hv]
  unfold kf;dsimp only;rw [decide_eq_true (by omega:(i:Int) < ((t.2.2.2.2.2.length:Nat):Int)),E8,decide_eq_true (by omega:(0:Int)<=(i:Int)/\(i:Int) < ((t.2.2.2.2.2.length:Nat):Int)),C4,Int.toNat_natCast,E0 hi,sG (g:=(b,g.2)) hbs (by dsimp only;omega),Option.bind_some];dsimp only;rw [<-hnext];generalize t.2.2.2.2.2[i]=x;by_cases hx:H7 b x.1 < b.length
  ·have hxp:=vU hbs hx;rw [a2S hx,a3m,E3,hxp];unfold gW;rw [a2S (by omega:(0:Int)<=((H7 b x.1:Nat):Int)/\((H7 b x.1:Nat):Int) < ((b.length:Nat):Int)),C4,a2T,a2S hx,C4,C4,C4,E0 hx,A4,B5,D2 (by omega)];exact⟨_,rfl,(qF hx).symm⟩
  ·have hple:J1 b x.1<=b.length:=Oe _ _;have hins:Q7 b ((J1 b x.1:Nat):Int) [(x.1,(0:Int),(0:Int))]=some (b.take (J1 b x.1) ++ (x.1,(0:Int),(0:Int)) :: b.drop (J1 b x.1)):=by
    unfold Q7 YS;dsimp only;rw [a2S (by omega),C4,a2T]
   have htk:(b.take (J1 b x.1)).length=J1 b x.1:=by rw [a26];omega
   have hil:(b.take (J1 b x.1) ++ (x.1,(0:Int),(0:Int)) :: b.drop (J1 b x.1)).length=b.length + 1:=by rw [(oI _ _).length_eq];rfl
   have hget:(b.take (J1 b x.1) ++ (x.1,(0:Int),(0:Int)) :: b.drop (J1 b x.1)).getD (J1 b x.1) B0=(x.1,(0:Int),(0:Int)):=by
    rw [List.getD_eq_getElem?_getD,List.getElem?_append_right (by omega),htk,a47];rfl
   have hset:(b.take (J1 b x.1) ++ (x.1,(0:Int),(0:Int)) :: b.drop (J1 b x.1)).set (J1 b x.1) (x.1,D7 (0 + x.2),(0:Int))=aS b x:=by
    rw [sF hx,a44 _ _ (by omega),htk,a47];rfl
   rw [a2Y hx,a3r,E8,hins,a2X];unfold gW;rw [hil,a2S (by omega:(0:Int)<=((J1 b x.1:Nat):Int)/\((J1 b x.1:Nat):Int) < ((b.length + 1:Nat):Int)),C4,a2T,a2S (by omega:J1 b x.1 < b.length + 1),C4,C4,C4,hget,A4,B5,D2 (by omega)];exact⟨_,rfl,hset⟩
 ·rw [a3i] at hv;unfold kf np;dsimp only;rw [a2Y (by omega),E3,a3s,A4,B8,hv];rfl
end Go.Proofs.YtjbgdpjgfjnkbaaGreatDoor.Am
