/- Carrying out a transaction: the program's and the document's are the same. No conditions. -/
import Derived.Test.YtbipjlehhlkghaaDoorQAH
import Derived.Test.YtbipjlehhlkghaaDoorQAE
import Derived.Test.YtbipjlehhlkghaaDoorQAI
import Derived.Test.YtbipjlehhlkghaaDoorQAN
namespace Go.Proofs.YtbipjlehhlkghaaDoor.Am
open Go
abbrev TR:=o4
theorem a2v {l:List o3} {n:List UInt8}:D3 l n < l.length ↔ n ∈ S1 l:=b50
def Z8 (l:List o3) (x:TR):List o3:=if D3 l x.1 < l.length then b7w l ((l.getD (D3 l x.1) o5).1,A7 ((l.getD (D3 l x.1) o5).2.1 + x.2),(l.getD (D3 l x.1) o5).2.2) else b7w l (x.1,A7 (0 + x.2),0)
theorem b11 {l:List o3} {x:TR} (h:D3 l x.1 < l.length):Z8 l x=l.set (D3 l x.1) (l[D3 l x.1].1,A7 (l[D3 l x.1].2.1 + x.2),l[D3 l x.1].2.2):=by
 unfold Z8
 rw [if_pos h,E6 h]
 unfold b7w
 dsimp only
 rw [a4T h,if_pos h]
theorem b12 {l:List o3} {x:TR} (h:¬ D3 l x.1 < l.length):Z8 l x=l.take (C9 l x.1) ++ (x.1,A7 (0 + x.2),0) :: l.drop (C9 l x.1):=by
 unfold Z8
 rw [if_neg h]
 unfold b7w
 dsimp only
 rw [if_neg h]
theorem c1I {l:List o3} {x:TR} (hs:Srt l):Srt (Z8 l x):=by
 unfold Z8
 split <;> exact b9w hs
theorem a68 (l:List o3) (x:TR):(Z8 l x).length=if D3 l x.1 < l.length then l.length else l.length + 1:=by
 by_cases h:D3 l x.1 < l.length
 ·rw [b11 h,if_pos h,List.length_set]
 ·rw [b12 h,if_neg h,(a8E _ _).length_eq];rfl
theorem b3n {l:List o3} {i:Nat} (h:i < l.length) {a:o3} (e:a.1=l[i].1):S1 (l.set i a)=S1 l:=by
 unfold S1
 rw [List.map_set,e]
 have:(l.map fun a=>a.1)[i]'(by rw [List.length_map];exact h)=l[i].1:=List.getElem_map ..
 rw [<-this,List.set_getElem_self]
theorem a5i (l:List o3) (x:TR) (n:List UInt8):n ∈ S1 (Z8 l x) ↔ n=x.1\/n ∈ S1 l:=by
 by_cases h:D3 l x.1 < l.length
 ·rw [b11 h,b3n (a:=(l[D3 l x.1].1,A7 (l[D3 l x.1].2.1 + x.2),l[D3 l x.1].2.2)) h rfl]
  constructor
  ·exact .inr
  ·rintro(rfl | h1)
   ·exact a2v.1 h
   ·exact h1
 ·rw [b12 h,b66 (a8E _ _)]
  unfold S1
  rw [List.map_cons,List.mem_cons]
theorem c3L {l:List Int} (h:∀ x ∈ l,okU x) (hl:l.length<=5000000000000):Z6 l=some (a9M l.sum):=by
 have hnn:∀ x ∈ l,0<=x:=fun x hx=>(h x hx).1
 rw [<-M9]
 unfold Z6 a1y
 refine I8 l (fun i (b:Int)=>(b,l,((l.length:Nat):Int),((i:Nat):Int))) (fun i b=>b=(l.take i).sum/\okU b) (fun i b hi hv=>?_) (fun b hv=>?_) (b0:=0) ⟨by simp,by unfold okU;omega⟩ (by omega)
 ·obtain⟨hb,hb1⟩:=hv
  have h1:=h l[i] (List.getElem_mem hi)
  have h2:=a6e hnn (i + 1)
  have h3:=b5S hi
  have h4:=h1.1
  have h5:=hb1.1
  unfold S7
  dsimp only
  rw [decide_eq_true (by omega:(i:Int) < ((l.length:Nat):Int)),D6,decide_eq_true (by omega:(0:Int)<=(i:Int)/\(i:Int) < ((l.length:Nat):Int)),E5,Int.toNat_natCast,E6 hi,b9n hb1 h1,Option.bind_some,H0 (by omega)]
  unfold a9M
  by_cases hs:b + l[i] < 18446744073709551616
  ·rw [if_pos hs]
   simp only [Bool.not_true,C8,A0,A8]
   exact⟨_,rfl,by rw [h3,hb],by unfold okU;omega⟩
  ·rw [if_neg hs]
   simp only [Bool.not_false,D6,A0,A6]
   rw [if_neg (by omega)]
 ·obtain⟨hb,hb1⟩:=hv
  rw [List.take_length] at hb
  unfold S7
  dsimp only
  rw [decide_eq_false (by omega),C8,A0,A6]
  unfold a9M
  rw [if_pos (by rw [<-hb];exact hb1.2),hb]
def a03 (t:o8):Int × Bool:=a9M (t.2.2.2.1 + (t.2.2.2.2.2.map fun x=>x.2).sum)
theorem c2v {t:o8} (h:TxS t):∀ x ∈ t.2.2.2.1 :: (t.2.2.2.2.2.map fun x=>x.2),okU x:=fun x hx=>by
 rcases List.mem_cons.1 hx with rfl | hx
 ·exact h.2.2.2.1
 ·obtain⟨y,hy,rfl⟩:=List.mem_map.1 hx
  exact(h.2.2.2.2.2.2 y hy).2
theorem b3o {t:o8} (h:TxS t):a1x t=some (a03 t):=by
 have hl:=h.2.2.2.2.2.1
 have hc:=c2v h
 obtain⟨t0,t1,t2,t3,t4,l⟩:=t
 dsimp only at hl hc ⊢
 rw [<-M9]
 unfold a1x a4i
 dsimp only
 refine I8 l (fun i (b:List Int)=>(l,((l.length:Nat):Int),((i:Nat):Int),b)) (fun i b=>b=t3 :: (l.take i).map fun x=>x.2) (fun i b hi hv=>?_) (fun b hv=>?_) (b0:=[t3]) rfl (by omega)
 ·have hbl:b.length=i + 1:=by rw [hv];simp only [List.length_cons,List.length_map,List.length_take];omega
  unfold a0R
  dsimp only
  rw [decide_eq_true (by omega:(i:Int) < ((l.length:Nat):Int)),D6,decide_eq_true (by omega:(0:Int)<=(i:Int)/\(i:Int) < ((l.length:Nat):Int)),E5,decide_eq_true (by rw [hbl];exact⟨by unfold LIM;omega,by unfold LEN;omega⟩),E5,Int.toNat_natCast,E6 hi,A0,A8,H0 (by omega)]
  exact⟨_,rfl,by rw [W6 hi,List.map_append,hv];rfl⟩
 ·rw [List.take_length] at hv
  unfold a0R a2B
  dsimp only
  rw [decide_eq_false (by omega),C8,hv,b5T hc (by simp only [List.length_cons,List.length_map];omega),Option.bind_some,Option.map_some,A0,A6,List.sum_cons]
  rfl
theorem b6e {t:o8} (h:TxS t):P0 t=some (a03 t):=by
 have hl:=h.2.2.2.2.2.1
 have hc:=c2v h
 obtain⟨t0,t1,t2,t3,t4,l⟩:=t
 dsimp only at hl hc ⊢
 rw [<-M9]
 unfold P0 a0U
 dsimp only
 refine I8 l (fun i (b:List Int)=>(l,((l.length:Nat):Int),((i:Nat):Int),b)) (fun i b=>b=t3 :: (l.take i).map fun x=>x.2) (fun i b hi hv=>?_) (fun b hv=>?_) (b0:=[t3]) rfl (by omega)
 ·have hbl:b.length=i + 1:=by rw [hv];simp only [List.length_cons,List.length_map,List.length_take];omega
  unfold P4
  dsimp only
  rw [decide_eq_true (by omega:(i:Int) < ((l.length:Nat):Int)),D6,decide_eq_true (by omega:(0:Int)<=(i:Int)/\(i:Int) < ((l.length:Nat):Int)),E5,decide_eq_true (by rw [hbl];exact⟨by unfold LIM;omega,by unfold LEN;omega⟩),E5,Int.toNat_natCast,E6 hi,A0,A8,H0 (by omega)]
  exact⟨_,rfl,by rw [W6 hi,List.map_append,hv];rfl⟩
 ·rw [List.take_length] at hv
  unfold P4 W9
  dsimp only
  rw [decide_eq_false (by omega),C8,hv,c3L hc (by simp only [List.length_cons,List.length_map];omega),Option.bind_some,Option.map_some,A0,A6,List.sum_cons]
  rfl
def a2n (l:List o3) (n:List UInt8) (sum:Int):List o3:=b7w l ((c3p l n).1.1,A7 ((c3p l n).1.2.1 - sum),A7 ((c3p l n).1.2.2 + 1))
def a95 (g:o7) (t:o8) (sum:Int):o7:=(t.2.2.2.2.2.foldl Z8 (a2n g.1 t.1 sum),A7 (g.2 + t.2.2.2.1))
theorem a8H {l:List o3} {n:List UInt8} {sum:Int} (h:D3 l n < l.length):a2n l n sum=l.set (D3 l n) (l[D3 l n].1,A7 (l[D3 l n].2.1 - sum),A7 (l[D3 l n].2.2 + 1)):=by
 unfold a2n c3p
 rw [if_pos h,E6 h]
 unfold b7w
 dsimp only
 rw [a4T h,if_pos h]
theorem a9C {l:List TR} {i:Nat} (h:i < l.length) (a:List o3):(l.take (i + 1)).foldl Z8 a=Z8 ((l.take i).foldl Z8 a) l[i]:=by
 rw [W6 h,List.foldl_append];rfl
theorem b13 (l:List TR) (a:List o3):(l.foldl Z8 a).length<=a.length + l.length:=by
 induction l generalizing a with
 | nil=>simp
 | cons x l ih=>
  have h1:=ih (Z8 a x)
  have h2:=a68 a x
  rw [List.foldl_cons,List.length_cons]
  split at h2 <;> omega
theorem c1J {l:List TR} {a:List o3} (h:Srt a):Srt (l.foldl Z8 a):=by
 induction l generalizing a with
 | nil=>exact h
 | cons x l ih=>exact ih (c1I h)
theorem b6f {g:o7} {t:o8} {sum:Int} (hl:g.1.length<=4000000000000) (ht:t.2.2.2.2.2.length<=2000):P1 g t sum=some (a95 g t sum):=by
 have hp:(a2n g.1 t.1 sum).length<=g.1.length + 1:=by unfold a2n;rw [c3s];split <;> omega
 rw [<-M9]
 unfold P1
 rw [b9t (by omega),Option.bind_some,b4C (by omega),Option.bind_some]
 show Ok (V3 t.2.2.2.2.2 (((List.length t.2.2.2.2.2):Nat):Int) 0 g t ([],(0:Int)) (a2n g.1 t.1 sum)) _
 unfold V3
 refine I8 t.2.2.2.2.2 (fun i (b:List o3)=>(t.2.2.2.2.2,((t.2.2.2.2.2.length:Nat):Int),((i:Nat):Int),g,t,([],(0:Int)),b)) (fun i b=>b=(t.2.2.2.2.2.take i).foldl Z8 (a2n g.1 t.1 sum)) (fun i b hi hv=>?_) (fun b hv=>?_) (b0:=a2n g.1 t.1 sum) rfl (by omega)
 ·have hb:b.length<=g.1.length + 1 + 2000:=by
   have h1:=b13 (t.2.2.2.2.2.take i) (a2n g.1 t.1 sum)
   rw [<-hv,List.length_take] at h1
   omega
  have hnext:Z8 b t.2.2.2.2.2[i]=(t.2.2.2.2.2.take (i + 1)).foldl Z8 (a2n g.1 t.1 sum):=by rw [a9C hi,hv]
  unfold P5
  dsimp only
  rw [decide_eq_true (by omega:(i:Int) < ((t.2.2.2.2.2.length:Nat):Int)),D6,decide_eq_true (by omega:(0:Int)<=(i:Int)/\(i:Int) < ((t.2.2.2.2.2.length:Nat):Int)),E5,Int.toNat_natCast,E6 hi,b1P (by omega),Option.bind_some]
  by_cases hf:D3 b t.2.2.2.2.2[i].1 < b.length
  ·rw [if_pos hf,decide_eq_true (by omega),D6,decide_eq_true (by omega:(0:Int)<=((D3 b t.2.2.2.2.2[i].1:Nat):Int)/\((D3 b t.2.2.2.2.2[i].1:Nat):Int) < ((b.length:Nat):Int)),E5,Int.toNat_natCast,decide_eq_true hf,E5]
   unfold L2
   rw [b4C (by omega),Option.bind_some,A0,A8,H0 (by omega)]
   refine⟨_,rfl,?_⟩
   rw [<-hnext]
   unfold Z8
   rw [if_pos hf]
  ·rw [if_neg hf,decide_eq_false (by omega),C8]
   unfold L2
   rw [b4C (by omega),Option.bind_some,A0,A8,H0 (by omega)]
   refine⟨_,rfl,?_⟩
   rw [<-hnext]
   unfold Z8
   rw [if_neg hf]
 ·rw [List.take_length] at hv
  unfold P5 X0
  dsimp only
  rw [decide_eq_false (by omega),C8,Option.map_some,A0,A6,hv]
  rfl
theorem a5j {g:o7} {n:List UInt8} (hs:Srt g.1) (hl:g.1.length<=4398046511000):U9 g n=some (((C9 g.1 n:Nat):Int),decide (D3 g.1 n < g.1.length)):=by
 unfold U9
 rw [b4E hs hl];rfl
theorem b9S {α:Type} (l:List α) (i:Nat) (a b:α):(l.set i a).set i b=l.set i b:=List.set_set ..
theorem b7h {g:o7} {t:o8} (hs:Srt g.1) (hl:g.1.length<=1000000) (ht:TxS t) (hf:D3 g.1 t.1 < g.1.length):a2j g.1 g.2 t=some (a95 g t (a03 t).1):=by
 have htl:=ht.2.2.2.2.2.1
 have hp:=a7t hs hf
 rw [<-M9]
 unfold a2j
 rw [b3o ht,Option.bind_some,a5j (g:=(g.1,g.2)) hs (by dsimp only;omega),Option.bind_some]
 dsimp only
 rw [hp]
 have hb1:(0:Int)<=((D3 g.1 t.1:Nat):Int)/\((D3 g.1 t.1:Nat):Int) < ((g.1.length:Nat):Int):=by omega
 simp only [Int.toNat_natCast,List.length_set]
 rw [decide_eq_true hb1,E5,decide_eq_true hf,E5,E5,E5,E5,E5,E5,E5]
 have hgd:∀ a:o3,(g.1.set (D3 g.1 t.1) a).getD (D3 g.1 t.1) o5=a:=fun a=>by
  rw [E6 (by rw [List.length_set];exact hf),List.getElem_set_self]
 rw [hgd,b9S,E6 hf]
 rw [show g.1.set (D3 g.1 t.1) (g.1[D3 g.1 t.1].1,A7 (g.1[D3 g.1 t.1].2.1 - (a03 t).1),A7 (g.1[D3 g.1 t.1].2.2 + 1))=a2n g.1 t.1 (a03 t).1 from(a8H hf).symm]
 have hps:Srt (a2n g.1 t.1 (a03 t).1):=b9w hs
 have hpl:(a2n g.1 t.1 (a03 t).1).length=g.1.length:=by rw [a8H hf,List.length_set]
 unfold a3u
 refine I8 t.2.2.2.2.2 (fun i (b:List o3)=>(t.2.2.2.2.2,((t.2.2.2.2.2.length:Nat):Int),((i:Nat):Int),g.2,t,(0:Int),b)) (fun i b=>b=(t.2.2.2.2.2.take i).foldl Z8 (a2n g.1 t.1 (a03 t).1)) (fun i b hi hv=>?_) (fun b hv=>?_) (b0:=a2n g.1 t.1 (a03 t).1) rfl (by omega)
 ·have hb:b.length<=g.1.length + 2000:=by
   have h1:=b13 (t.2.2.2.2.2.take i) (a2n g.1 t.1 (a03 t).1)
   rw [<-hv,List.length_take] at h1
   omega
  have hbs:Srt b:=by rw [hv];exact c1J hps
  have hnext:Z8 b t.2.2.2.2.2[i]=(t.2.2.2.2.2.take (i + 1)).foldl Z8 (a2n g.1 t.1 (a03 t).1):=by rw [a9C hi,hv]
  unfold a0t
  dsimp only
  rw [decide_eq_true (by omega:(i:Int) < ((t.2.2.2.2.2.length:Nat):Int)),D6,decide_eq_true (by omega:(0:Int)<=(i:Int)/\(i:Int) < ((t.2.2.2.2.2.length:Nat):Int)),E5,Int.toNat_natCast,E6 hi,a5j (g:=(b,g.2)) hbs (by dsimp only;omega),Option.bind_some]
  dsimp only
  rw [<-hnext]
  generalize t.2.2.2.2.2[i]=x
  by_cases hx:D3 b x.1 < b.length
  ·have hxp:=a7t hbs hx
   rw [decide_eq_true hx,Bool.not_true,C8,hxp]
   unfold W2
   rw [decide_eq_true (by omega:(0:Int)<=((D3 b x.1:Nat):Int)/\((D3 b x.1:Nat):Int) < ((b.length:Nat):Int)),E5,Int.toNat_natCast,decide_eq_true hx,E5,E5,E5,E6 hx,A0,A8,H0 (by omega)]
   exact⟨_,rfl,(b11 hx).symm⟩
  ·have hple:C9 b x.1<=b.length:=b9s _ _
   have hins:F7 b ((C9 b x.1:Nat):Int) [(x.1,(0:Int),(0:Int))]=some (b.take (C9 b x.1) ++ (x.1,(0:Int),(0:Int)) :: b.drop (C9 b x.1)):=by
    unfold F7 c35
    dsimp only
    rw [decide_eq_true (by omega),E5,Int.toNat_natCast]
   have htk:(b.take (C9 b x.1)).length=C9 b x.1:=by rw [List.length_take];omega
   have hil:(b.take (C9 b x.1) ++ (x.1,(0:Int),(0:Int)) :: b.drop (C9 b x.1)).length=b.length + 1:=by rw [(a8E _ _).length_eq];rfl
   have hget:(b.take (C9 b x.1) ++ (x.1,(0:Int),(0:Int)) :: b.drop (C9 b x.1)).getD (C9 b x.1) o5=(x.1,(0:Int),(0:Int)):=by
    rw [List.getD_eq_getElem?_getD,List.getElem?_append_right (by omega),htk,Nat.sub_self];rfl
   have hset:(b.take (C9 b x.1) ++ (x.1,(0:Int),(0:Int)) :: b.drop (C9 b x.1)).set (C9 b x.1) (x.1,A7 (0 + x.2),(0:Int))=Z8 b x:=by
    rw [b12 hx,List.set_append_right _ _ (by omega),htk,Nat.sub_self];rfl
   rw [decide_eq_false hx,Bool.not_false,D6,hins,Option.bind_some]
   unfold W2
   rw [hil,decide_eq_true (by omega:(0:Int)<=((C9 b x.1:Nat):Int)/\((C9 b x.1:Nat):Int) < ((b.length + 1:Nat):Int)),E5,Int.toNat_natCast,decide_eq_true (by omega:C9 b x.1 < b.length + 1),E5,E5,E5,hget,A0,A8,H0 (by omega)]
   exact⟨_,rfl,hset⟩
 ·rw [List.take_length] at hv
  unfold a0t a1Q
  dsimp only
  rw [decide_eq_false (by omega),C8,Option.map_some,A0,A6,hv]
  rfl
end Go.Proofs.YtbipjlehhlkghaaDoor.Am
