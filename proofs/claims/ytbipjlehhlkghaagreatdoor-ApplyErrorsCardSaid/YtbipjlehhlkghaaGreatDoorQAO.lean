/- Carrying out a transaction: the program's and the document's are the same. No conditions. -/
import Derived.Test.YtbipjlehhlkghaaGreatDoorQAH
import Derived.Test.YtbipjlehhlkghaaGreatDoorQAE
import Derived.Test.YtbipjlehhlkghaaGreatDoorQAI
import Derived.Test.YtbipjlehhlkghaaGreatDoorQAN
namespace Go.Proofs.YtbipjlehhlkghaaGreatDoor.Am
open Go
abbrev TR:=o8
theorem a2Y {l:List o7} {n:List UInt8}:E9 l n < l.length ↔ n ∈ G9 l:=b4p
def V2 (l:List o7) (x:TR):List o7:=if E9 l x.1 < l.length then c4m l ((l.getD (E9 l x.1) o9).1,B1 ((l.getD (E9 l x.1) o9).2.1 + x.2),(l.getD (E9 l x.1) o9).2.2) else c4m l (x.1,B1 (0 + x.2),0)
theorem b0p {l:List o7} {x:TR} (h:E9 l x.1 < l.length):V2 l x=l.set (E9 l x.1) (l[E9 l x.1].1,B1 (l[E9 l x.1].2.1 + x.2),l[E9 l x.1].2.2):=by
 unfold V2
 rw [if_pos h,D8 h]
 unfold c4m
 dsimp only
 rw [a2S h,if_pos h]
theorem b15 {l:List o7} {x:TR} (h:¬ E9 l x.1 < l.length):V2 l x=l.take (I1 l x.1) ++ (x.1,B1 (0 + x.2),0) :: l.drop (I1 l x.1):=by
 unfold V2
 rw [if_neg h]
 unfold c4m
 dsimp only
 rw [if_neg h]
theorem b9U {l:List o7} {x:TR} (hs:Srt l):Srt (V2 l x):=by
 unfold V2
 split <;> exact b7f hs
theorem b4u (l:List o7) (x:TR):(V2 l x).length=if E9 l x.1 < l.length then l.length else l.length + 1:=by
 by_cases h:E9 l x.1 < l.length
 ·rw [b0p h,if_pos h,List.length_set]
 ·rw [b15 h,if_neg h,(a8W _ _).length_eq];rfl
theorem c1s {l:List o7} {i:Nat} (h:i < l.length) {a:o7} (e:a.1=l[i].1):G9 (l.set i a)=G9 l:=by
 unfold G9
 rw [List.map_set,e]
 have:(l.map fun a=>a.1)[i]'(by rw [List.length_map];exact h)=l[i].1:=List.getElem_map ..
 rw [<-this,List.set_getElem_self]
theorem a5l (l:List o7) (x:TR) (n:List UInt8):n ∈ G9 (V2 l x) ↔ n=x.1\/n ∈ G9 l:=by
 by_cases h:E9 l x.1 < l.length
 ·rw [b0p h,c1s (a:=(l[E9 l x.1].1,B1 (l[E9 l x.1].2.1 + x.2),l[E9 l x.1].2.2)) h rfl]
  constructor
  ·exact .inr
  ·rintro(rfl | h1)
   ·exact a2Y.1 h
   ·exact h1
 ·rw [b15 h,b4X (a8W _ _)]
  unfold G9
  rw [List.map_cons,List.mem_cons]
theorem c4C {l:List o7} {x:TR} {a:o7} (h:a ∈ V2 l x):a ∈ l\/(a.1=x.1/\okU a.2.1/\((a.2.2=0)\/∃ b ∈ l,b.1=a.1/\a.2.2=b.2.2)):=by
 by_cases hf:E9 l x.1 < l.length
 ·rw [b0p hf] at h
  rcases List.mem_or_eq_of_mem_set h with h | rfl
  ·exact .inl h
  ·exact .inr ⟨a2S hf,I7 _,.inr ⟨_,List.getElem_mem hf,rfl,rfl⟩⟩
 ·rw [b15 hf] at h
  rcases List.mem_cons.1 ((a8W _ _).mem_iff.1 h) with rfl | h
  ·exact .inr ⟨rfl,I7 _,.inl rfl⟩
  ·exact .inl h
theorem d3D {l:List Int} (h:∀ x ∈ l,okU x) (hl:l.length<=5000000000000):a3U l=some (b4I l.sum):=by
 have hnn:∀ x ∈ l,0<=x:=fun x hx=>(h x hx).1
 rw [<-L4]
 unfold a3U a6L
 refine E7 l (fun i (b:Int)=>(b,l,((l.length:Nat):Int),((i:Nat):Int))) (fun i b=>b=(l.take i).sum/\okU b) (fun i b hi hv=>?_) (fun b hv=>?_) (b0:=0) ⟨by simp,by unfold okU;omega⟩ (by omega)
 ·obtain⟨hb,hb1⟩:=hv
  have h1:=h l[i] (List.getElem_mem hi)
  have h2:=b3q hnn (i + 1)
  have h3:=c4j hi
  have h4:=h1.1
  have h5:=hb1.1
  unfold a1J
  dsimp only
  rw [decide_eq_true (by omega:(i:Int) < ((l.length:Nat):Int)),E4,decide_eq_true (by omega:(0:Int)<=(i:Int)/\(i:Int) < ((l.length:Nat):Int)),C4,Int.toNat_natCast,D8 hi,c79 hb1 h1,Option.bind_some,E2 (by omega)]
  unfold b4I
  by_cases hs:b + l[i] < 18446744073709551616
  ·rw [if_pos hs]
   simp only [Bool.not_true,C6,A3,B4]
   exact⟨_,rfl,by rw [h3,hb],by unfold okU;omega⟩
  ·rw [if_neg hs]
   simp only [Bool.not_false,E4,A3,B8]
   rw [if_neg (by omega)]
 ·obtain⟨hb,hb1⟩:=hv
  rw [List.take_length] at hb
  unfold a1J
  dsimp only
  rw [decide_eq_false (by omega),C6,A3,B8]
  unfold b4I
  rw [if_pos (by rw [<-hb];exact hb1.2),hb]
def Z0 (t:A7):Int × Bool:=b4I (t.2.2.2.1 + (t.2.2.2.2.2.map fun x=>x.2).sum)
theorem d2b {t:A7} (h:TxS t):∀ x ∈ t.2.2.2.1 :: (t.2.2.2.2.2.map fun x=>x.2),okU x:=fun x hx=>by
 rcases List.mem_cons.1 hx with rfl | hx
 ·exact h.2.2.2.1
 ·obtain⟨y,hy,rfl⟩:=List.mem_map.1 hx
  exact(h.2.2.2.2.2.2 y hy).2
theorem c1t {t:A7} (h:TxS t):a6K t=some (Z0 t):=by
 have hl:=h.2.2.2.2.2.1
 have hc:=d2b h
 obtain⟨t0,t1,t2,t3,t4,l⟩:=t
 dsimp only at hl hc ⊢
 rw [<-L4]
 unfold a6K b0I
 dsimp only
 refine E7 l (fun i (b:List Int)=>(l,((l.length:Nat):Int),((i:Nat):Int),b)) (fun i b=>b=t3 :: (l.take i).map fun x=>x.2) (fun i b hi hv=>?_) (fun b hv=>?_) (b0:=[t3]) rfl (by omega)
 ·have hbl:b.length=i + 1:=by rw [hv];simp only [List.length_cons,List.length_map,List.length_take];omega
  unfold a5u
  dsimp only
  rw [decide_eq_true (by omega:(i:Int) < ((l.length:Nat):Int)),E4,decide_eq_true (by omega:(0:Int)<=(i:Int)/\(i:Int) < ((l.length:Nat):Int)),C4,decide_eq_true (by rw [hbl];exact⟨by unfold LIM;omega,by unfold LEN;omega⟩),C4,Int.toNat_natCast,D8 hi,A3,B4,E2 (by omega)]
  exact⟨_,rfl,by rw [N0 hi,List.map_append,hv];rfl⟩
 ·rw [List.take_length] at hv
  unfold a5u a72
  dsimp only
  rw [decide_eq_false (by omega),C6,hv,c4k hc (by simp only [List.length_cons,List.length_map];omega),Option.bind_some,Option.map_some,A3,B8,List.sum_cons]
  rfl
theorem c4D {t:A7} (h:TxS t):a0v t=some (Z0 t):=by
 have hl:=h.2.2.2.2.2.1
 have hc:=d2b h
 obtain⟨t0,t1,t2,t3,t4,l⟩:=t
 dsimp only at hl hc ⊢
 rw [<-L4]
 unfold a0v a5x
 dsimp only
 refine E7 l (fun i (b:List Int)=>(l,((l.length:Nat):Int),((i:Nat):Int),b)) (fun i b=>b=t3 :: (l.take i).map fun x=>x.2) (fun i b hi hv=>?_) (fun b hv=>?_) (b0:=[t3]) rfl (by omega)
 ·have hbl:b.length=i + 1:=by rw [hv];simp only [List.length_cons,List.length_map,List.length_take];omega
  unfold a0O
  dsimp only
  rw [decide_eq_true (by omega:(i:Int) < ((l.length:Nat):Int)),E4,decide_eq_true (by omega:(0:Int)<=(i:Int)/\(i:Int) < ((l.length:Nat):Int)),C4,decide_eq_true (by rw [hbl];exact⟨by unfold LIM;omega,by unfold LEN;omega⟩),C4,Int.toNat_natCast,D8 hi,A3,B4,E2 (by omega)]
  exact⟨_,rfl,by rw [N0 hi,List.map_append,hv];rfl⟩
 ·rw [List.take_length] at hv
  unfold a0O a22
  dsimp only
  rw [decide_eq_false (by omega),C6,hv,d3D hc (by simp only [List.length_cons,List.length_map];omega),Option.bind_some,Option.map_some,A3,B8,List.sum_cons]
  rfl
def a3m (l:List o7) (n:List UInt8) (sum:Int):List o7:=c4m l ((c06 l n).1.1,B1 ((c06 l n).1.2.1 - sum),B1 ((c06 l n).1.2.2 + 1))
def b4v (g:o6) (t:A7) (sum:Int):o6:=(t.2.2.2.2.2.foldl V2 (a3m g.1 t.1 sum),B1 (g.2 + t.2.2.2.1))
theorem a6F {l:List o7} {n:List UInt8} {sum:Int} (h:E9 l n < l.length):a3m l n sum=l.set (E9 l n) (l[E9 l n].1,B1 (l[E9 l n].2.1 - sum),B1 (l[E9 l n].2.2 + 1)):=by
 unfold a3m c06
 rw [if_pos h,D8 h]
 unfold c4m
 dsimp only
 rw [a2S h,if_pos h]
theorem b7k {l:List TR} {i:Nat} (h:i < l.length) (a:List o7):(l.take (i + 1)).foldl V2 a=V2 ((l.take i).foldl V2 a) l[i]:=by
 rw [N0 h,List.foldl_append];rfl
theorem b9V (l:List TR) (a:List o7):(l.foldl V2 a).length<=a.length + l.length:=by
 induction l generalizing a with
 | nil=>simp
 | cons x l ih=>
  have h1:=ih (V2 a x)
  have h2:=b4u a x
  rw [List.foldl_cons,List.length_cons]
  split at h2 <;> omega
theorem c4E {l:List TR} {a:List o7} (h:Srt a):Srt (l.foldl V2 a):=by
 induction l generalizing a with
 | nil=>exact h
 | cons x l ih=>exact ih (b9U h)
theorem c4F {g:o6} {t:A7} {sum:Int} (hl:g.1.length<=4000000000000) (ht:t.2.2.2.2.2.length<=2000):a0w g t sum=some (b4v g t sum):=by
 have hp:(a3m g.1 t.1 sum).length<=g.1.length + 1:=by unfold a3m;rw [d3i];split <;> omega
 rw [<-L4]
 unfold a0w
 rw [b9F (by omega),Option.bind_some,b9G (by omega),Option.bind_some]
 show Ok (a2t t.2.2.2.2.2 (((List.length t.2.2.2.2.2):Nat):Int) 0 g t ([],(0:Int)) (a3m g.1 t.1 sum)) _
 unfold a2t
 refine E7 t.2.2.2.2.2 (fun i (b:List o7)=>(t.2.2.2.2.2,((t.2.2.2.2.2.length:Nat):Int),((i:Nat):Int),g,t,([],(0:Int)),b)) (fun i b=>b=(t.2.2.2.2.2.take i).foldl V2 (a3m g.1 t.1 sum)) (fun i b hi hv=>?_) (fun b hv=>?_) (b0:=a3m g.1 t.1 sum) rfl (by omega)
 ·have hb:b.length<=g.1.length + 1 + 2000:=by
   have h1:=b9V (t.2.2.2.2.2.take i) (a3m g.1 t.1 sum)
   rw [<-hv,List.length_take] at h1
   omega
  have hnext:V2 b t.2.2.2.2.2[i]=(t.2.2.2.2.2.take (i + 1)).foldl V2 (a3m g.1 t.1 sum):=by rw [b7k hi,hv]
  unfold a0P
  dsimp only
  rw [decide_eq_true (by omega:(i:Int) < ((t.2.2.2.2.2.length:Nat):Int)),E4,decide_eq_true (by omega:(0:Int)<=(i:Int)/\(i:Int) < ((t.2.2.2.2.2.length:Nat):Int)),C4,Int.toNat_natCast,D8 hi,b6b (by omega),Option.bind_some]
  by_cases hf:E9 b t.2.2.2.2.2[i].1 < b.length
  ·rw [if_pos hf,decide_eq_true (by omega),E4,decide_eq_true (by omega:(0:Int)<=((E9 b t.2.2.2.2.2[i].1:Nat):Int)/\((E9 b t.2.2.2.2.2[i].1:Nat):Int) < ((b.length:Nat):Int)),C4,Int.toNat_natCast,decide_eq_true hf,C4]
   unfold S8
   rw [b9G (by omega),Option.bind_some,A3,B4,E2 (by omega)]
   refine⟨_,rfl,?_⟩
   rw [<-hnext]
   unfold V2
   rw [if_pos hf]
  ·rw [if_neg hf,decide_eq_false (by omega),C6]
   unfold S8
   rw [b9G (by omega),Option.bind_some,A3,B4,E2 (by omega)]
   refine⟨_,rfl,?_⟩
   rw [<-hnext]
   unfold V2
   rw [if_neg hf]
 ·rw [List.take_length] at hv
  unfold a0P a23
  dsimp only
  rw [decide_eq_false (by omega),C6,Option.map_some,A3,B8,hv]
  rfl
theorem b16 {g:o6} {n:List UInt8} (hs:Srt g.1) (hl:g.1.length<=4398046511000):a2q g n=some (((I1 g.1 n:Nat):Int),decide (E9 g.1 n < g.1.length)):=by
 unfold a2q
 rw [c2U hs hl];rfl
theorem c8B {α:Type} (l:List α) (i:Nat) (a b:α):(l.set i a).set i b=l.set i b:=List.set_set ..
theorem c5S {g:o6} {t:A7} (hs:Srt g.1) (hl:g.1.length<=1000000) (ht:TxS t) (hf:E9 g.1 t.1 < g.1.length):a7J g.1 g.2 t=some (b4v g t (Z0 t).1):=by
 have htl:=ht.2.2.2.2.2.1
 have hp:=b4W hs hf
 rw [<-L4]
 unfold a7J
 rw [c1t ht,Option.bind_some,b16 (g:=(g.1,g.2)) hs (by dsimp only;omega),Option.bind_some]
 dsimp only
 rw [hp]
 have hb1:(0:Int)<=((E9 g.1 t.1:Nat):Int)/\((E9 g.1 t.1:Nat):Int) < ((g.1.length:Nat):Int):=by omega
 simp only [Int.toNat_natCast,List.length_set]
 rw [decide_eq_true hb1,C4,decide_eq_true hf,C4,C4,C4,C4,C4,C4,C4]
 have hgd:∀ a:o7,(g.1.set (E9 g.1 t.1) a).getD (E9 g.1 t.1) o9=a:=fun a=>by
  rw [D8 (by rw [List.length_set];exact hf),List.getElem_set_self]
 rw [hgd,c8B,D8 hf]
 rw [show g.1.set (E9 g.1 t.1) (g.1[E9 g.1 t.1].1,B1 (g.1[E9 g.1 t.1].2.1 - (Z0 t).1),B1 (g.1[E9 g.1 t.1].2.2 + 1))=a3m g.1 t.1 (Z0 t).1 from(a6F hf).symm]
 have hps:Srt (a3m g.1 t.1 (Z0 t).1):=b7f hs
 have hpl:(a3m g.1 t.1 (Z0 t).1).length=g.1.length:=by rw [a6F hf,List.length_set]
 unfold a9y
 refine E7 t.2.2.2.2.2 (fun i (b:List o7)=>(t.2.2.2.2.2,((t.2.2.2.2.2.length:Nat):Int),((i:Nat):Int),g.2,t,(0:Int),b)) (fun i b=>b=(t.2.2.2.2.2.take i).foldl V2 (a3m g.1 t.1 (Z0 t).1)) (fun i b hi hv=>?_) (fun b hv=>?_) (b0:=a3m g.1 t.1 (Z0 t).1) rfl (by omega)
 ·have hb:b.length<=g.1.length + 2000:=by
   have h1:=b9V (t.2.2.2.2.2.take i) (a3m g.1 t.1 (Z0 t).1)
   rw [<-hv,List.length_take] at h1
   omega
  have hbs:Srt b:=by rw [hv];exact c4E hps
  have hnext:V2 b t.2.2.2.2.2[i]=(t.2.2.2.2.2.take (i + 1)).foldl V2 (a3m g.1 t.1 (Z0 t).1):=by rw [b7k hi,hv]
  unfold a4F
  dsimp only
  rw [decide_eq_true (by omega:(i:Int) < ((t.2.2.2.2.2.length:Nat):Int)),E4,decide_eq_true (by omega:(0:Int)<=(i:Int)/\(i:Int) < ((t.2.2.2.2.2.length:Nat):Int)),C4,Int.toNat_natCast,D8 hi,b16 (g:=(b,g.2)) hbs (by dsimp only;omega),Option.bind_some]
  dsimp only
  rw [<-hnext]
  generalize t.2.2.2.2.2[i]=x
  by_cases hx:E9 b x.1 < b.length
  ·have hxp:=b4W hbs hx
   rw [decide_eq_true hx,Bool.not_true,C6,hxp]
   unfold a2N
   rw [decide_eq_true (by omega:(0:Int)<=((E9 b x.1:Nat):Int)/\((E9 b x.1:Nat):Int) < ((b.length:Nat):Int)),C4,Int.toNat_natCast,decide_eq_true hx,C4,C4,C4,D8 hx,A3,B4,E2 (by omega)]
   exact⟨_,rfl,(b0p hx).symm⟩
  ·have hple:I1 b x.1<=b.length:=c8c _ _
   have hins:M0 b ((I1 b x.1:Nat):Int) [(x.1,(0:Int),(0:Int))]=some (b.take (I1 b x.1) ++ (x.1,(0:Int),(0:Int)) :: b.drop (I1 b x.1)):=by
    unfold M0 d3c
    dsimp only
    rw [decide_eq_true (by omega),C4,Int.toNat_natCast]
   have htk:(b.take (I1 b x.1)).length=I1 b x.1:=by rw [List.length_take];omega
   have hil:(b.take (I1 b x.1) ++ (x.1,(0:Int),(0:Int)) :: b.drop (I1 b x.1)).length=b.length + 1:=by rw [(a8W _ _).length_eq];rfl
   have hget:(b.take (I1 b x.1) ++ (x.1,(0:Int),(0:Int)) :: b.drop (I1 b x.1)).getD (I1 b x.1) o9=(x.1,(0:Int),(0:Int)):=by
    rw [List.getD_eq_getElem?_getD,List.getElem?_append_right (by omega),htk,Nat.sub_self];rfl
   have hset:(b.take (I1 b x.1) ++ (x.1,(0:Int),(0:Int)) :: b.drop (I1 b x.1)).set (I1 b x.1) (x.1,B1 (0 + x.2),(0:Int))=V2 b x:=by
    rw [b15 hx,List.set_append_right _ _ (by omega),htk,Nat.sub_self];rfl
   rw [decide_eq_false hx,Bool.not_false,E4,hins,Option.bind_some]
   unfold a2N
   rw [hil,decide_eq_true (by omega:(0:Int)<=((I1 b x.1:Nat):Int)/\((I1 b x.1:Nat):Int) < ((b.length + 1:Nat):Int)),C4,Int.toNat_natCast,decide_eq_true (by omega:I1 b x.1 < b.length + 1),C4,C4,C4,hget,A3,B4,E2 (by omega)]
   exact⟨_,rfl,hset⟩
 ·rw [List.take_length] at hv
  unfold a4F a66
  dsimp only
  rw [decide_eq_false (by omega),C6,Option.map_some,A3,B8,hv]
  rfl
end Go.Proofs.YtbipjlehhlkghaaGreatDoor.Am
