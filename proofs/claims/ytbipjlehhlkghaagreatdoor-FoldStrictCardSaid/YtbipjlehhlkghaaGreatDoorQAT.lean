/- Texts laid together: PShaS, PShaR. No conditions. -/
import Derived.Test.YtbipjlehhlkghaaGreatDoorQAS
import Derived.Test.YtbipjlehhlkghaaGreatDoorQAH
namespace Go.Proofs.YtbipjlehhlkghaaGreatDoor.Am
open Go
def zc (n:Nat):Nat:=(120 - n % 64) % 64
theorem c8Z (n:Nat):(n + zc n) % 64=56/\∀ j,j < zc n->(n + j) % 64 ≠ 56:=by unfold zc;exact⟨by omega,fun j hj=>by omega⟩
theorem d1i (n:Nat):zc n < 64:=Nat.mod_lt _ (by omega)
theorem d56 {n m:Nat} (h:n % 64=m % 64):zc n=zc m:=by unfold zc;rw [h]
theorem d2l (n:Nat):Int.tmod ((n:Nat):Int) 64=((n % 64:Nat):Int):=rfl
theorem b46 (l:List UInt8) (j:Nat):(l ++ List.replicate j (0:UInt8)).length=l.length + j:=by rw [List.length_append,List.length_replicate]
theorem c4P (l:List UInt8) (j:Nat):l ++ List.replicate j (0:UInt8) ++ [(0:UInt8)]=l ++ List.replicate (j + 1) (0:UInt8):=by
 rw [List.append_assoc];congr 1;exact(List.replicate_succ' ..).symm
theorem c55 {d:DG} {z1 z2:Vector UInt8 32} {l:List UInt8} {p:A9 × Vector UInt8 32->Prop} (hl:l.length<=140737488355200) (h:Ok (a2w d z1 z2 (l ++ List.replicate (zc l.length) (0:UInt8))) p):Ok (a4d d z1 z2 l) p:=by
 have hz:=d1i l.length
 unfold a4d
 refine Q7 (fun n v=>∃ j:Nat,v=(d,z1,z2,l ++ List.replicate j (0:UInt8))/\j<=zc l.length/\n=zc l.length - j) ?_ (n:=zc l.length) ⟨0,by rw [List.replicate_zero,List.append_nil],by omega,rfl⟩ (by omega)
 rintro n v ⟨j,rfl,hj,rfl⟩
 unfold a4R
 dsimp only
 rw [b46,d2l,C0]
 refine⟨fun hc=>?_,fun hc=>?_⟩
 ·have hc:¬ (((l.length + j) % 64:Nat):Int)=56:=by simpa using hc
  have hlt:j < zc l.length:=by
   rcases Nat.lt_or_ge j (zc l.length) with k | k
   ·exact k
   ·have e:j=zc l.length:=by omega
    have:=(c8Z l.length).1
    rw [<-e] at this
    omega
  rw [decide_eq_true ⟨by unfold LIM;omega,by unfold LEN;omega⟩,C4,A3,B4,c4P]
  exact⟨zc l.length - (j + 1),by omega,j + 1,rfl,by omega,rfl⟩
 ·have hc:(((l.length + j) % 64:Nat):Int)=56:=by simpa using hc
  have e:j=zc l.length:=by
   rcases Nat.lt_or_ge j (zc l.length) with k | k
   ·exact absurd (by omega) ((c8Z l.length).2 j k)
   ·omega
  subst e
  rw [D5]
  exact h
theorem c80 {m:List UInt8} {z1:Vector UInt8 32} {l:List UInt8} {p:Vector UInt8 32->Prop} (hl:l.length<=140737488355200) (h:Ok (a1P m z1 (l ++ List.replicate (zc l.length) (0:UInt8))) p):Ok (a3z m z1 l) p:=by
 have hz:=d1i l.length
 unfold a3z
 refine Q7 (fun n v=>∃ j:Nat,v=(m,z1,l ++ List.replicate j (0:UInt8))/\j<=zc l.length/\n=zc l.length - j) ?_ (n:=zc l.length) ⟨0,by rw [List.replicate_zero,List.append_nil],by omega,rfl⟩ (by omega)
 rintro n v ⟨j,rfl,hj,rfl⟩
 unfold a4h
 dsimp only
 rw [b46,d2l,C0]
 refine⟨fun hc=>?_,fun hc=>?_⟩
 ·have hc:¬ (((l.length + j) % 64:Nat):Int)=56:=by simpa using hc
  have hlt:j < zc l.length:=by
   rcases Nat.lt_or_ge j (zc l.length) with k | k
   ·exact k
   ·have e:j=zc l.length:=by omega
    have:=(c8Z l.length).1
    rw [<-e] at this
    omega
  rw [decide_eq_true ⟨by unfold LIM;omega,by unfold LEN;omega⟩,C4,A3,B4,c4P]
  exact⟨zc l.length - (j + 1),by omega,j + 1,rfl,by omega,rfl⟩
 ·have hc:(((l.length + j) % 64:Nat):Int)=56:=by simpa using hc
  have e:j=zc l.length:=by
   rcases Nat.lt_or_ge j (zc l.length) with k | k
   ·exact absurd (by omega) ((c8Z l.length).2 j k)
   ·omega
  subst e
  rw [D5]
  exact h
def by8 (n:Int):List UInt8:=(List.range 8).map fun i=>UInt8.ofNat (Int.toNat (wu8 (n / 2 ^ (56 - 8 * i))))
theorem b3y (n:Int):(by8 n).length=8:=by simp [by8]
theorem c81 (n:Int) {i:Nat} (h:i < 8):(by8 n).take (i + 1)=(by8 n).take i ++ [UInt8.ofNat (Int.toNat (wu8 (n / 2 ^ (56 - 8 * i))))]:=by
 rw [N0 (by rw [b3y];exact h)]
 congr 2
 simp [by8]
theorem d1j {d:DG} {z1 z2:Vector UInt8 32} {n:Int} {l:List UInt8} {p:A9 × Vector UInt8 32->Prop} (hl:l.length<=140737488355300) (h:Ok (a2v d z1 z2 (l ++ by8 n)) p):Ok (a4c n 56 d z1 z2 l) p:=by
 unfold a4c
 refine Q7 (fun k v=>∃ i:Nat,v=(n,56 - 8 * (i:Int),d,z1,z2,l ++ (by8 n).take i)/\i<=8/\k=8 - i) ?_ (n:=8) ⟨0,by rw [List.take_zero,List.append_nil];rfl,by omega,rfl⟩ (by omega)
 rintro k v ⟨i,rfl,hi,rfl⟩
 have hlen:(l ++ (by8 n).take i).length=l.length + i:=by rw [List.length_append,List.length_take,b3y];omega
 unfold a4Q
 dsimp only
 rw [C0]
 refine⟨fun hc=>?_,fun hc=>?_⟩
 ·have hc:=of_decide_eq_true hc
  have hi8:i < 8:=by omega
  have e:min (Int.toNat (56 - 8 * (i:Int))) 64=56 - 8 * i:=by omega
  have ew:A5 (56 - 8 * (i:Int) - 8)=56 - 8 * ((i + 1:Nat):Int):=by rw [E0 (by omega) (by omega)];omega
  rw [decide_eq_true hc,C4,decide_eq_true (a5R _),C4,hlen,decide_eq_true ⟨by unfold LIM;omega,by unfold LEN;omega⟩,C4,A3,B4,e,ew,List.append_assoc,<-c81 n hi8]
  exact⟨8 - (i + 1),by omega,i + 1,rfl,by omega,rfl⟩
 ·have hc:=of_decide_eq_false hc
  have e:i=8:=by omega
  subst e
  rw [D5,List.take_of_length_le (by rw [b3y];exact Nat.le_refl 8)]
  exact h
theorem d3O {z1:Vector UInt8 32} {n:Int} {l:List UInt8} {p:Vector UInt8 32->Prop} (hl:l.length<=140737488355300) (h:Ok (a1O z1 (l ++ by8 n)) p):Ok (a3y n 7 z1 l) p:=by
 unfold a3y
 refine Q7 (fun k v=>∃ i:Nat,v=(n,7 - (i:Int),z1,l ++ (by8 n).take i)/\i<=8/\k=8 - i) ?_ (n:=8) ⟨0,by rw [List.take_zero,List.append_nil];rfl,by omega,rfl⟩ (by omega)
 rintro k v ⟨i,rfl,hi,rfl⟩
 have hlen:(l ++ (by8 n).take i).length=l.length + i:=by rw [List.length_append,List.length_take,b3y];omega
 unfold a4g
 dsimp only
 rw [C0]
 refine⟨fun hc=>?_,fun hc=>?_⟩
 ·have hc:=of_decide_eq_true hc
  have hi8:i < 8:=by omega
  have e0:A5 (8 * (7 - (i:Int)))=56 - 8 * (i:Int):=by rw [E0 (by omega) (by omega)];omega
  have e:min (Int.toNat (56 - 8 * (i:Int))) 64=56 - 8 * i:=by omega
  have ew:A5 (7 - (i:Int) - 1)=7 - ((i + 1:Nat):Int):=by rw [E0 (by omega) (by omega)];omega
  rw [e0,decide_eq_true (by omega),C4,decide_eq_true (a5R _),C4,hlen,decide_eq_true ⟨by unfold LIM;omega,by unfold LEN;omega⟩,C4,A3,B4,e,ew,List.append_assoc,<-c81 n hi8]
  exact⟨8 - (i + 1),by omega,i + 1,rfl,by omega,rfl⟩
 ·have hc:=of_decide_eq_false hc
  have e:i=8:=by omega
  subst e
  rw [D5,List.take_of_length_le (by rw [b3y];exact Nat.le_refl 8)]
  exact h
theorem d1k {z1 z2:Vector UInt8 32} {d:DG} {p:A9 × Vector UInt8 32->Prop} (h:H8) (l:List UInt8) (hl:l.length<=140737488355328) (hm:l.length % 64=0) (hp:Ok (a0z z1 z2 (b5F (l.length / 64) h l) d) p):Ok (a4b l z1 z2 h d) p:=by
 unfold a4b
 refine Q7 (fun k v=>∃ (t:List UInt8) (g:H8),v=(t,z1,z2,g,d)/\t.length<=140737488355328/\t.length % 64=0/\k=t.length / 64/\b5F (t.length / 64) g t=b5F (l.length / 64) h l) ?_ (n:=l.length / 64) ⟨l,h,rfl,hl,hm,rfl,rfl⟩ (by omega)
 rintro k v ⟨t,g,rfl,ht,htm,rfl,e1⟩
 unfold a4P
 dsimp only
 rw [C0]
 refine⟨fun hc=>?_,fun hc=>?_⟩
 ·have hc:=of_decide_eq_true hc
  have h64:(t.take 64).length=64:=by rw [List.length_take];omega
  obtain⟨q,hq⟩:∃ q,t.length / 64=q + 1:=⟨t.length / 64 - 1,by omega⟩
  have hd:(t.drop 64).length / 64=q:=by rw [List.length_drop];omega
  rw [decide_eq_true (by omega),C4,c8Y g h64,Option.bind_some,decide_eq_true (by omega),C4,Int.toNat_natCast,List.take_length,A3,B4]
  refine⟨q,by omega,t.drop 64,blk g (t.take 64),rfl,by rw [List.length_drop];omega,by rw [List.length_drop];omega,hd.symm,?_⟩
  rw [hd,<-e1,hq];rfl
 ·have hc:=of_decide_eq_false hc
  have h0:t.length / 64=0:=by omega
  rw [h0] at e1
  have e1:g=b5F (l.length / 64) h l:=e1
  rw [D5,e1]
  exact hp
theorem d3P {z1:Vector UInt8 32} {p:Vector UInt8 32->Prop} (l:List UInt8) (hl:l.length<=140737488355328) (hm:l.length % 64=0) (hp:Ok (Y7 z1 (b5F (l.length / 64) iv l)) p):Ok (a3x 0 z1 iv l) p:=by
 unfold a3x
 refine Q7 (fun k v=>∃ (i:Nat) (g:H8),v=(((64 * i:Nat):Int),z1,g,l)/\i<=l.length / 64/\k=l.length / 64 - i/\b5F (l.length / 64 - i) g (l.drop (64 * i))=b5F (l.length / 64) iv l) ?_ (n:=l.length / 64) ⟨0,iv,rfl,by omega,rfl,rfl⟩ (by omega)
 rintro k v ⟨i,g,rfl,hi,rfl,e1⟩
 unfold a4f
 dsimp only
 rw [C0]
 refine⟨fun hc=>?_,fun hc=>?_⟩
 ·have hc:=of_decide_eq_true hc
  have hi':i < l.length / 64:=by omega
  have ew:A5 (((64 * i:Nat):Int) + 64)=((64 * (i + 1):Nat):Int):=by rw [E0 (by omega) (by omega)];omega
  obtain⟨q,hq⟩:∃ q,l.length / 64 - i=q + 1:=⟨l.length / 64 - i - 1,by omega⟩
  have hb:(l.take (64 * (i + 1))).drop (64 * i)=(l.drop (64 * i)).take 64:=by
   rw [List.drop_take];congr 1;omega
  have h64:((l.drop (64 * i)).take 64).length=64:=by rw [List.length_take,List.length_drop];omega
  rw [ew,decide_eq_true (by omega),C4,Int.toNat_natCast,Int.toNat_natCast,hb,d3N g h64,Option.bind_some,A3,B4]
  refine⟨q,by omega,i + 1,_,rfl,by omega,by omega,?_⟩
  rw [<-e1,hq,show l.length / 64 - (i + 1)=q by omega]
  show _=b5F q (blk g ((l.drop (64 * i)).take 64)) ((l.drop (64 * i)).drop 64)
  rw [List.drop_drop]
  rfl
 ·have hc:=of_decide_eq_false hc
  have h0:l.length / 64 - i=0:=by omega
  rw [h0] at e1
  have e1:g=b5F (l.length / 64) iv l:=e1
  rw [D5,e1]
  exact hp
def fbL (s:H8):List UInt8:=(List.range 32).map fun j=>UInt8.ofNat (Int.toNat (wu8 (E8 s (j / 4) (0:Int) / 2 ^ (24 - j % 4 * 8))))
theorem b7q (s:H8):(fbL s).length=32:=by simp [fbL]
theorem d3Q (s:H8) {j:Nat} (h:j < 32):(fbL s)[j]'(by rw [b7q];exact h)=UInt8.ofNat (Int.toNat (wu8 (E8 s (j / 4) (0:Int) / 2 ^ (24 - j % 4 * 8)))):=by simp [fbL]
def fb (s:H8):Vector UInt8 32:=⟨(fbL s).toArray,by rw [List.size_toArray,b7q]⟩
def c82 (s:H8) (j:Nat) (v:Vector UInt8 32):Prop:=v.toList=(fbL s).take j ++ List.replicate (32 - j) (0:UInt8)
theorem c82.set {s:H8} {j:Nat} {v:Vector UInt8 32} (h:c82 s j v) (hj:j < 32) {x:UInt8} (hx:x=UInt8.ofNat (Int.toNat (wu8 (E8 s (j / 4) (0:Int) / 2 ^ (24 - j % 4 * 8))))):c82 s (j + 1) (b5m v j x):=by
 unfold c82 at h ⊢
 rw [c7d,h]
 have hlen:((fbL s).take j).length=j:=by rw [List.length_take,b7q];omega
 rw [N0 (by rw [b7q];exact hj),d3Q s hj,<-hx,show 32 - j=(32 - (j + 1)) + 1 by omega,List.replicate_succ,List.set_append_right _ _ (by omega),hlen,Nat.sub_self,List.set_cons_zero,List.append_assoc]
 rfl
theorem c82.all {s:H8} {v:Vector UInt8 32} (h:c82 s 32 v):v=fb s:=by
 apply Vector.toList_inj.1
 unfold c82 at h
 rw [h,List.take_of_length_le (by rw [b7q];exact Nat.le_refl 32)]
 simp [fb]
theorem d57 (s:H8):c82 s 0 (Vector.replicate 32 (0:UInt8)):=by simp [c82]
theorem d1l (s:H8) (z1:Vector UInt8 32) (d:DG):a0z z1 (Vector.replicate 32 (0:UInt8)) s d=some (d,fb s):=by
 rw [<-L4]
 unfold a0z a7o
 refine Q7 (fun k v=>∃ (i:Nat) (o:Vector UInt8 32),v=(s,(i:Int),z1,o,d)/\i<=8/\k=8 - i/\c82 s (4 * i) o) ?_ (n:=8) ⟨0,_,rfl,by omega,rfl,d57 s⟩ (by omega)
 rintro k v ⟨i,o,rfl,hi,rfl,hf⟩
 unfold a4O
 dsimp only
 rw [C0]
 refine⟨fun hc=>?_,fun hc=>?_⟩
 ·have hc:=of_decide_eq_true hc
  rw [d2k (i:=i) (by omega),b8H (i:=4 * i) (c:=1) (by omega) (by omega) (by omega),b8H (i:=4 * i) (c:=2) (by omega) (by omega) (by omega),b8H (i:=4 * i) (c:=3) (by omega) (by omega) (by omega)]
  simp only [E5,A3,B4,decide_eq_true_eq,E2 (i:=i) (by omega),Int.toNat_natCast]
  refine⟨by omega,by omega,by omega,a5R _,by omega,by omega,a5R _,by omega,by omega,a5R _,by omega,by omega,a5R _,8 - (i + 1),by omega,i + 1,_,rfl,by omega,rfl,?_⟩
  have e0:(4 * i) / 4=i:=by omega
  have e1:(4 * i + 1) / 4=i:=by omega
  have e2:(4 * i + 2) / 4=i:=by omega
  have e3:(4 * i + 3) / 4=i:=by omega
  have f0:24 - (4 * i) % 4 * 8=24:=by omega
  have f1:24 - (4 * i + 1) % 4 * 8=16:=by omega
  have f2:24 - (4 * i + 2) % 4 * 8=8:=by omega
  have f3:24 - (4 * i + 3) % 4 * 8=0:=by omega
  exact(((hf.set (by omega) (by rw [e0,f0])).set (by omega) (by rw [e1,f1])).set (by omega) (by rw [e2,f2])).set (by omega) (by rw [e3,f3,Int.pow_zero,Int.ediv_one])
 ·have hc:=of_decide_eq_false hc
  have e:i=8:=by omega
  subst e
  rw [A3,B8,hf.all]
theorem d3R (s:H8) (z1:Vector UInt8 32):Y7 z1 s=some (fb s):=by
 rw [<-L4]
 unfold Y7 a6N
 refine Q7 (fun k v=>∃ (i:Nat) (o:Vector UInt8 32),v=((i:Int),z1,s,o)/\i<=32/\k=32 - i/\c82 s i o) ?_ (n:=32) ⟨0,_,rfl,by omega,rfl,d57 s⟩ (by omega)
 rintro k v ⟨i,o,rfl,hi,rfl,hf⟩
 unfold a4e
 dsimp only
 rw [C0]
 refine⟨fun hc=>?_,fun hc=>?_⟩
 ·have hc:=of_decide_eq_true hc
  have e1:A5 (Int.tdiv (i:Int) 4)=((i / 4:Nat):Int):=by
   rw [show Int.tdiv (i:Int) 4=((i / 4:Nat):Int) from rfl,E0 (by omega) (by omega)]
  have e2:A5 (24 - A5 (Int.tmod (i:Int) 4 * 8))=((24 - i % 4 * 8:Nat):Int):=by
   rw [show Int.tmod (i:Int) 4=((i % 4:Nat):Int) from rfl,E0 (n:=((i % 4:Nat):Int) * 8) (by omega) (by omega),E0 (by omega) (by omega)]
   omega
  rw [e1,e2]
  have e3:min (24 - i % 4 * 8) 32=24 - i % 4 * 8:=by omega
  simp only [E5,A3,B4,decide_eq_true_eq,E2 (i:=i) (by omega),Int.toNat_natCast,e3]
  exact⟨by omega,by omega,by omega,by omega,by omega,a5R _,32 - (i + 1),by omega,i + 1,_,rfl,by omega,rfl,hf.set (by omega) rfl⟩
 ·have hc:=of_decide_eq_false hc
  have e:i=32:=by omega
  subst e
  rw [A3,B8,hf.all]
def c9i (m:List UInt8):List UInt8:=(m ++ [(128:UInt8)]) ++ List.replicate (zc (m.length + 1)) (0:UInt8) ++ by8 (B1 (B1 ((m.length:Nat):Int) * 8))
def d38 (m:List UInt8):Vector UInt8 32:=fb (b5F ((c9i m).length / 64) iv (c9i m))
theorem c4Q (m:List UInt8):(c9i m).length=m.length + 1 + zc (m.length + 1) + 8/\(c9i m).length % 64=0:=by
 have h:=(c8Z (m.length + 1)).1
 have e:(c9i m).length=m.length + 1 + zc (m.length + 1) + 8:=by
  unfold c9i
  rw [List.length_append,b46,b3y,List.length_append];rfl
 exact⟨e,by rw [e];omega⟩
theorem c3c {m:List UInt8} (hm:m.length<=140737488355000):a0l m=some (d38 m):=by
 rw [<-L4]
 have hz:=d1i (m.length + 1)
 have h1:(m ++ [(128:UInt8)]).length=m.length + 1:=by rw [List.length_append];rfl
 obtain⟨p1,p2⟩:=c4Q m
 unfold a0l
 rw [decide_eq_true ⟨by unfold LIM;omega,by unfold LEN;omega⟩,C4,decide_eq_true ⟨by unfold LIM;omega,by unfold LEN;omega⟩,C4]
 refine c80 (by rw [h1];omega) ?_
 rw [h1]
 unfold a1P
 refine d3O (by rw [b46,h1];omega) ?_
 unfold a1O
 refine d3P (c9i m) (by omega) p2 ?_
 rw [d3R,A3]
 rfl
theorem c3d {d:DG} {m:List UInt8} (h:Dig d m) (_hm:m.length<=140737488355000):a08 d=some (d,d38 m):=by
 rw [<-L4]
 obtain⟨q,hq⟩:∃ q,q=m.length / 64:=⟨_,rfl⟩
 unfold Dig at h
 rw [<-hq] at h
 have hr:(m.drop (64 * q)).length=m.length - 64 * q:=List.length_drop
 have hx:(m.take (64 * q)).length=64 * q:=by rw [List.length_take];omega
 obtain⟨g,rest,n⟩:=d
 injection h with h1 h2
 injection h2 with h2 h3
 obtain⟨rfl,rfl,rfl⟩:g=b5F q iv m/\rest=m.drop (64 * q)/\n=((m.length:Nat):Int):=⟨h1,h2,h3⟩
 have hl:(m.drop (64 * q) ++ [(128:UInt8)]).length=m.length - 64 * q + 1:=by rw [List.length_append,hr];rfl
 have hzz:zc (m.length - 64 * q + 1)=zc (m.length + 1):=d56 (by omega)
 have hz:=d1i (m.length + 1)
 obtain⟨p1,p2⟩:=c4Q m
 have hpad:c9i m=m.take (64 * q) ++ ((m.drop (64 * q) ++ [(128:UInt8)]) ++ List.replicate (zc (m.length + 1)) (0:UInt8) ++ by8 (B1 (B1 ((m.length:Nat):Int) * 8))):=by
  unfold c9i
  simp only [<-List.append_assoc,List.take_append_drop]
 have htl:((m.drop (64 * q) ++ [(128:UInt8)]) ++ List.replicate (zc (m.length + 1)) (0:UInt8) ++ by8 (B1 (B1 ((m.length:Nat):Int) * 8))).length=m.length - 64 * q + 1 + zc (m.length + 1) + 8:=by
  rw [List.length_append,b46,b3y,hl]
 unfold a08
 dsimp only
 rw [hr,decide_eq_true ⟨by unfold LIM;omega,by unfold LEN;omega⟩,C4,decide_eq_true ⟨by unfold LIM;omega,by unfold LEN;omega⟩,C4]
 refine c55 (by rw [hl];omega) ?_
 rw [hl,hzz]
 unfold a2w
 refine d1j (by rw [b46,hl];omega) ?_
 unfold a2v
 refine d1k _ _ (by rw [htl];omega) (by rw [htl];omega) ?_
 rw [d1l,A3]
 refine Prod.ext rfl ?_
 dsimp only
 unfold d38
 have hbq:b5F q iv (m.take (64 * q))=b5F q iv m:=by
  have h1:=b4z 0 (m.drop (64 * q)) q iv (m.take (64 * q)) hx
  rw [List.take_append_drop] at h1
  exact h1.symm
 have hn:(c9i m).length / 64=q + ((m.drop (64 * q) ++ [(128:UInt8)]) ++ List.replicate (zc (m.length + 1)) (0:UInt8) ++ by8 (B1 (B1 ((m.length:Nat):Int) * 8))).length / 64:=by rw [htl,p1];omega
 rw [hn]
 congr 1
 conv=>rhs;rw [hpad]
 rw [b4z _ _ q iv _ hx,hbq]
end Go.Proofs.YtbipjlehhlkghaaGreatDoor.Am
namespace Go.Proofs.YtbipjlehhlkghaaGreatDoor.Am
open Go
theorem d1m {m:List UInt8} (hm:m.length<=140737488354000):b37 m=some (d38 m):=by
 obtain⟨d0,h0,g0⟩:=c3b
 obtain⟨d1,h1,g1⟩:=a9W (b:=m) g0 (by simp only [List.length_nil];omega)
 rw [List.nil_append] at g1
 unfold b37
 rw [h0,Option.bind_some,h1,Option.bind_some,c3d g1 (by omega)];rfl
def d58 (b:List UInt8):Vector UInt8 32:=d38 ([(0:UInt8)] ++ b)
theorem c83 {b:List UInt8} (hm:b.length<=140737488354000):a7L b=some (d58 b):=by
 obtain⟨d0,h0,g0⟩:=c3b
 obtain⟨d1,h1,g1⟩:=a9W (b:=[(0:UInt8)]) g0 (by simp)
 obtain⟨d2,h2,g2⟩:=a9W (b:=b) g1 (by simp only [List.nil_append,List.length_singleton];omega)
 unfold a7L
 rw [h0,Option.bind_some,h1,Option.bind_some,h2,Option.bind_some,c3d g2 (by simp only [List.nil_append,List.length_append,List.length_singleton];omega)];rfl
theorem d1n {b:List UInt8} (hm:b.length<=140737488354000):a3f b=some (d58 b):=by
 unfold a3f
 rw [decide_eq_true ⟨by unfold LIM;omega,by unfold LEN;omega⟩,C4,c3c (by simp only [List.length_append,List.length_singleton];omega)];rfl
def d2m (a b:Vector UInt8 32):Vector UInt8 32:=d38 (([(1:UInt8)] ++ Vector.toList a) ++ Vector.toList b)
theorem c56 (a b:Vector UInt8 32):a6C a b=some (d2m a b):=by
 have la:(Vector.toList a).length=32:=Vector.length_toList
 have lb:(Vector.toList b).length=32:=Vector.length_toList
 obtain⟨d0,h0,g0⟩:=c3b
 obtain⟨d1,h1,g1⟩:=a9W (b:=[(1:UInt8)]) g0 (by simp)
 obtain⟨d2,h2,g2⟩:=a9W (b:=Vector.toList a) g1 (by rw [la];simp)
 obtain⟨d3,h3,g3⟩:=a9W (b:=Vector.toList b) g2 (by rw [List.length_append,la,lb];simp)
 unfold a6C
 rw [h0,Option.bind_some,h1,Option.bind_some,h2,Option.bind_some,h3,Option.bind_some,c3d g3 (by rw [List.length_append,List.length_append,la,lb];simp)];rfl
theorem c84 (a b:Vector UInt8 32):a2B a b=some (d2m a b):=by
 have la:(Vector.toList a).length=32:=Vector.length_toList
 have lb:(Vector.toList b).length=32:=Vector.length_toList
 have l1:([(1:UInt8)] ++ Vector.toList a).length=33:=by rw [List.length_append,la];rfl
 unfold a2B
 rw [la,l1,lb,decide_eq_true ⟨by unfold LIM;omega,by unfold LEN;omega⟩,C4,decide_eq_true ⟨by unfold LIM;omega,by unfold LEN;omega⟩,C4,c3c (by rw [List.length_append,l1,lb];omega)];rfl
theorem d1o {n a b:Nat} (ha:2 ^ a < n) (ha2:n<=2 * 2 ^ a) (hb:2 ^ b < n) (hb2:n<=2 * 2 ^ b):a=b:=by
 rcases Nat.lt_trichotomy a b with h | h | h
 ·have:2 ^ (a + 1)<=2 ^ b:=Nat.pow_le_pow_right (by omega) h
  rw [Nat.pow_succ] at this;omega
 ·exact h
 ·have:2 ^ (b + 1)<=2 ^ a:=Nat.pow_le_pow_right (by omega) h
  rw [Nat.pow_succ] at this;omega
theorem c85 {n:Nat} (h1:2<=n) (h2:n<=1000000000000000):∃ t,a5A (n:Int)=some ((2 ^ t:Nat):Int)/\2 ^ t < n/\n<=2 * 2 ^ t:=by
 obtain⟨t,e,b1,b2,b3⟩:=d15 (n:=n - 1) (by omega) (by omega)
 have ht:t - 1 < 60:=by
  rcases Nat.lt_or_ge (t - 1) 60 with h | h
  ·exact h
  ·have:2 ^ 60<=2 ^ (t - 1):=Nat.pow_le_pow_right (by omega) h
   omega
 have hpow:2 ^ t=2 * 2 ^ (t - 1):=by
  obtain⟨q,rfl⟩:∃ q,t=q + 1:=⟨t - 1,by omega⟩
  rw [Nat.add_sub_cancel,Nat.pow_succ];omega
 have hb:2 ^ (t - 1)<=2 ^ 59:=Nat.pow_le_pow_right (by omega) (by omega)
 refine⟨t - 1,?_,by omega,by omega⟩
 unfold a5A a73
 rw [show B1 (A5 ((n:Int) - 1))=((n - 1:Nat):Int) by rw [E0 (by omega) (by omega),K9 (by omega) (by omega)];omega,e,Option.bind_some,Option.bind_some,show A5 (((t:Nat):Int) - 1)=((t - 1:Nat):Int) by rw [E0] <;> omega,decide_eq_true (by omega),C4,Int.toNat_natCast,show min (t - 1) 64=t - 1 by omega,Int.one_mul]
 rw [show((2:Int) ^ (t - 1))=((2 ^ (t - 1):Nat):Int) by rw [Int.natCast_pow];rfl,E0 (by omega) (by omega)]
theorem d1p {n:Nat} (h1:2<=n) (h2:n<=1000000000000000):∃ t,W4 (n:Int)=some ((2 ^ t:Nat):Int)/\2 ^ t < n/\n<=2 * 2 ^ t:=by
 have:Ok (W4 (n:Int)) fun r=>∃ t:Nat,r=((2 ^ t:Nat):Int)/\2 ^ t < n/\n<=2 * 2 ^ t:=by
  unfold W4 a50
  refine Q7 (fun k v=>∃ t:Nat,v=((n:Int),((2 ^ t:Nat):Int))/\2 ^ t < n/\k=n - 2 ^ t) ?_ (n:=n - 1) ⟨0,rfl,by omega,rfl⟩ (by omega)
  rintro k v ⟨t,rfl,ht,rfl⟩
  have hp:0 < 2 ^ t:=Nat.pow_pos (by omega)
  unfold a3A
  dsimp only
  rw [E0 (n:=(n:Int) - ((2 ^ t:Nat):Int)) (by omega) (by omega),E0 (n:=((2 ^ t:Nat):Int) * 2) (by omega) (by omega),C0]
  refine⟨fun hc=>?_,fun hc=>?_⟩
  ·have hc:=of_decide_eq_true hc
   rw [A3,B4]
   have hs:2 ^ (t + 1)=2 ^ t * 2:=Nat.pow_succ ..
   exact⟨n - 2 ^ (t + 1),by omega,t + 1,by rw [hs];rfl,by omega,rfl⟩
  ·have hc:=of_decide_eq_false hc
   rw [A3,B8]
   exact⟨t,rfl,ht,by omega⟩
 obtain⟨r,e,t,rfl,h⟩:=this
 exact⟨t,e,h⟩
theorem d3S {n:Nat} (h1:2<=n) (h2:n<=1000000000000000):∃ k:Nat,a5A (n:Int)=some (k:Int)/\W4 (n:Int)=some (k:Int)/\1<=k/\k < n:=by
 obtain⟨a,e1,a1,a2⟩:=c85 h1 h2
 obtain⟨b,e2,b1,b2⟩:=d1p h1 h2
 have:=d1o a1 a2 b1 b2
 subst this
 exact⟨2 ^ a,e1,e2,Nat.pow_pos (by omega),a1⟩
theorem c3e:∀ (f:Nat) (l:List (List UInt8)),l.length < f->l.length<=1000000000000000->(∀ b ∈ l,b.length<=140737488354000)->∃ r,a7M f l=some r/\a3g f l=some r
 | 0,l,h,_,_=>by omega
 | f + 1,l,h,hl,hb=>by
  show ∃ r,a5B (a7M f) l=some r/\a2C (a3g f) l=some r
  unfold a5B a2C
  by_cases h0:l.length=0
  ·rw [decide_eq_true (by omega),E4,E4,d1m (by simp),c3c (by simp)]
   exact⟨_,rfl,rfl⟩
  rw [decide_eq_false (by omega),C6,C6]
  by_cases h1:l.length=1
  ·have hb0:(l.getD 0 []).length<=140737488354000:=by rw [D8 (by omega)];exact hb _ (List.getElem_mem _)
   rw [decide_eq_true (by omega),E4,E4,decide_eq_true (by omega),C4,C4,c83 hb0,d1n hb0]
   exact⟨_,rfl,rfl⟩
  rw [decide_eq_false (by omega),C6,C6]
  obtain⟨k,e1,e2,k1,k2⟩:=d3S (n:=l.length) (by omega) hl
  have lt:(l.take k).length=k:=by rw [List.length_take];omega
  have ld:(l.drop k).length=l.length - k:=List.length_drop
  obtain⟨r1,p1,q1⟩:=c3e f (l.take k) (by omega) (by omega) (fun b hx=>hb b (List.mem_of_mem_take hx))
  obtain⟨r2,p2,q2⟩:=c3e f (l.drop k) (by omega) (by omega) (fun b hx=>hb b (List.mem_of_mem_drop hx))
  rw [e1,e2,Option.bind_some,Option.bind_some,decide_eq_true (by omega),C4,C4,Int.toNat_natCast,Int.toNat_natCast,List.take_length,p1,q1,Option.bind_some,Option.bind_some,decide_eq_true (by omega),C4,C4,p2,q2,Option.bind_some,Option.bind_some,c56,c84]
  exact⟨_,rfl,rfl⟩
end Go.Proofs.YtbipjlehhlkghaaGreatDoor.Am
