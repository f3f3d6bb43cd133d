/- Quotients of 128 bits: digit by digit, and bit by bit. No conditions. -/
import Derived.Test.YtbipjlehhlkghaaGreatDoorQAH
namespace Go.Proofs.YtbipjlehhlkghaaGreatDoor.Am
open Go
theorem d5K {y1 y0 u d q r B:Nat} (hq:q * y1 + r=u) (h:q * y0<=B * r + d):q * (y1 * B + y0)<=u * B + d:=by
 rw [Nat.mul_add,<-Nat.mul_assoc,<-hq,Nat.add_mul]
 have:r * B=B * r:=Nat.mul_comm ..
 omega
theorem d5L {y1 y0 u d q r B:Nat} (hq:q * y1 + r=u) (h:B * r + d < q * y0):u * B + d < q * (y1 * B + y0):=by
 rw [Nat.mul_add,<-Nat.mul_assoc,<-hq,Nat.add_mul]
 have:r * B=B * r:=Nat.mul_comm ..
 omega
structure b4q (y1 y0 u d Q q r:Nat):Prop where
 hq:q * y1 + r=u
 lo:Q<=q
 up:q<=4294967297
theorem b4q.stop {y1 y0 u d Q q r:Nat} (hQ:Q=(u * 4294967296 + d) / (y1 * 4294967296 + y0)) (hy:0 < y1 * 4294967296 + y0) (h:b4q y1 y0 u d Q q r) (hc:q * y0<=4294967296 * r + d):q=Q:=by
 have h1:=d5K h.hq hc
 have h2:=(Nat.le_div_iff_mul_le hy).2 h1
 have:=h.lo
 omega
theorem b4q.dec {y1 y0 u d Q q r:Nat} (hQ:Q=(u * 4294967296 + d) / (y1 * 4294967296 + y0)) (hy:0 < y1 * 4294967296 + y0) (hu:u < y1 * 4294967296 + y0) (hd:d < 4294967296) (h:b4q y1 y0 u d Q q r) (hc:4294967296<=q\/4294967296 * r + d < q * y0):1<=q/\b4q y1 y0 u d Q (q - 1) (r + y1):=by
 have hlt:Q < q:=by
  rcases hc with hc | hc
  ·have:Q < 4294967296:=by
    rw [hQ,Nat.div_lt_iff_lt_mul hy]
    have:(u + 1) * 4294967296<=(y1 * 4294967296 + y0) * 4294967296:=Nat.mul_le_mul_right _ hu
    have h2:4294967296 * (y1 * 4294967296 + y0)=(y1 * 4294967296 + y0) * 4294967296:=Nat.mul_comm ..
    omega
   omega
  ·have h1:=d5L h.hq hc
   rw [hQ]
   exact(Nat.div_lt_iff_lt_mul hy).2 h1
 refine⟨by omega,?_,by omega,by have:=h.up;omega⟩
 have h1:=h.hq
 obtain⟨k,rfl⟩:∃ k,q=k + 1:=⟨q - 1,by omega⟩
 rw [Nat.add_sub_cancel]
 rw [Nat.succ_mul] at h1
 omega
theorem b4q.brk {y1 y0 u d Q q r:Nat} (hQ:Q=(u * 4294967296 + d) / (y1 * 4294967296 + y0)) (hy:0 < y1 * 4294967296 + y0) (h0:y0 < 4294967296) (h:b4q y1 y0 u d Q q r) (hq:q<=4294967296) (hr:4294967296<=r):q=Q:=by
 refine h.stop hQ hy ?_
 have h1:q * y0<=4294967296 * y0:=Nat.mul_le_mul_right _ hq
 omega
theorem d16 {y1 y0 u d Q:Nat} (hQ:Q=(u * 4294967296 + d) / (y1 * 4294967296 + y0)) (h1:2147483648<=y1) (h1':y1 < 4294967296) (h0:y0 < 4294967296) (hu:u < y1 * 4294967296 + y0) (hd:d < 4294967296):b4q y1 y0 u d Q (u / y1) (u % y1):=by
 have hy:0 < y1 * 4294967296 + y0:=by omega
 refine⟨Nat.div_add_mod' u y1,?_,?_⟩
 ·rw [hQ,Nat.le_div_iff_mul_le (by omega)]
  have h2:=Nat.div_mul_le_self (u * 4294967296 + d) (y1 * 4294967296 + y0)
  rw [Nat.mul_add,<-Nat.mul_assoc] at h2
  generalize (u * 4294967296 + d) / (y1 * 4294967296 + y0)=q at h2 ⊢
  generalize q * y1=m at h2 ⊢
  generalize q * y0=k at h2
  omega
 ·refine Nat.lt_succ_iff.1 ((Nat.div_lt_iff_lt_mul (by omega)).2 ?_)
  have:Nat.succ 4294967297 * y1=4294967298 * y1:=rfl
  omega
def c0d (y u d:Nat):Nat:=(u * 4294967296 + d) / y
theorem c1d {q y0:Nat} (hq:q < 4294967296) (h0:y0 < 4294967296):q * y0 < 18446744073709551616:=by
 have:q * y0<=4294967295 * 4294967295:=Nat.mul_le_mul (by omega) (by omega)
 omega
theorem d3n (a b:Nat):Int.tdiv (a:Int) (b:Int)=((a / b:Nat):Int):=rfl
theorem d5M (a b:Nat):(a:Int) / (b:Int)=((a / b:Nat):Int):=rfl
theorem c8k {q:Nat} (h:1<=q) (h2:q<=4294967297):B1 ((q:Int) - 1)=((q - 1:Nat):Int):=by rw [K9] <;> omega
theorem d3o {s y1 y0 u d d2 q r Q:Nat} {p:Int × Int->Prop} (hQ:Q=c0d (y1 * 4294967296 + y0) u d) (h1:2147483648<=y1) (h1':y1 < 4294967296) (h0:y0 < 4294967296) (hu:u < y1 * 4294967296 + y0) (hd:d < 4294967296) (hg:b4q y1 y0 u d Q q r) (hr:r < 4294967296)
  (hp:Ok (N2 ((y1 * 4294967296 + y0:Nat):Int) (s:Int) (y1:Int) (y0:Int) (u:Int) (d:Int) (d2:Int) (Q:Int)) p) :
  Ok (a3t ((y1 * 4294967296 + y0:Nat):Int) (s:Int) (y1:Int) (y0:Int) (u:Int) (d:Int) (d2:Int) (q:Int) (r:Int)) p:=by
 have hy:0 < y1 * 4294967296 + y0:=by omega
 unfold a3t
 refine Q7 (fun k v=>∃ q r:Nat,v=(((y1 * 4294967296 + y0:Nat):Int),(s:Int),(y1:Int),(y0:Int),(u:Int),(d:Int),(d2:Int),(q:Int),(r:Int))/\b4q y1 y0 u d Q q r/\r < 4294967296/\k=q) ?_ (n:=q) ⟨q,r,rfl,hg,hr,rfl⟩ (by have:=hg.up;omega)
 rintro k v ⟨q,r,rfl,hg,hr,rfl⟩
 have hup:=hg.up
 have hdec:(4294967296<=k\/4294967296 * r + d < k * y0)->Ok (Y4 ((y1 * 4294967296 + y0:Nat):Int) (s:Int) (y1:Int) (y0:Int) (u:Int) (d:Int) (d2:Int) (k:Int) (r:Int)) (Nxt p fun z=>∃ m,m < k/\∃ q r:Nat,z=(((y1 * 4294967296 + y0:Nat):Int),(s:Int),(y1:Int),(y0:Int),(u:Int),(d:Int),(d2:Int),(q:Int),(r:Int))/\b4q y1 y0 u d Q q r/\r < 4294967296/\m=q):=fun hc=>by
  obtain⟨hk,hg'⟩:=hg.dec hQ hy hu hd hc
  unfold Y4
  rw [c9h,a0X (m:=r + y1) (by omega),c8k hk hup,C0]
  refine⟨fun hb=>?_,fun hb=>?_⟩
  ·have hb:=of_decide_eq_true hb
   have e:=hg'.brk hQ hy h0 (by omega) (by omega)
   rw [D5,e]
   exact hp
  ·have hb:=of_decide_eq_false hb
   rw [A3,B4]
   exact⟨k - 1,by omega,k - 1,r + y1,rfl,hg',by omega,rfl⟩
 unfold a39
 dsimp only
 rw [C0]
 refine⟨fun hc=>hdec (.inl (by have:=of_decide_eq_true hc;omega)),fun hc=>?_⟩
 have hc:=of_decide_eq_false hc
 have hk:k < 4294967296:=by omega
 have e1:B1 (4294967296 * (r:Int))=((4294967296 * r:Nat):Int):=by rw [K9] <;> omega
 rw [e1,c9h,a0X (m:=4294967296 * r + d) (by omega),c9g,a0X (c1d hk h0),C0]
 refine⟨fun hc2=>hdec (.inr (by have:=of_decide_eq_true hc2;omega)),fun hc2=>?_⟩
 have hc2:=of_decide_eq_false hc2
 have e:=hg.stop hQ hy (by omega)
 rw [D5,e]
 exact hp
theorem d3p {s y1 y0 u d Q1 q r Q:Nat} {p:Int × Int->Prop} (hQ:Q=c0d (y1 * 4294967296 + y0) u d) (h1:2147483648<=y1) (h1':y1 < 4294967296) (h0:y0 < 4294967296) (hu:u < y1 * 4294967296 + y0) (hd:d < 4294967296) (hg:b4q y1 y0 u d Q q r) (hr:r < 4294967296)
  (hp:Ok (Y2 ((y1 * 4294967296 + y0:Nat):Int) (s:Int) (d:Int) (Q1:Int) (u:Int) (Q:Int)) p) :
  Ok (a3s ((y1 * 4294967296 + y0:Nat):Int) (s:Int) (y1:Int) (y0:Int) (d:Int) (Q1:Int) (r:Int) (u:Int) (q:Int)) p:=by
 have hy:0 < y1 * 4294967296 + y0:=by omega
 unfold a3s
 refine Q7 (fun k v=>∃ q r:Nat,v=(((y1 * 4294967296 + y0:Nat):Int),(s:Int),(y1:Int),(y0:Int),(d:Int),(Q1:Int),(r:Int),(u:Int),(q:Int))/\b4q y1 y0 u d Q q r/\r < 4294967296/\k=q) ?_ (n:=q) ⟨q,r,rfl,hg,hr,rfl⟩ (by have:=hg.up;omega)
 rintro k v ⟨q,r,rfl,hg,hr,rfl⟩
 have hup:=hg.up
 have hdec:(4294967296<=k\/4294967296 * r + d < k * y0)->Ok (Y3 ((y1 * 4294967296 + y0:Nat):Int) (s:Int) (y1:Int) (y0:Int) (d:Int) (Q1:Int) (r:Int) (u:Int) (k:Int)) (Nxt p fun z=>∃ m,m < k/\∃ q r:Nat,z=(((y1 * 4294967296 + y0:Nat):Int),(s:Int),(y1:Int),(y0:Int),(d:Int),(Q1:Int),(r:Int),(u:Int),(q:Int))/\b4q y1 y0 u d Q q r/\r < 4294967296/\m=q):=fun hc=>by
  obtain⟨hk,hg'⟩:=hg.dec hQ hy hu hd hc
  unfold Y3
  rw [c9h,a0X (m:=r + y1) (by omega),c8k hk hup,C0]
  refine⟨fun hb=>?_,fun hb=>?_⟩
  ·have hb:=of_decide_eq_true hb
   have e:=hg'.brk hQ hy h0 (by omega) (by omega)
   rw [D5,e]
   exact hp
  ·have hb:=of_decide_eq_false hb
   rw [A3,B4]
   exact⟨k - 1,by omega,k - 1,r + y1,rfl,hg',by omega,rfl⟩
 unfold a38
 dsimp only
 rw [C0]
 refine⟨fun hc=>hdec (.inl (by have:=of_decide_eq_true hc;omega)),fun hc=>?_⟩
 have hc:=of_decide_eq_false hc
 have hk:k < 4294967296:=by omega
 have e1:B1 (4294967296 * (r:Int))=((4294967296 * r:Nat):Int):=by rw [K9] <;> omega
 rw [e1,c9h,a0X (m:=4294967296 * r + d) (by omega),c9g,a0X (c1d hk h0),C0]
 refine⟨fun hc2=>hdec (.inr (by have:=of_decide_eq_true hc2;omega)),fun hc2=>?_⟩
 have hc2:=of_decide_eq_false hc2
 have e:=hg.stop hQ hy (by omega)
 rw [D5,e]
 exact hp
theorem c8l {y u d:Nat} (hu:u < y) (hd:d < 4294967296):c0d y u d < 4294967296:=by
 unfold c0d
 rw [Nat.div_lt_iff_lt_mul (by omega)]
 have:(u + 1) * 4294967296<=y * 4294967296:=Nat.mul_le_mul_right _ hu
 have h2:4294967296 * y=y * 4294967296:=Nat.mul_comm ..
 omega
theorem c5I {y u d1 d0:Nat} (hy:0 < y):c0d y u d1 * 4294967296 + c0d y ((u * 4294967296 + d1) % y) d0=(u * 18446744073709551616 + (d1 * 4294967296 + d0)) / y:=by
 unfold c0d
 have h:=Nat.div_add_mod' (u * 4294967296 + d1) y
 have e:u * 18446744073709551616 + (d1 * 4294967296 + d0)=((u * 4294967296 + d1) % y * 4294967296 + d0) + ((u * 4294967296 + d1) / y * 4294967296) * y:=by
  have h2:(u * 4294967296 + d1) / y * 4294967296 * y=((u * 4294967296 + d1) / y * y) * 4294967296:=Nat.mul_right_comm ..
  rw [h2]
  omega
 rw [e,Nat.add_mul_div_right _ _ hy,Nat.add_comm]
theorem d5N {s y y1 y0 u d d2 Q1 U:Nat} (hs:s<=64) (hy:y=y1 * 4294967296 + y0) (h1:2147483648<=y1) (h1':y1 < 4294967296) (h0:y0 < 4294967296) (hd2:d2 < 4294967296) (hU:U < y) (hP:Q1 * y + U=u * 4294967296 + d) (hQ1:Q1 < 4294967296) :
  Ok (N2 (y:Int) (s:Int) (y1:Int) (y0:Int) (u:Int) (d:Int) (d2:Int) (Q1:Int)) fun r=>r.1=((Q1 * 4294967296 + c0d y U d2:Nat):Int):=by
 have hq2:=c8l hU hd2
 have eu2:B1 (B1 (B1 ((u:Int) * 4294967296) + (d:Int)) - B1 ((Q1:Int) * (y:Int)))=(U:Int):=by
  rw [c9g]
  have hy64:y < 18446744073709551616:=by omega
  clear hy hq2
  generalize Q1 * y=P at hP ⊢
  simp only [B1,IntKind.wrap_u64]
  omega
 clear hP
 have hU':U < y1 * 4294967296 + y0:=by rw [<-hy];exact hU
 have hg:=d16 (Q:=c0d y U d2) (by unfold c0d;rw [hy]) h1 h1' h0 hU' hd2
 have hmod:U % y1 < y1:=Nat.mod_lt _ (by omega)
 have hup:=hg.up
 have eq0:B1 (Int.tdiv (U:Int) (y1:Int))=((U / y1:Nat):Int):=by
  rw [d3n,a0X (by omega)]
 have er0:B1 ((U:Int) - B1 (((U / y1:Nat):Int) * (y1:Int)))=((U % y1:Nat):Int):=by
  have h:=Nat.div_add_mod' U y1
  have hU64:U < 18446744073709551616:=by omega
  rw [c9g]
  clear hq2 hg hup eq0 eu2 hU hU' hy
  generalize U / y1 * y1=P at h ⊢
  generalize U % y1=R at h ⊢
  simp only [B1,IntKind.wrap_u64]
  omega
 unfold N2
 rw [decide_eq_false (by omega),Bool.not_false,C4,eu2,eq0,er0]
 have hfin:B1 (B1 ((Q1:Int) * 4294967296) + ((c0d y U d2:Nat):Int))=((Q1 * 4294967296 + c0d y U d2:Nat):Int):=by
  generalize c0d y U d2=Q2 at hq2 ⊢
  rw [K9 (n:=(Q1:Int) * 4294967296) (by omega) (by omega),K9 (by omega) (by omega)]
  omega
 have hlt:U % y1 < 4294967296:=by omega
 clear eu2 eq0 er0 hup hmod
 generalize U / y1=q0 at hg ⊢
 generalize U % y1=r0 at hg hlt ⊢
 subst hy
 refine d3p rfl h1 h1' h0 hU' hd2 hg hlt ?_
 unfold Y2
 rw [decide_eq_true (by omega),C4,A3]
 exact hfin
theorem d7e {s y1 y0 u d d2:Nat} (hs:s<=64) (h1:2147483648<=y1) (h1':y1 < 4294967296) (h0:y0 < 4294967296) (hu:u < y1 * 4294967296 + y0) (hd:d < 4294967296) (hd2:d2 < 4294967296) :
  Ok (N2 ((y1 * 4294967296 + y0:Nat):Int) (s:Int) (y1:Int) (y0:Int) (u:Int) (d:Int) (d2:Int) ((c0d (y1 * 4294967296 + y0) u d:Nat):Int)) fun r=>r.1=(((u * 18446744073709551616 + (d * 4294967296 + d2)) / (y1 * 4294967296 + y0):Nat):Int):=by
 have hy0:0 < y1 * 4294967296 + y0:=by omega
 have htd:=c5I (y:=y1 * 4294967296 + y0) (u:=u) (d1:=d) (d0:=d2) hy0
 refine(d5N (Q1:=c0d (y1 * 4294967296 + y0) u d) hs rfl h1 h1' h0 hd2 (U:=(u * 4294967296 + d) % (y1 * 4294967296 + y0)) (Nat.mod_lt _ hy0) (by unfold c0d;exact Nat.div_add_mod' _ _) (c8l hu hd)).mono fun r hr=>?_
 rw [hr,htd]
theorem c5J {hi lo y:Nat} (hh:hi < y) (hlo:lo < 18446744073709551616) (hy:y < 18446744073709551616):Ok (a3S (hi:Int) (lo:Int) (y:Int)) fun r=>r.1=(((hi * 18446744073709551616 + lo) / y:Nat):Int):=by
 unfold a3S
 rw [decide_eq_false (by omega),C6,decide_eq_false (by omega),C6]
 by_cases h0:hi=0
 ·subst h0
  rw [decide_eq_true (by omega),E4,Bool.not_false,C4,C4,A3]
  dsimp only
  have:=Nat.div_le_self lo y
  rw [d3n,a0X (by omega),Nat.zero_mul,Nat.zero_add]
 rw [decide_eq_false (by omega),C6]
 obtain⟨t,e,b1,b2,b3⟩:=d15 (n:=y) (by omega) hy
 have ht:t<=64:=by
  rcases Nat.lt_or_ge 64 t with h | h
  ·have:2 ^ 64<=2 ^ (t - 1):=Nat.pow_le_pow_right (by omega) (by omega)
   omega
  ·exact h
 obtain⟨s,hs⟩:∃ s,s=64 - t:=⟨_,rfl⟩
 have hr1:B1 ((64 - t:Nat):Int)=(s:Int):=by rw [a0X (by omega),hs]
 have elz:R3 (y:Int)=some ((64 - t:Nat):Int):=by
  unfold R3
  rw [e,Option.bind_some,E0 (by omega) (by omega)]
  congr 1
  omega
 have hp2:(2:Int) ^ s=((2 ^ s:Nat):Int):=by rw [Int.natCast_pow];rfl
 have hps:0 < 2 ^ s:=Nat.pow_pos (by omega)
 have hn1:9223372036854775808<=y * 2 ^ s:=by
  have h1:2 ^ (t - 1) * 2 ^ s<=y * 2 ^ s:=Nat.mul_le_mul_right _ b1
  rw [<-Nat.pow_add,show t - 1 + s=63 by omega] at h1
  exact h1
 have hn2:y * 2 ^ s < 18446744073709551616:=by
  have h1:y * 2 ^ s < 2 ^ t * 2 ^ s:=Nat.mul_lt_mul_of_pos_right b2 hps
  rw [<-Nat.pow_add,show t + s=64 by omega] at h1
  exact h1
 have hhi:hi * 2 ^ s + 2 ^ s<=y * 2 ^ s:=by
  have h1:(hi + 1) * 2 ^ s<=y * 2 ^ s:=Nat.mul_le_mul_right _ hh
  rwa [Nat.succ_mul] at h1
 have hlow:lo / 2 ^ (64 - s) < 2 ^ s:=by
  refine Nat.div_lt_of_lt_mul ?_
  rw [<-Nat.pow_add,show 64 - s + s=64 by omega]
  exact hlo
 have hlo2:lo * 2 ^ s=lo / 2 ^ (64 - s) * 18446744073709551616 + lo * 2 ^ s % 18446744073709551616:=by
  have h1:lo * 2 ^ s / 18446744073709551616=lo / 2 ^ (64 - s):=by
   have h2:(18446744073709551616:Nat)=2 ^ (64 - s) * 2 ^ s:=by rw [<-Nat.pow_add,show 64 - s + s=64 by omega]
   rw [h2,Nat.mul_div_mul_right _ _ hps]
  have h3:=Nat.div_add_mod' (lo * 2 ^ s) 18446744073709551616
  omega
 have hmin1:min s 64=s:=by omega
 have hmin2:min (64 - s) 64=64 - s:=by omega
 have hsub:B1 (64 - (s:Int))=((64 - s:Nat):Int):=by rw [K9] <;> omega
 have hp3:(2:Int) ^ (64 - s)=((2 ^ (64 - s):Nat):Int):=by rw [Int.natCast_pow];rfl
 rw [elz,Option.bind_some,hr1,decide_eq_true (by omega),C4,C4,hsub,decide_eq_true (by omega),C4,C4]
 simp only [Int.toNat_natCast,hmin1,hmin2,hp2,hp3,c9g]
 rw [a0X hn2,a0X (m:=hi * 2 ^ s) (by omega),c8i (lo * 2 ^ s),d5M]
 have hor:bits .or .u64 ((hi * 2 ^ s:Nat):Int) ((lo / 2 ^ (64 - s):Nat):Int)=((hi * 2 ^ s + lo / 2 ^ (64 - s):Nat):Int):=by
  have:=c4o (a:=hi) hlow (by rw [Nat.mul_comm];omega)
  rwa [Nat.mul_comm (2 ^ s) hi] at this
 rw [hor,a6E hn2,a6E (m:=lo * 2 ^ s % 18446744073709551616) (by omega),b9L,b9L]
 have hQ:(hi * 18446744073709551616 + lo) / y=((hi * 2 ^ s + lo / 2 ^ (64 - s)) * 18446744073709551616 + (lo * 2 ^ s % 18446744073709551616 / 4294967296 * 4294967296 + lo * 2 ^ s % 18446744073709551616 % 4294967296)) / (y * 2 ^ s):=by
  have e1:(hi * 2 ^ s + lo / 2 ^ (64 - s)) * 18446744073709551616 + (lo * 2 ^ s % 18446744073709551616 / 4294967296 * 4294967296 + lo * 2 ^ s % 18446744073709551616 % 4294967296)=(hi * 18446744073709551616 + lo) * 2 ^ s:=by
   rw [Nat.div_add_mod',Nat.add_mul (hi * 18446744073709551616),Nat.mul_right_comm hi]
   omega
  rw [e1,Nat.mul_div_mul_right _ _ hps]
 rw [hQ]
 have hu:hi * 2 ^ s + lo / 2 ^ (64 - s) < y * 2 ^ s:=by omega
 have hd1:lo * 2 ^ s % 18446744073709551616 / 4294967296 < 4294967296:=by omega
 have hd2:lo * 2 ^ s % 18446744073709551616 % 4294967296 < 4294967296:=by omega
 generalize hi * 2 ^ s + lo / 2 ^ (64 - s)=u at hu ⊢
 generalize lo * 2 ^ s % 18446744073709551616 / 4294967296=d1 at hd1 ⊢
 generalize lo * 2 ^ s % 18446744073709551616 % 4294967296=d2 at hd2 ⊢
 generalize y * 2 ^ s=Y at hn1 hn2 hu ⊢
 obtain⟨y1,hy1⟩:∃ y1,y1=Y / 4294967296:=⟨_,rfl⟩
 obtain⟨y0,hy0⟩:∃ y0,y0=Y % 4294967296:=⟨_,rfl⟩
 have hY:Y=y1 * 4294967296 + y0:=by omega
 have k1:2147483648<=y1:=by omega
 have k2:y1 < 4294967296:=by omega
 have k3:y0 < 4294967296:=by omega
 rw [<-hy1,<-hy0]
 clear hy1 hy0
 subst hY
 have hg:=d16 (Q:=c0d (y1 * 4294967296 + y0) u d1) (by unfold c0d;exact Eq.refl _) k1 k2 k3 hu hd1
 have hup:=hg.up
 have hmod:u % y1 < y1:=Nat.mod_lt _ (by omega)
 have eq0:B1 (Int.tdiv (u:Int) (y1:Int))=((u / y1:Nat):Int):=by
  rw [d3n,a0X (by omega)]
 have er0:B1 ((u:Int) - B1 (((u / y1:Nat):Int) * (y1:Int)))=((u % y1:Nat):Int):=by
  have h:=Nat.div_add_mod' u y1
  rw [c9g]
  generalize u / y1 * y1=P at h ⊢
  simp only [B1,IntKind.wrap_u64]
  omega
 rw [decide_eq_false (by omega),Bool.not_false,C4,eq0,er0]
 exact d3o rfl k1 k2 k3 hu hd1 hg (by omega) (d7e (by omega) k1 k2 k3 hu hd1 hd2)
def mdF (x y c:Nat):Int × Bool:=if c=0 then(0,false) else if c<=x * y / 18446744073709551616 then(0,false) else(((x * y / c:Nat):Int),true)
theorem c2W {x y c:Nat} (hx:x < 18446744073709551616) (hy:y < 18446744073709551616) (hc:c < 18446744073709551616):a6A (x:Int) (y:Int) (c:Int)=some (mdF x y c):=by
 rw [<-L4]
 unfold a6A mdF
 rw [b8z hx hy,Option.bind_some]
 dsimp only
 by_cases h:c<=x * y / 18446744073709551616
 ·rw [decide_eq_true (by omega),E4,A3]
  split <;> simp
 ·rw [decide_eq_false (by omega),C6,B6]
  have h1:=Nat.div_add_mod' (x * y) 18446744073709551616
  refine(c5J (hi:=x * y / 18446744073709551616) (lo:=x * y % 18446744073709551616) (y:=c) (by omega) (by omega) hc).mono fun r hr=>?_
  rw [h1] at hr
  rw [A3,if_neg (by omega),if_neg h,hr]
theorem d0F (lo:Nat) {k:Nat} (hk:k < 64):lo / 2 ^ (63 - k)=2 * (lo / 2 ^ (64 - k)) + lo / 2 ^ (63 - k) % 2:=by
 have h:lo / 2 ^ (64 - k)=lo / 2 ^ (63 - k) / 2:=by
  rw [Nat.div_div_eq_div_mul,<-Nat.pow_succ,show(63 - k).succ=64 - k by omega]
 rw [h];omega
theorem c5K {x y c:Nat} (hx:x < 18446744073709551616) (hy:y < 18446744073709551616) (hc:c < 18446744073709551616):a1L (x:Int) (y:Int) (c:Int)=some (mdF x y c):=by
 rw [<-L4]
 unfold a1L mdF
 rw [c2V hx hy,Option.bind_some]
 dsimp only
 by_cases h0:c=0
 ·subst h0
  rw [decide_eq_true (by omega),E4,if_pos rfl,A3]
 rw [decide_eq_false (by omega),C6,if_neg h0]
 by_cases h:c<=x * y / 18446744073709551616
 ·rw [decide_eq_true (by omega),E4,if_pos h,A3]
 rw [decide_eq_false (by omega),C6,if_neg h]
 obtain⟨hi,hhi⟩:∃ hi,hi=x * y / 18446744073709551616:=⟨_,rfl⟩
 obtain⟨lo,hlo⟩:∃ lo,lo=x * y % 18446744073709551616:=⟨_,rfl⟩
 have hN:x * y=hi * 18446744073709551616 + lo:=by omega
 have hlo2:lo < 18446744073709551616:=by omega
 have hhi2:hi < c:=by omega
 rw [<-hhi,<-hlo,hN]
 clear hhi hlo hN h
 unfold a5d
 refine Q7 (fun m v=>∃ k rest out:Nat,v=((c:Int),(rest:Int),(lo:Int),(out:Int),63 - (k:Int))/\k<=64/\m=64 - k/\out * c + rest=hi * 2 ^ k + lo / 2 ^ (64 - k)/\rest < c/\out < 2 ^ k) ?_ (n:=64) ⟨0,hi,0,rfl,by omega,rfl,by rw [Nat.zero_mul,Nat.zero_add,Nat.pow_zero,Nat.mul_one,Nat.sub_zero,Nat.div_eq_of_lt hlo2];rfl,hhi2,by omega⟩ (by omega)
 rintro m v ⟨k,rest,out,rfl,hk,rfl,hinv,hr,ho⟩
 unfold a2u
 dsimp only
 rw [C0]
 refine⟨fun hcnd=>?_,fun hcnd=>?_⟩
 ·have hcnd:=of_decide_eq_true hcnd
  have hk':k < 64:=by omega
  have hnext:=d0F lo hk'
  obtain⟨b,hb⟩:∃ b,b=lo / 2 ^ (63 - k) % 2:=⟨_,rfl⟩
  have hb2:b < 2:=by omega
  have hpk:2 ^ (k + 1)=2 ^ k * 2:=Nat.pow_succ ..
  have hpk2:2 ^ k<=2 ^ 63:=Nat.pow_le_pow_right (by omega) (by omega)
  have hV:hi * 2 ^ (k + 1) + lo / 2 ^ (64 - (k + 1))=2 * (out * c + rest) + b:=by
   rw [show 64 - (k + 1)=63 - k by omega,hnext,hinv,hpk,<-hb,<-Nat.mul_assoc];omega
  have e1:min (Int.toNat (63 - (k:Int))) 64=63 - k:=by omega
  have e2:(lo:Int) / 2 ^ (63 - k)=((lo / 2 ^ (63 - k):Nat):Int):=by
   rw [show(2:Int) ^ (63 - k)=((2 ^ (63 - k):Nat):Int) by rw [Int.natCast_pow];rfl,d5M]
  have hle:lo / 2 ^ (63 - k) < 18446744073709551616:=Nat.lt_of_le_of_lt (Nat.div_le_self _ _) hlo2
  have e3:B1 ((rest:Int) * 2 ^ 1)=((2 ^ 1 * (rest % 9223372036854775808):Nat):Int):=by
   rw [B1,IntKind.wrap_u64];omega
  have e4:B1 ((out:Int) * 2 ^ 1)=((2 ^ 1 * out:Nat):Int):=by
   rw [K9] <;> omega
  have e5:A5 (63 - (k:Int) - 1)=63 - ((k + 1:Nat):Int):=by rw [E0] <;> omega
  have ho1:bits .or .u64 ((2 ^ 1 * (rest % 9223372036854775808):Nat):Int) ((b:Nat):Int)=((2 ^ 1 * (rest % 9223372036854775808) + b:Nat):Int):=c4o (by omega) (by omega)
  have ho2:bits .or .u64 ((2 ^ 1 * out:Nat):Int) 1=((2 ^ 1 * out + 1:Nat):Int):=c4o (b:=1) (by omega) (by omega)
  rw [decide_eq_true hcnd,C4,e1,e2,d3k hle,<-hb,e3,ho1,e4]
  have hbig:out * c + out * c + 2 * rest + b=2 * (out * c + rest) + b:=by omega
  have htake:c<=2 * rest + b->B1 (((2 ^ 1 * (rest % 9223372036854775808) + b:Nat):Int) - (c:Int))=((2 * rest + b - c:Nat):Int):=fun hcc=>by
   rw [B1,IntKind.wrap_u64];omega
  have hyes:c<=2 * rest + b->Ok (M6 (c:Int) ((2 ^ 1 * (rest % 9223372036854775808) + b:Nat):Int) (lo:Int) ((2 ^ 1 * out:Nat):Int) (63 - (k:Int)) true) (Nxt (fun r=>r=((((hi * 18446744073709551616 + lo) / c:Nat):Int),true)) fun z=>∃ m,m < 64 - k/\∃ k rest out:Nat,z=((c:Int),(rest:Int),(lo:Int),(out:Int),63 - (k:Int))/\k<=64/\m=64 - k/\out * c + rest=hi * 2 ^ k + lo / 2 ^ (64 - k)/\rest < c/\out < 2 ^ k):=fun hcc=>by
   unfold M6
   rw [E4,htake hcc,ho2,e5,A3,B4]
   refine⟨64 - (k + 1),by omega,k + 1,2 * rest + b - c,2 ^ 1 * out + 1,rfl,by omega,rfl,?_,by omega,by omega⟩
   have hoc:(2 ^ 1 * out + 1) * c=out * c + out * c + c:=by
    rw [Nat.succ_mul,show 2 ^ 1 * out=out + out by omega,Nat.add_mul]
   rw [hV,hoc];omega
  rw [C0]
  refine⟨fun hcar=>?_,fun hcar=>?_⟩
  ·have hcar:=of_decide_eq_true hcar
   have:9223372036854775808<=rest:=by omega
   exact hyes (by omega)
  ·have hcar:=of_decide_eq_false hcar
   have hsm:rest < 9223372036854775808:=by omega
   have hmod:rest % 9223372036854775808=rest:=Nat.mod_eq_of_lt hsm
   by_cases hcc:c<=2 * rest + b
   ·rw [decide_eq_true (by rw [hmod];omega)]
    exact hyes hcc
   ·rw [decide_eq_false (by rw [hmod];omega)]
    unfold M6
    rw [C6,e5,A3,B4,hmod]
    refine⟨64 - (k + 1),by omega,k + 1,2 ^ 1 * rest + b,2 ^ 1 * out,rfl,by omega,rfl,?_,by omega,by omega⟩
    have hoc:(2 ^ 1 * out) * c=out * c + out * c:=by
     rw [show 2 ^ 1 * out=out + out by omega,Nat.add_mul]
    rw [hV,hoc];omega
 ·have hcnd:=of_decide_eq_false hcnd
  have e:k=64:=by omega
  subst e
  rw [A3,B8]
  have hd:(hi * 18446744073709551616 + lo) / c=out:=by
   have h1:hi * 18446744073709551616 + lo=rest + out * c:=by
    rw [Nat.sub_self,Nat.pow_zero,Nat.div_one] at hinv
    have:(2:Nat) ^ 64=18446744073709551616:=rfl
    rw [this] at hinv
    omega
   rw [h1,Nat.add_mul_div_right _ _ (by omega),Nat.div_eq_of_lt hr,Nat.zero_add]
  rw [hd]
theorem d0G (x y c:Nat):mdF x y c=mdF y x c:=by unfold mdF;rw [Nat.mul_comm]
def c8m (fee gas:Nat):Int:=if gas=0 then 0 else if(mdF fee 1000 gas).2=true then(mdF fee 1000 gas).1 else 18446744073709551615
theorem c8n {fee gas:Nat} (h1:fee < 18446744073709551616) (h2:gas < 18446744073709551616):a4w (fee:Int) (gas:Int)=some (c8m fee gas):=by
 unfold a4w c8m
 by_cases h:gas=0
 ·subst h;rw [decide_eq_true (by omega),E4,if_pos rfl]
 ·have e:=c2W (x:=1000) (y:=fee) (c:=gas) (by omega) h1 h2
  rw [decide_eq_false (by omega),C6,if_neg h,show(1000:Int)=((1000:Nat):Int) from rfl,e,Option.bind_some,d0G]
  cases (mdF fee 1000 gas).2 with
  | true=>rw [if_pos rfl];rfl
  | false=>rw [if_neg (by decide)];rfl
theorem d0H {fee gas:Nat} (h1:fee < 18446744073709551616) (h2:gas < 18446744073709551616):Q4 (fee:Int) (gas:Int)=some (c8m fee gas):=by
 unfold Q4 c8m
 by_cases h:gas=0
 ·subst h;rw [decide_eq_true (by omega),E4,if_pos rfl]
 ·have e:=c5K (x:=fee) (y:=1000) (c:=gas) h1 (by omega) h2
  rw [decide_eq_false (by omega),C6,if_neg h,show(1000:Int)=((1000:Nat):Int) from rfl,e,Option.bind_some]
  cases (mdF fee 1000 gas).2 with
  | true=>rw [if_pos rfl];rfl
  | false=>rw [if_neg (by decide)];rfl
end Go.Proofs.YtbipjlehhlkghaaGreatDoor.Am
